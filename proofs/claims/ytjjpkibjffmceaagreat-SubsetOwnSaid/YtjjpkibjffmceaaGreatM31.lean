/-
  What is asked for, by bits.
-/
import Derived.Test.YtjjpkibjffmceaaGreatM26
import Derived.Test.YtjjpkibjffmceaaGreatM30
import Derived.Laws.BitsAllLaws
import Derived.Test.YtjjpkibjffmceaaGreatM06
import Derived.Laws.Shifts
import Derived.Test.YtjjpkibjffmceaaGreatM25
import Derived.Test.YtjjpkibjffmceaaGreatM07
import Derived.Test.YtjjpkibjffmceaaGreatM12
import Derived.Test.YtjjpkibjffmceaaGreatM23
namespace Go.Proofs.YtjjpkibjffmceaaGreat
open Go.RowKit
attribute [local irreducible] AT bW AX AO Av Kt bA eI DA dl
def iC (a:Int) (i:Nat):Bool:=decide (bits .and .u32 (a / 2 ^ min i 32) 1=1)
def f0 {α:Type} (p:Nat→Bool) (l:List α):Nat→List α
 | 0=>[]
 | k+1=>f0 p l k++(if p k=true then (l[k]?).toList else [])
theorem s9 {α:Type} {p:Nat→Bool} {l:List α} {x:α}:∀{k:Nat},x∈f0 p l k↔∃i,i < k∧p i=true∧l[i]?=some x
 | 0=>by simp [f0]
 | k+1=>by
  rw [f0,List.mem_append,s9]
  constructor
  ·rintro (⟨i,h1,h2⟩ | h)
   ·exact ⟨i,by omega,h2⟩
   ·split at h
    ·rename_i hp
     exact ⟨k,by omega,hp,Option.mem_toList.1 h⟩
    ·cases h
  ·rintro ⟨i,h1,h2,h3⟩
   by_cases e:i=k
   ·subst e
    right
    rw [if_pos h2]
    exact Option.mem_toList.2 h3
   ·exact .inl ⟨i,by omega,h2,h3⟩
theorem og {α:Type} (p:Nat→Bool) (l:List α):∀k,(f0 p l k).length≤k
 | 0=>Nat.le_refl _
 | k+1=>by
  have:=og p l k
  rw [f0,List.length_append]
  split
  ·cases l[k]? <;> simp <;> omega
  ·simp;omega
def BO:ByteArray:=bytes [110,111,110,101]
def vC (a:Int):List Int:=f0 (iC a) gJ 17
def Aj (a:Int):List ByteArray:=f0 (iC a) (eG++[BO]) 9
theorem xP {a z:Int} (h:z∈vC a):z∈gJ:=by
 obtain ⟨i,_,_,hi⟩:=s9.1 h
 exact Iw hi
theorem xR {rs:List Int} (h:∀z∈rs,z∈gJ∨z=1114111):rs.any nU=false:=by
 rw [Bool.eq_false_iff]
 intro hb
 obtain ⟨z,hz,hbz⟩:=List.any_eq_true.1 hb
 rcases h z hz with k | rfl
 ·rw [Cq _ k] at hbz;cases hbz
 ·exact absurd hbz (by decide)
def Hv {α:Type} (x:α) (l:List α):List α:=x::(l.reverse.flatMap fun y=>[y,y])
def GC:ByteArray:=bytes [110,111,116,104,105,110,103]
noncomputable def i8 (f:aL) (rs:List Int) (fs:List ByteArray):List Int:=dW (nd f rs fs)
theorem yz {f:aL} {rs:List Int} {fs:List ByteArray} {z:Int}:z∈i8 f rs fs↔z∈nd f rs fs:=(ij _).mem_iff
theorem jA (f:aL) (rs:List Int) (fs:List ByteArray):ci f.Glyphs.length (i8 f rs fs):=by
 have h:=(sS (f:=f) rs fs).ok
 exact ⟨(ij _).nodup_iff.2 h.nodup,fun z hz=>h.dom z (yz.1 hz)⟩
theorem rX (f:aL) (rs:List Int) (fs:List ByteArray):(i8 f rs fs).length≤f.Glyphs.length:=gH (jA f rs fs).nodup (jA f rs fs).dom
theorem wr (f:aL) (fs:List ByteArray):(cW f fs).length≤f.Lookups.length:=by
 unfold cW
 refine Nat.le_trans (List.length_filter_le ..) ?_
 simp
end Go.Proofs.YtjjpkibjffmceaaGreat
namespace Go.Proofs.YtjjpkibjffmceaaGreat
open Go.RowKit
section
variable {P:Program} {tt:TT} {r:Option Nat} {ops:Array Oper} {Q:Exit→Act→World→Prop} {nt:Nat} {D:List Deferred} {fr:cu} {B:Bs} {L:AL} {rest:List Oper} {d:Nat} {ty t t':TypeId} {pos:String} {af:Array Edge} {g:Option (Nat×Bool)} {x y z:Operand} {u:AV}
theorem F7 {dd:Option Tmp} {k kk:IntKind} {a b:Int} (i:Nat) (hx:bO fr x=some (.sc (.int k a))) (hy:bO fr y=some (.sc (.int kk b))) (hb:b=(i:Int)):Av P ⟨dd,.binOp .shr t x y t',ty,pos,af,g⟩ fr (.sc (.int k (a / 2 ^ min i k.bits))):=by
 intro σ ρ w hρ _
 subst hb
 refine ⟨_,?_,.sc _⟩
 have h:=shift_shr_any k kk a (i:Int) (Int.natCast_nonneg i)
 simp [execOp,(hρ x _ hx).sc_inv,(hρ y _ hy).sc_inv,eqGuard,binOp,h]
theorem ES {dd:Option Tmp} {k:IntKind} {a b:Int} (hx:bO fr x=some (.sc (.int k a))) (hy:bO fr y=some (.sc (.int k b))):Av P ⟨dd,.binOp .and t x y t',ty,pos,af,g⟩ fr (.sc (.int k (bits .and k a b))):=by
 intro σ ρ w hρ _
 refine ⟨_,?_,.sc _⟩
 simp [execOp,(hρ x _ hx).sc_inv,(hρ y _ hy).sc_inv,eqGuard,binOp,intBits_and]
theorem BM (i:Nat) {k kk:IntKind} {a b:Int} (hx:bO fr x=some (.sc (.int k a))) (hy:bO fr y=some (.sc (.int kk b))) (hb:b=(i:Int)) (hd:Nat.ble nt d=false) (h:bW P r ops Q nt D rest ((d,.sc (.int k (a / 2 ^ min i k.bits)))::fr) B L):
  bW P r ops Q nt D (⟨some d,.binOp .shr t x y t',ty,pos,af,none⟩::rest) fr B L:=dX (F7 i hx hy hb) hd rfl h
theorem BG {k:IntKind} {a b:Int} (hx:bO fr x=some (.sc (.int k a))) (hy:bO fr y=some (.sc (.int k b))) (hd:Nat.ble nt d=false) (h:bW P r ops Q nt D rest ((d,.sc (.int k (bits .and k a b)))::fr) B L):
  bW P r ops Q nt D (⟨some d,.binOp .and t x y t',ty,pos,af,none⟩::rest) fr B L:=dX (ES hx hy) hd rfl h
end
end Go.Proofs.YtjjpkibjffmceaaGreat
namespace Go.Proofs.YtjjpkibjffmceaaGreat
open Go.RowKit
attribute [local irreducible] AT bW AX AO Av Kt bA eI DA dl
abbrev G0 (z:Int):AV:= .sc (.int .u32 z)
structure CD where
 Font:List Int
 Runes:Int
 Features:Int
 Text:List Int
 Place:List Int
 Some:Int
def Aq (a:CD):List AV:=[.imm 1 (aZ a.Font),G0 a.Runes,G0 a.Features,.imm 1 (aZ a.Text),.imm 1 (aZ a.Place),G0 a.Some]
theorem yO:EH Tryz.prog 23 [] 9 1 (gg eG):=by
 refine aS Tryz.func23 rfl Tryz.ntmps23 rfl fun B=>?_
 repeat' (first|refine go ?_|refine HK a6 FS ?_|refine ji (d:=1) a6 fun _=>?_|fail)
 exact HS FS ⟨_,rfl,rfl⟩
set_option maxHeartbeats 1000000 in
theorem uS (a:CD):bV Tryz.prog 9 [.agg (Aq a)] (jR (vC a.Runes) (Aj a.Features)):=by
 refine aS Tryz.func9 rfl Tryz.ntmps9 rfl fun B=>?_
 repeat' (first|refine go ?_|refine HK a6 FS ?_|(apply aG;first|refine HM a6 0 HH ?_|refine HM a6 1 HH ?_|refine HM a6 2 HH ?_|refine HM a6 3 HH ?_|fail)|refine bh ?_|refine aX a6 fun _=>?_|fail)
 refine xf zn rfl rfl rfl fun k=>?_
 repeat' (first|refine bG a6 ?_|fail)
 rename_i t2 t3
 refine bB a6 [(t3,.box [bQ,bQ] 40),(t2,.box [bQ,bQ] 40)] rfl rfl rfl rfl (Im _) (by simp [aQ,fx]) (by simp [aQ,fx]) rfl fun k'=>?_
 refine aO (bf (t:=11) (c':= .imm 1 (aZ gJ)) rfl fun σ v h=>VR.im h) ?_
 refine aO (ck (L':=[(t3,.box [bQ,bQ] 40),(t2,.box [bQ,bQ] 40)]) (List.sublist_append_right ..)) ?_
 have h17:(aZ gJ).length=17:=rfl
 repeat' (first|refine go ?_|refine ak ?_|refine HK a6 FS ?_)
 refine bH (bD 0 rfl fun σ vs h=>cC (k:=0) (c':= .vec none 1 []) h rfl fun v hv=>cq 1 hv) ?_
 refine aJ [1,2,3,4] (α:=Nat×Option (Nat×Nat)) (fun x=>[(5,aP x.1)]) (fun x=>x.1≤17) (fun x=>[(t3,.box [.vec x.2 1 (aZ (f0 (iC a.Runes) gJ x.1)),bQ] 40),(t2,.box [bQ,bQ] 40)]++tok x.2 3 1 (aZ (f0 (iC a.Runes) gJ x.1)).length) (fun x=>17 - x.1) (0,none) rfl ⟨rfl,trivial⟩ (Nat.zero_le _) (fun _ _ h=>h) ?_
 rintro ⟨i,q⟩ hi
 dsimp only at hi ⊢
 have hpl:=og (iC a.Runes) gJ i
 have hsl:=aQ (f0 (iC a.Runes) gJ i)
 try dsimp only [Ir,Iq,Ip,Ij]
 repeat' (first|refine go ?_|refine HK a6 FS ?_)
 refine ay rfl (fun h=>?_) (fun h=>?_)
 ·have hil:i < 17:=by have:=Iy h;rw [h17] at this;omega
  obtain ⟨z,hz⟩:∃z,gJ[i]?=some z:=⟨_,Iz (by exact hil)⟩
  have hzg:=bT hz
  clear h
  repeat' (first|refine go ?_|refine ak ?_|refine HK a6 FS ?_)
  refine BM i rfl rfl rfl rfl ?_
  repeat' (first|fail)
  refine BG rfl rfl rfl ?_
  repeat' (first|refine go ?_|refine HK a6 FS ?_)
  refine ay rfl (fun hb=>?_) (fun hb=>?_)
  ·have hb:iC a.Runes i=true:=hb
   have hst:f0 (iC a.Runes) gJ (i+1)=f0 (iC a.Runes) gJ i++[z]:=by rw [f0,hz,if_pos hb];rfl
   repeat' (first|fail)
   refine bn 7 [(0,.v),(1,.l),(2,.v),(3,.v),(4,.v),(5,.v),(6,.v)] none ?_ trivial rfl (by kernel_rfl) (by kernel_rfl) (by kernel_rfl) mixed (by kernel_rfl) rfl
   repeat' (first|refine aC ?_|refine b7 a6 ?_|(apply bY;refine cn a6 ?_)|refine eS a6 ?_|refine dt a6 0 rfl rfl rfl rfl (by first|trivial|rfl) ?_)
   refine HU [1,2,3,4,5,25,30] FS ?_
   repeat' (first|fail)
   refine bB a6 _ rfl rfl rfl rfl (List.perm_append_comm (l₁:=[_,_])) (by simp;omega) (by simp;omega) rfl fun q'=>?_
   refine aO (aK (List.perm_append_comm (l₂:=[_,_]))) ?_
   repeat' (first|refine go ?_|refine HK a6 FS ?_|(apply aW;refine aV ?_)|(apply aG;first|refine HM a6 0 HH ?_|refine HM a6 1 HH ?_|refine HM a6 2 HH ?_|refine HM a6 3 HH ?_|fail))
   exact aB (i+1,q') rfl ⟨by rw [Iv];rfl,trivial⟩ (by dsimp only;omega) (by dsimp only;omega) (fun _ _ h=>by dsimp only;rw [hst,←kZ];exact h)
  ·have hb:iC a.Runes i=false:=hb
   have hst:f0 (iC a.Runes) gJ (i+1)=f0 (iC a.Runes) gJ i:=by rw [f0,hb,if_neg (by decide),List.append_nil]
   repeat' (first|refine go ?_|refine HK a6 FS ?_|(apply aW;refine aV ?_)|fail)
   exact aB (i+1,q) rfl ⟨by rw [Iv];rfl,trivial⟩ (by dsimp only;omega) (by dsimp only;omega) (fun _ _ h=>by dsimp only;rw [hst];exact h)
 have hil:i=17:=by have:=Ix h;rw [h17] at this;omega
 subst hil
 clear h hi
 have hR:f0 (iC a.Runes) gJ 17=vC a.Runes:=rfl
 rw [hR]
 clear hR hsl hpl
 generalize vC a.Runes=R
 repeat' (first|refine go ?_|fail)
 refine aO (bD 0 rfl fun σ vs h=>cC (k:=0) (c':= .imm 1 (aZ R)) h rfl fun v hv=>VR.im hv) ?_
 refine aO (ck (L':=[(t3,.box [.imm 1 (aZ R),bQ] 40),(t2,.box [bQ,bQ] 40)]) (List.sublist_append_left [_,_] _)) ?_
 refine aO (bD 0 rfl fun σ vs h=>cC (k:=1) (c':= .vec none 1 []) h rfl fun v hv=>cq 1 hv) ?_
 refine xf yO rfl rfl rfl fun k2=>?_
 repeat' (first|refine bG a6 ?_|fail)
 refine bB a6 [(t3,.box [.imm 1 (aZ R),.vec none 1 []] 40),(t2,.box [bQ,bQ] 40)] rfl rfl rfl rfl (Im _) (by simp [fk,eG]) (by simp [fk,eG]) rfl fun k3=>?_
 refine aO (bf (t:=35) (c':= .imm 1 (gg (eG++[BO]))) rfl fun σ v h=>VR.im h) ?_
 refine aO (ck (L':=[(t3,.box [.imm 1 (aZ R),.vec none 1 []] 40),(t2,.box [bQ,bQ] 40)]) (List.sublist_append_right ..)) ?_
 generalize hNN:eG++[BO]=NN
 have h9:(gg NN).length=9:=by rw [←hNN];rfl
 have h9':NN.length=9:=by rw [←hNN];rfl
 repeat' (first|refine go ?_|refine ak ?_|refine HK a6 FS ?_)
 refine aJ [1,2,3,6] (α:=Nat×Option (Nat×Nat)) (fun x=>[(7,aP x.1)]) (fun x=>x.1≤9) (fun x=>[(t3,.box [.imm 1 (aZ R),.vec x.2 1 (gg (f0 (iC a.Features) NN x.1))] 40),(t2,.box [bQ,bQ] 40)]++tok x.2 9 1 (gg (f0 (iC a.Features) NN x.1)).length) (fun x=>9 - x.1) (0,none) rfl ⟨rfl,trivial⟩ (Nat.zero_le _) (fun _ _ h=>h) ?_
 rintro ⟨i,q⟩ hi
 dsimp only at hi ⊢
 have hpl:=og (iC a.Features) NN i
 have hsl:=fk (f0 (iC a.Features) NN i)
 try dsimp only [Ir,Iq,Ip,Ij]
 repeat' (first|refine go ?_|refine HK a6 FS ?_)
 refine ay rfl (fun h=>?_) (fun h=>?_)
 ·have hil:i < 9:=by have:=Iy h;rw [h9] at this;omega
  obtain ⟨z,hz⟩:∃z,NN[i]?=some z:=⟨_,Iz (by omega)⟩
  have hzg:(gg NN)[i]?=some [gO z]:=by unfold gg;rw [List.getElem?_map,hz];rfl
  clear h
  repeat' (first|refine go ?_|refine ak ?_|refine HK a6 FS ?_)
  refine BM i rfl rfl rfl rfl ?_
  repeat' (first|fail)
  refine BG rfl rfl rfl ?_
  repeat' (first|refine go ?_|refine HK a6 FS ?_)
  refine ay rfl (fun hb=>?_) (fun hb=>?_)
  ·have hb:iC a.Features i=true:=hb
   have hst:f0 (iC a.Features) NN (i+1)=f0 (iC a.Features) NN i++[z]:=by rw [f0,hz,if_pos hb];rfl
   repeat' (first|fail)
   refine bn 7 [(0,.v),(1,.l),(2,.v),(3,.v),(4,.v),(5,.v),(6,.v)] none ?_ trivial rfl (by kernel_rfl) (by kernel_rfl) (by kernel_rfl) mixed (by kernel_rfl) rfl
   repeat' (first|refine aC ?_|refine b7 a6 ?_|(apply bY;refine cn a6 ?_)|refine eS a6 ?_|refine dt a6 0 rfl rfl rfl rfl (by first|trivial|rfl) ?_)
   refine HU [1,2,3,6,7,49,54] FS ?_
   repeat' (first|fail)
   refine bB a6 _ rfl rfl rfl rfl (List.perm_append_comm (l₁:=[_,_])) (by simp;omega) (by simp;omega) rfl fun q'=>?_
   refine aO (aK (List.perm_append_comm (l₂:=[_,_]))) ?_
   repeat' (first|refine go ?_|refine HK a6 FS ?_|(apply aW;refine aV ?_)|(apply aG;first|refine HM a6 0 HH ?_|refine HM a6 1 HH ?_|refine HM a6 2 HH ?_|refine HM a6 3 HH ?_|fail))
   exact aB (i+1,q') rfl ⟨by rw [Iv];rfl,trivial⟩ (by dsimp only;omega) (by dsimp only;omega) (fun _ _ h=>by dsimp only;rw [hst,Ci];exact h)
  ·have hb:iC a.Features i=false:=hb
   have hst:f0 (iC a.Features) NN (i+1)=f0 (iC a.Features) NN i:=by rw [f0,hb,if_neg (by decide),List.append_nil]
   repeat' (first|refine go ?_|refine HK a6 FS ?_|(apply aW;refine aV ?_)|fail)
   exact aB (i+1,q) rfl ⟨by rw [Iv];rfl,trivial⟩ (by dsimp only;omega) (by dsimp only;omega) (fun _ _ h=>by dsimp only;rw [hst];exact h)
 have hil:i=9:=by have:=Ix h;rw [h9] at this;omega
 subst hil
 clear h hi
 have hF:f0 (iC a.Features) NN 9=Aj a.Features:=by rw [←hNN];rfl
 rw [hF]
 clear hF hsl hpl hNN h9 h9'
 generalize Aj a.Features=F
 repeat' (first|refine go ?_|(apply bK;first|refine HO a6 0 HG ?_|refine HO a6 1 HG ?_|refine HO a6 2 HG ?_|refine HO a6 3 HG ?_|refine HP a6 0 HG ?_|refine HP a6 1 HG ?_|refine HP a6 2 HG ?_|refine HR a6 1 HE (by assumption) rfl ?_|refine HR a6 0 HE (by assumption) rfl ?_|fail)|(apply aG;first|refine HM a6 0 HH ?_|refine HM a6 1 HH ?_|refine HM a6 2 HH ?_|refine HM a6 3 HH ?_|fail))
 refine bc (bD 1 (cs':=[.imm 1 (aZ R),.imm 1 (gg F)]) rfl fun σ vs h=>nN.vrs (a:=[.imm 1 (aZ R),.vec q 1 (gg F)]) (b:=[.imm 1 (aZ R),.imm 1 (gg F)]) ⟨dH.refl _,dH.im,trivial⟩ h) ?_
 exact pj (cs:=[jR R F]) ⟨⟨t2,1,_,_,rfl,rfl,.inr ⟨ct a6 rfl,rfl⟩⟩,trivial⟩ rfl
theorem yG (l:List Int):bV Tryz.prog 8 [.imm 1 (aZ l)] (cr (nh (l.take 300))):=by
 refine aS Tryz.func8 rfl Tryz.ntmps8 rfl fun B=>?_
 have hnl:=aQ l
 repeat' (first|refine go ?_|refine HK a6 FS ?_|refine aX a6 fun _=>?_|fail)
 refine Fx a6 (min l.length 300) rfl rfl rfl rfl rfl (by omega) (by omega) rfl ?_
 rw [yu,show l.take (min l.length 300)=l.take 300 by
  rcases Nat.le_total l.length 300 with h | h
  ·rw [Nat.min_eq_left h,List.take_of_length_le (Nat.le_refl _),List.take_of_length_le h]
  ·rw [Nat.min_eq_right h]]
 repeat' (first|fail)
 refine bg (hc:=⟨Bx (l.take 300) (by rw [List.length_take];omega)⟩) ?_
 repeat' (first|refine go ?_|(apply aG;first|refine HM a6 0 HH ?_|refine HM a6 1 HH ?_|refine HM a6 2 HH ?_|refine HM a6 3 HH ?_|fail))
 exact pj (cs:=[cr (nh (l.take 300))]) ⟨⟨_,0,_,_,rfl,rfl,.inr ⟨ct a6 rfl,rfl⟩⟩,trivial⟩ rfl
end Go.Proofs.YtjjpkibjffmceaaGreat
namespace Go.Proofs.YtjjpkibjffmceaaGreat
open Go.ChangeShapes Go.WideShapes Go.ChangeAt Go.RowKit Go.Deep Go.Joins
section
variable {H:Type} {enc:TypeId×Value→H} {W:World}
abbrev rr (z:Int):Prop:=0≤z∧z < 4294967296
theorem DO {P:Program} {t:TypeId} (ht:P.underlying t=some (.int .u32)):xI enc P W t (fun z:Int=>[G0 z]) rr:=fun fuel cs x h _=>by
 obtain ⟨z,rfl,-,hz⟩:=DataW.trod_int ht h
 have h1:IntKind.u32.min≤z∧z≤IntKind.u32.max:=by simpa [Lit.wf] using hz
 exact ⟨z,dx.cons (.sc _) dx.nil,by intro u hu;rw [Ik hu];rfl,h1.1,Int.lt_of_le_of_lt h1.2 (by decide)⟩
theorem oU:xI enc Tryz.prog W 23 (fun z:Int=>[G0 z]) rr:=DO Tryz.underlying23
theorem oA:xI enc Tryz.prog W 25 Aq (fun a=>rr a.Runes∧rr a.Features):=
 (wp (N:=6) Tryz.underlying25 (by kernel_rfl) (iL (s:=1) rfl (by kernel_rfl) Hj (iL (s:=1) rfl (by kernel_rfl) oU (iL (s:=1) rfl (by kernel_rfl) oU (iL (s:=1) rfl (by kernel_rfl) Hj (iL (s:=1) rfl (by kernel_rfl) Hj (iL (s:=1) rfl (by kernel_rfl) oU BS))))))).map
  (fun p=>⟨p.1,p.2.1,p.2.2.1,p.2.2.2.1,p.2.2.2.2.1,p.2.2.2.2.2.1⟩) (fun _=>rfl) fun _ h=>⟨h.2.1,h.2.2.1⟩
set_option maxRecDepth 100000 in
theorem yQ {base:Nat} {v:Value} {d:DataW H} {p:List MemPlace} (hok:Value.okWide Tryz.prog W .any base 25 v) (h:DataW.Trod enc Tryz.prog W 0 (fun _=>true) true 25 v d p) (hl:zK Tryz.prog 25 d):∃a:CD,VR (la W) (.agg (Aq a)) v∧rr a.Runes∧rr a.Features:=by
 obtain ⟨cs,rfl,hsz⟩:=okWide_struct Tryz.underlying25 hok
 obtain ⟨fuel,hf⟩:=h
 obtain ⟨x,h1,h2,h3⟩:=oA (enc:=enc) fuel cs.toList _ (by simpa [Value.cells] using hf) hl
 have:=VR.agg (σ:=la W) _ _ h1.1 h1.2 h2
 exact ⟨x,by simpa using this,h3⟩
end
end Go.Proofs.YtjjpkibjffmceaaGreat
namespace Go.Proofs.YtjjpkibjffmceaaGreat
open Go.RowKit
def ia (u u':Value):Prop:=match u with
 | .int k _=>∃z,u'= .int k z
 | .string _=>∃s,u'= .string s
 | .bool _=>∃b,u'= .bool b
 | _=>u'=u
theorem ia.refl (u:Value):ia u u:=by
 unfold ia
 split
 ·exact ⟨_,rfl⟩
 ·exact ⟨_,rfl⟩
 ·exact ⟨_,rfl⟩
 ·rfl
def i9 (τ:ce) (b:Nat) (o:Obj):Prop:=∃(cur:Array Value) (t:TypeId),o= .cells cur t (0,0)∧∀off u,τ b off=some u→∃u',cur[off]?=some u'∧ia u u'
def dp (σ0:ce) (b:Nat):Prop:=∀o,σ0 b o=none
theorem dp.anti {σ τ:ce} (h:σ.le τ) {b:Nat} (k:dp τ b):dp σ b:=fun o=>by
 cases e:σ b o with
 | none=>rfl
 | some u=>have:=h _ _ _ e;rw [k o] at this;cases this
def gh (σ0:ce) (Q:AB):AB:= .dep (fun σ o=>σ0.le σ∧Q.holds σ o) (fun _ _ _ hle h=>⟨ce.le_trans h.1 hle,AB.mono hle h.2⟩)
theorem VR.newIm {σ:ce} {q:Nat→Prop} {sz:Nat} {l:List (List AV)} {v:Value} (h:VR σ (.new q sz l) v):VR σ (.imm sz l) v:=by cases h;assumption
theorem dH.newIm {q:Nat→Prop} {sz:Nat} {l:List (List AV)}:dH (.new q sz l) (.imm sz l):=fun _ _ h=>h.newIm
theorem py {σ:ce} {v:Value} (q:Nat→Prop) (sz:Nat) (h:VR σ (.sc (.slice none 0 0)) v):VR σ (.new q sz []) v:= .new _ _ _ _ (fX sz h) fun _ _ _ _ _ hne=>absurd rfl hne
theorem dH.nilN (q:Nat→Prop) (n:Nat):dH (.sc (.slice none 0 0)) (.new q n []):=fun _ _ h=>py q n h
section
variable {P:Program} {f:FuncId} {fn:Func} {c:Code} {nt:Nat} {args:List AV} {L:AL}
theorem iP {Post:AV→AL→Prop} {z:Nat} {σ0:ce} {Q:AB} (hz:(z,gh σ0 Q)∈L) (hf:P.funcs[f]?=some fn) (hb:fn.body=some c) (hn:fn.ntmps=nt) (hs:Nat.ble args.length nt=true)
  (h:∀B,B.X=L.map (·.1)→(∀b,B.w.heap.size≤b→dp σ0 b)→AT P none c (bodyPost P fn (j8 B Post)) nt [] (mL 0 args) B L):AC P f args L Post:=by
 intro σ w vs hv hst
 have hq:∀b,w.heap.size≤b→dp σ0 b:=fun b hb=>by
  obtain ⟨o,_,hh⟩:=hst.here _ hz
  exact dp.anti hh.1 (fun off=>hst.fresh hb off)
 have hs':args.length≤nt:=by simpa [Nat.ble_eq] using hs
 have hl:=hv.1
 have hh:=h ⟨w,σ,L.map (·.1)⟩ rfl hq
 refine (callsIn_wide (n:=0)).1 (callsIn_of_wp hf hb trivial (hh σ _ w ⟨?_,rfl,?_⟩ hst))
 ·simp [hn];omega
 ·intro t v hlk
  obtain ⟨_,h2⟩:=gP args 0 t v hlk
  simp only [Nat.sub_zero] at h2
  have hlt:t < vs.length:=by have:=(Io h2).1;omega
  simp only [Array.getD_eq_getD_getElem?]
  rw [Array.getElem?_append_left (by simpa using hlt)]
  have:=hv.2 t v vs[t] h2 (Iz hlt)
  simpa [hlt] using this
def Cw (P:Program) (f:FuncId) (args:List AV) (Post:ce→AV→Prop):Prop:=∀σ w vs,dx σ args vs→dC ⟨w,σ,[]⟩ σ [] w→Calls P f vs.toArray w (j8 ⟨w,σ,[]⟩ fun c L=>Post σ c∧L=[])
theorem zX {Post:ce→AV→Prop} (hf:P.funcs[f]?=some fn) (hb:fn.body=some c) (hn:fn.ntmps=nt) (hs:Nat.ble args.length nt=true)
  (h:∀B,AT P none c (bodyPost P fn (j8 B fun c L=>Post B.σ c∧L=[])) nt [] (mL 0 args) B []):Cw P f args Post:=by
 intro σ w vs hv hst
 have hs':args.length≤nt:=by simpa [Nat.ble_eq] using hs
 have hl:=hv.1
 refine (callsIn_wide (n:=0)).1 (callsIn_of_wp hf hb trivial (h ⟨w,σ,[]⟩ σ _ w ⟨?_,rfl,?_⟩ hst))
 ·simp [hn];omega
 ·intro t v hlk
  obtain ⟨_,h2⟩:=gP args 0 t v hlk
  simp only [Nat.sub_zero] at h2
  have hlt:t < vs.length:=by have:=(Io h2).1;omega
  simp only [Array.getD_eq_getD_getElem?]
  rw [Array.getElem?_append_left (by simpa using hlt)]
  have:=hv.2 t v vs[t] h2 (Iz hlt)
  simpa [hlt] using this
end
section
variable {nt:Nat} {D:List Deferred} {B:Bs} {fr:cu} {L L0:AL}
theorem fN {t:Nat} {q:Nat→Prop} {k:Option (Nat×Nat)} {e sz n:Nat} {l:List (List AV)} (hX:B.X=L0.map (·.1)) (hq:∀b,B.w.heap.size≤b→q b) (hl:cw fr t=some (.vec k sz l)):mK nt D B fr (tok k e sz n++L0) ((t,.new q sz l)::fr) L0:=fun σ a w ha hw=>by
 refine ⟨σ,⟨ha.size,ha.defers,fun t' v' hl'=>?_⟩,hw.sublist (List.sublist_append_right ..)⟩
 rw [cG] at hl'
 by_cases e':t=t'
 ·subst e'
  simp only [if_true,Option.some.injEq] at hl'
  subst hl'
  have hv:=ha.look t _ hl
  refine .new q sz l _ hv.im fun b off n' cap' hv' hne=>?_
  rw [hv'] at hv
  cases hv with
  | vec b cap sz l hc hm hs hx h=>
   have hm:(b,AB.vec e sz n cap')∈tok (some (b,cap')) e sz n++L0:=List.mem_append_left _ (List.mem_cons_self ..)
   rcases hw.mine _ hm with h1 | h1
   ·exact hq b h1
   ·rw [hX] at h1
    have:=hw.apart
    unfold tok at this
    simp only [Ir,Iq,Ip,List.nodup_cons] at this
    exact absurd h1 this.1
 ·rw [if_neg e'] at hl'
  exact ha.look t' v' hl'
theorem dC.asB {a a':AB} {b:Nat} {σ:ce} {w:World} (hw:dC B σ ((b,a)::L) w) (h:∀o,a.holds σ o→a'.holds σ o) (hm:∀off,a'.mut off→a.mut off):dC B σ ((b,a')::L) w:=by
 refine ⟨hw.os,hw.tape,hw.output,hw.size,hw.old,fun p hp=>?_,fun p hp=>?_,by simpa using hw.apart,hw.froz,fun p hp off hm'=>?_,hw.grow,hw.same,hw.cold⟩
 ·rcases List.mem_cons.1 hp with rfl | hp'
  ·obtain ⟨o,ho,hh⟩:=hw.here _ (List.mem_cons_self ..)
   exact ⟨o,ho,h o hh⟩
  ·exact hw.here p (Is _ hp')
 ·rcases List.mem_cons.1 hp with rfl | hp'
  ·exact hw.mine (b,a) (List.mem_cons_self ..)
  ·exact hw.mine p (Is _ hp')
 ·rcases List.mem_cons.1 hp with rfl | hp'
  ·exact hw.free (b,a) (List.mem_cons_self ..) off (hm off hm')
  ·exact hw.free p (Is _ hp') off hm'
theorem xA (i:Nat) {b e:Nat} {cs:List AV} (hL:L[i]?=some (b,.box cs e)):mK nt D B fr L fr (g7 L i (gh B.σ (.box cs e))):=fun σ _ w ha hw0=>by
 have hw:=hw0.perm (fP hL)
 exact ⟨σ,ha,dC.perm (hw.asB (a':=gh B.σ (.box cs e)) (fun o ho=>⟨hw.grow,ho⟩) (fun _ _=>trivial)) (lw _ hL)⟩
theorem zG (i:Nat) {b e:Nat} {cs:List AV} {σ0:ce} (hL:L[i]?=some (b,gh σ0 (.box cs e))):mK nt D B fr L fr (g7 L i (.box cs e)):=fun σ _ w ha hw0=>by
 have hw:=hw0.perm (fP hL)
 exact ⟨σ,ha,dC.perm (hw.asB (a':= .box cs e) (fun o ho=>ho.2) (fun _ _=>trivial)) (lw _ hL)⟩
end
section
variable {P:Program} {fr:cu} {B:Bs} {L:AL} {d:Option Tmp} {ty:TypeId} {pos:String} {af:Array Edge} {g:Option (Nat×Bool)}
theorem vx {f:FuncId} {args:Array Operand} {ts:Array TypeId} {cs ds:List AV} {Post:ce→AV→Prop} [hf:bN P f] (hv:eB fr args.toList=some cs) (hi:jq cs=some ds) (h:Cw P f ds Post):
  AO P ⟨d,.call ⟨.value (.func f),args,ts⟩,ty,pos,af,g⟩ fr B L (fun c L'=>∃(σ1 τ:ce) (v:Value) (c0:AV) (L1:AL),c= .sc v∧Post σ1 c0∧VR τ c0 v∧(∀b off u,dp σ1 b→τ b off=some u→(b,AB.raw (i9 τ b))∈L1)∧L'=L1++L):=by
 classical
 intro σ ρ w hρ hw
 unfold iN
 rw [qG hf ρ (hρ _ _ rfl).sc_inv]
 have e:args.map ρ=(args.toList.map ρ).toArray:=by apply Array.toList_inj.1;simp
 simp only [e]
 have hc':=h
 rw [←gE hi] at hc'
 refine (hc' σ w _ ((f8 hρ _ _ hv).im) (hw.enter (Lc:=[]) (Lf:=L))).mono fun en w' ⟨v,τ,c,L',h1,h2,h3,h4,h5⟩=>?_
 subst h5
 let T:List Nat:=(List.range w'.heap.size).filter fun b=>decide (w.heap.size≤b∧∃off u,τ b off=some u)
 have hT:∀b,b∈T↔b < w'.heap.size∧w.heap.size≤b∧∃off u,τ b off=some u:=fun b=>by simp [T]
 let L1:AL:=T.map fun b=>(b,.raw (i9 τ b))
 have hL1:∀b off u,dp σ b→τ b off=some u→(b,AB.raw (i9 τ b))∈L1:=fun b off u hq hu=>by
  refine List.mem_map.2 ⟨b,(hT b).2 ⟨mQ (h3.froz _ _ _ hu),Nat.le_of_not_lt fun hlt=>?_,off,u,hu⟩,rfl⟩
  have:=h3.same b hlt (by simp) off
  rw [hu] at this
  have h6:=hq off
  rw [show σ b off=some u from this.symm] at h6
  cases h6
 refine ⟨v,h1,σ,.sc v,L1++L,ce.le_refl _,.sc v,?_,σ,τ,v,c,L1,rfl,h4,h2,hL1,rfl⟩
 have hsz:=h3.size
 have hold:∀k,k < w.heap.size→w'.heap[k]?=w.heap[k]?:=fun k hk=>h3.old k hk (by simp)
 have hnew:∀p∈L1,w.heap.size≤p.1∧∃off u,τ p.1 off=some u:=fun p hp=>by
  obtain ⟨b,hb,rfl⟩:=List.mem_map.1 hp
  exact ((hT b).1 hb).2
 have hraw:∀p∈L1,p.2= .raw (i9 τ p.1):=fun p hp=>by
  obtain ⟨b,hb,rfl⟩:=List.mem_map.1 hp
  rfl
 refine ⟨h3.os.trans hw.os,h3.tape.trans hw.tape,h3.output.trans hw.output,Nat.le_trans hw.size hsz,fun k hk hx=>?_,fun p hp=>?_,fun p hp=>?_,?_,fun b off u hu=>?_,fun p hp off hm=>?_,hw.grow,hw.same,fun b off u hb hu=>?_⟩
 ·rw [hold k (Nat.lt_of_lt_of_le hk hw.size)]
  exact hw.old k hk hx
 ·rcases Il hp with hp | hp
  ·obtain ⟨hge,off,u,hu⟩:=hnew p hp
   obtain ⟨cur,t,ho⟩:=h3.cold p.1 off u (.inl hge) hu
   refine ⟨_,ho,?_⟩
   rw [hraw p hp]
   refine ⟨cur,t,rfl,fun off u hu=>⟨u,?_,ia.refl u⟩⟩
   have:=h3.froz _ off u hu
   simp only [World.cell?,ho] at this
   simpa using this
  ·obtain ⟨o,ho,hh⟩:=hw.here p hp
   exact ⟨o,(hold p.1 (hw.lt hp)).trans ho,hh⟩
 ·rcases Il hp with hp | hp
  ·exact .inl (Nat.le_trans hw.size (hnew p hp).1)
  ·exact hw.mine p hp
 ·rw [List.map_append,List.nodup_append]
  refine ⟨?_,hw.apart,fun a ha b hb hab=>?_⟩
  ·rw [List.map_map]
   exact (List.map_id T).symm▸(List.nodup_range.filter _)
  ·subst hab
   obtain ⟨p,hp,rfl⟩:=List.mem_map.1 ha
   obtain ⟨p',hp',he⟩:=List.mem_map.1 hb
   have:=hw.lt hp'
   have:=(hnew p hp).1
   omega
 ·have h6:=h3.grow _ _ _ hu
  exact h3.froz b off u h6
 ·rcases Il hp with hp | hp
  ·exact hw.fresh (hnew p hp).1 off
  ·exact hw.free p hp off hm
 ·obtain ⟨cur,t,ho⟩:=hw.cold b off u hb hu
  exact ⟨cur,t,(hold b (mQ (hw.froz b off u hu))).trans ho⟩
theorem Ab {f:FuncId} {args:Array Operand} {ts:Array TypeId} {cs ds:List AV} {Post:ce→AV→Prop} [hf:bN P f] (hv:eB fr args.toList=some cs) (hi:jq cs=some ds) (h:Cw P f ds Post):
  AO P ⟨d,.call ⟨.value (.func f),args,ts⟩,ty,pos,af,g⟩ fr B L (fun c L'=>∃σ1:ce,B.σ.le σ1∧Post σ1 c∧L'=L):=by
 intro σ ρ w hρ hw
 unfold iN
 rw [qG hf ρ (hρ _ _ rfl).sc_inv]
 have e:args.map ρ=(args.toList.map ρ).toArray:=by apply Array.toList_inj.1;simp
 simp only [e]
 have hc':=h
 rw [←gE hi] at hc'
 refine (hc' σ w _ ((f8 hρ _ _ hv).im) (hw.enter (Lc:=[]) (Lf:=L))).mono fun en w' ⟨v,τ,c,L',h1,h2,h3,h4,h5⟩=>?_
 subst h5
 exact ⟨v,h1,τ,c,L,h3.grow,h2,hw.leave (Lc:=[]) (Lf:=L) h3,σ,hw.grow,h4,rfl⟩
theorem dC.rawCell {σ τ:ce} {L:AL} {w:World} (hw:dC B σ L w) {b:Nat} (hL:(b,AB.raw (i9 τ b))∈L):∃(cur:Array Value) (t:TypeId),w.heap[b]?=some (.cells cur t (0,0))∧∀off u,τ b off=some u→∃u',cur[off]?=some u'∧ia u u':=by
 obtain ⟨o,ho,hh⟩:=hw.here _ hL
 obtain ⟨cur,t,rfl,h⟩:=(hh:i9 τ b o)
 exact ⟨cur,t,ho,h⟩
variable {L:AL} {t:TypeId} {x y:Operand} {u:AV} {τ:ce}
theorem vz {b k:Nat} {v:Value} (h:CA P t) (hx:bO fr x=some (.sc (.pointer (some ⟨b,k,none⟩)))) (hL:(b,AB.raw (i9 τ b))∈L) (hc:τ b k=some v):AO P ⟨d,.load t x,ty,pos,af,g⟩ fr B L (fun c L'=>∃v',ia v v'∧c= .sc v'∧L'=L):=by
 intro σ ρ w hρ hw
 obtain ⟨cur,e,hb,hk⟩:=hw.rawCell hL
 obtain ⟨v',hv,hl⟩:=hk k v hc
 have hcell:w.cell? ⟨b,k,none⟩=some v':=by simp [World.cell?,hb,hv]
 unfold iN
 rw [show (execOp ρ ⟨d,.load t x,ty,pos,af,g⟩).run P w= .ok (.value v') w by simp [execOp,(hρ x _ hx).sc_inv,Instr.loadAt,Instr.sureAddr,fL hcell]]
 exact ⟨σ,.sc v',L,ce.le_refl _,.sc _,hw,v',hl,rfl,rfl⟩
theorem tM {b k n:Nat} {us:List Value} (h:Ek P t n) (hx:bO fr x=some (.sc (.pointer (some ⟨b,k,none⟩)))) (hL:(b,AB.raw (i9 τ b))∈L) (hn:us.length=n) (h1:∀u∈us,u.oneCell'=true) (hc:∀(j:Nat) (v:Value),us[j]?=some v→τ b (k+j)=some v):AO P ⟨d,.load t x,ty,pos,af,g⟩ fr B L (fun c L'=>∃vs:List Value,vs.length=n∧(∀(j:Nat) (v v':Value),us[j]?=some v→vs[j]?=some v'→ia v v')∧c= .agg (vs.map AV.sc)∧L'=L):=by
 intro σ ρ w hρ hw
 obtain ⟨cur,e,hb,hk⟩:=hw.rawCell hL
 have hall:∀(j:Nat) (v:Value),us[j]?=some v→∃v',cur[k+j]?=some v'∧ia v v':=fun j v hj=>hk _ v (hc j v hj)
 let vs:List Value:=(List.range n).map fun j=>(cur[k+j]?).getD undef
 have hvl:vs.length=n:=by simp [vs]
 have hvg:∀(j:Nat) (v:Value),us[j]?=some v→∃v',vs[j]?=some v'∧cur[k+j]?=some v'∧ia v v':=fun j v hj=>by
  obtain ⟨v',h2,h3⟩:=hall j v hj
  have hjn:j < n:=by rw [←hn];exact (Io hj).1
  exact ⟨v',by simp [vs,hjn,h2],h2,h3⟩
 have hone:∀u∈vs,u.oneCell'=true:=fun u hu=>by
  obtain ⟨j,hj⟩:=List.mem_iff_getElem?.1 hu
  have hjn:j < n:=by rw [←hvl];exact (Io hj).1
  obtain ⟨v,hv⟩:∃v,us[j]?=some v:=⟨_,Iz (by omega)⟩
  obtain ⟨v',h2,_,h3⟩:=hvg j v hv
  rw [hj] at h2
  injection h2 with h2
  subst h2
  have:=h1 v (Iw hv)
  unfold ia at h3
  split at h3
  ·obtain ⟨z,rfl⟩:=h3;rfl
  ·obtain ⟨z,rfl⟩:=h3;rfl
  ·obtain ⟨z,rfl⟩:=h3;rfl
  ·rw [h3];exact this
 have hrun:=fK (h:=h) (P:=P) (t:=t) (w:=w) (b:=b) (o:=k) (cs:=vs) hvl (fun j v hj=>by
  have hjn:j < n:=by rw [←hvl];exact (Io hj).1
  obtain ⟨v0,hv0⟩:∃v,us[j]?=some v:=⟨_,Iz (by omega)⟩
  obtain ⟨v',h2,h3,_⟩:=hvg j v0 hv0
  rw [hj] at h2
  injection h2 with h2
  subst h2
  simp [World.cell?,hb,h3])
 unfold iN
 rw [show (execOp ρ ⟨d,.load t x,ty,pos,af,g⟩).run P w= .ok (.value (.agg vs.toArray)) w by simp only [execOp,(hρ x _ hx).sc_inv,Instr.loadAt,Instr.sureAddr,Sem.run_bind,Sem.run_pure,Result.andThen,hrun]]
 refine ⟨σ,_,L,ce.le_refl _,.agg (vs.map AV.sc) vs (by simp) (fun i c u hc hu=>?_) hone,hw,vs,hvl,fun j v v' hj hj'=>?_,rfl,rfl⟩
 ·rw [List.getElem?_map,hu] at hc
  injection hc with hc
  subst hc
  exact .sc u
 ·obtain ⟨v2,h2,_,h3⟩:=hvg j v hj
  rw [hj'] at h2
  injection h2 with h2
  subst h2
  exact h3
theorem ry {q:AB} {b:Nat}:∀(L:AL) (i:Nat),L[i]?=some (b,q)→g7 L i q=L
 | [],i,h=>by simp at h
 | p::r,0,h=>by
  simp at h
  subst h
  rfl
 | p::r,i+1,h=>by
  show p::g7 r i q=p::r
  rw [ry r i (by simpa using h)]
theorem tP (i:Nat) {b k:Nat} {v v':Value} (hs:(P.info? t).map (·.size)=some 1) (hx:bO fr x=some (.sc (.pointer (some ⟨b,k,none⟩)))) (hy:bO fr y=some (.sc v')) (hv1:v'.oneCell'=true) (hL:L[i]?=some (b,AB.raw (i9 τ b))) (hc:τ b k=some v) (hl:∀w,ia w v'∨τ b k≠some w):
  AO P ⟨d,.store t x y,ty,pos,af,g⟩ fr B L (fun _ L'=>L'=L):=by
 intro σ ρ w hρ hw
 obtain ⟨cur,e,hb,hk⟩:=hw.rawCell (Iw hL)
 obtain ⟨v0,hv0,_⟩:=hk k v hc
 have hkl:=(Array.getElem?_eq_some_iff.1 hv0).1
 have hyv:=(hρ y _ hy).sc_inv
 have hcl:(ρ y).cells=#[v']:=by rw [hyv];exact lP hv1
 have hrun:=nB (P:=P) (t:=t) (w:=w) (b:=b) (k:=k) (v:=ρ y) (n:=1) hs (by rw [hcl];rfl) (fun u hu=>by rw [hcl] at hu;simp at hu;subst hu;exact hv1) hb (by omega)
 unfold iN
 rw [show (execOp ρ ⟨d,.store t x y,ty,pos,af,g⟩).run P w= .ok .skip (w.setCells b k (ρ y).cells.toList) by simp only [execOp,(hρ x _ hx).sc_inv,Instr.storeAt,Instr.sureAddr,Sem.run_bind,Sem.run_pure,Result.andThen,hrun]]
 obtain ⟨hg,cs',hh,hs',hj⟩:=i3 b (ρ y).cells.toList k w _ e (0,0) hb
 have hq:g7 L i (AB.raw (i9 τ b))=L:=ry L i hL
 refine ⟨σ,.sc undef,L,ce.le_refl _,.sc _,?_,rfl⟩
 have:=hw.putAt (a':=AB.raw (i9 τ b)) hL (fun _=>trivial) hg hh ⟨cs',e,rfl,fun off u hu=>?_⟩
 ·rw [hq] at this;exact this
 ·rw [hj off,hcl]
  by_cases ho:off=k
  ·subst ho
   refine ⟨v',?_,(hl u).elim id fun hn=>absurd hu hn⟩
   rw [if_pos (by simp;omega)]
   simp
  ·obtain ⟨u',h2,h3⟩:=hk off u hu
   refine ⟨u',?_,h3⟩
   rw [if_neg (by simp;omega)]
   exact h2
end
section
variable {P:Program} {r:Option Nat} {ops:Array Oper} {Q:Exit→Act→World→Prop} {nt:Nat} {D:List Deferred} {fr:cu} {B:Bs} {L:AL} {rest:List Oper} {d:Nat} {ty t:TypeId} {pos:String} {af:Array Edge} {x y:Operand}
theorem DK {f:FuncId} {args:Array Operand} {ts:Array TypeId} {cs ds:List AV} {Post:ce→AV→Prop} [bN P f] (hc:Cw P f ds Post) (hv:eB fr args.toList=some cs) (hi:jq cs=some ds) (hd:Nat.ble nt d=false) (h:∀σ1 c,B.σ.le σ1→Post σ1 c→bW P r ops Q nt D rest ((d,c)::fr) B L):
  bW P r ops Q nt D (⟨some d,.call ⟨.value (.func f),args,ts⟩,ty,pos,af,none⟩::rest) fr B L:=by
 refine dk hd rfl (Ab hv hi hc) fun c L' ⟨σ1,h1,h2,h3⟩=>?_
 subst h3
 exact h σ1 c h1 h2
theorem yN {f:FuncId} {args:Array Operand} {ts:Array TypeId} {cs ds:List AV} {Post:ce→AV→Prop} [bN P f] (hc:Cw P f ds Post) (hv:eB fr args.toList=some cs) (hi:jq cs=some ds) (hd:Nat.ble nt d=false) (h:∀(σ1 τ:ce) (v:Value) (c0:AV) (L1:AL),Post σ1 c0→VR τ c0 v→(∀b off u,dp σ1 b→τ b off=some u→(b,AB.raw (i9 τ b))∈L1)→bW P r ops Q nt D rest ((d,.sc v)::fr) B (L1++L)):
  bW P r ops Q nt D (⟨some d,.call ⟨.value (.func f),args,ts⟩,ty,pos,af,none⟩::rest) fr B L:=by
 refine dk hd rfl (vx hv hi hc) fun c L' ⟨σ1,τ,v,c0,L1,h1,h2,h3,h4,h5⟩=>?_
 subst h1;subst h5
 exact h σ1 τ v c0 L1 h2 h3 h4
end
end Go.Proofs.YtjjpkibjffmceaaGreat
namespace Go.Proofs.YtjjpkibjffmceaaGreat
open Go.RowKit
attribute [local irreducible] AT bW AX AO Av Kt bA eI DA dl
open Go.MapKept
theorem GI {x h:Nat×AB} {A T G:AL}:(x::h::(A++(T++G))).Perm (((h::T)++[x])++(A++G)):=by
 refine (((List.perm_append_comm_assoc A T G).cons h).cons x).trans ?_
 rw [List.append_assoc]
 exact (List.perm_middle (l₁:=h::T)).symm
theorem yX (p b n:Nat) (k:Option (Nat×Nat)) (l:List Int) (hl:l.length≤1000000) {z:Nat} {σ0:ce} {Q:AB}:AC Tryz.prog 46 [g9 p] (bJ p b n k l++[(z,gh σ0 Q)]) fun c L=>c= .new (dp σ0) 1 (aZ (dW l))∧L=bJ p b n k l++[(z,gh σ0 Q)]:=by
 refine iP (List.mem_append_right _ (List.mem_cons_self ..)) Tryz.func46 rfl Tryz.ntmps46 rfl fun B hX hq=>?_
 repeat' (first|refine go ?_|refine HK a6 FS ?_|(apply bK;first|refine HO a6 0 HG ?_|refine HO a6 1 HG ?_|refine HO a6 2 HG ?_|refine HO a6 3 HG ?_|refine HP a6 0 HG ?_|refine HP a6 1 HG ?_|refine HP a6 2 HG ?_|refine HR a6 1 HE (by assumption) rfl ?_|refine HR a6 0 HE (by assumption) rfl ?_|fail)|fail)
 refine lb a6 l.length rfl rfl rfl rfl rfl (by rw [aQ]) (by rw [aQ]) (by omega) (by omega) rfl fun b3=>?_
 rw [show (List.replicate l.length (List.map AV.sc [Value.int .i64 0])).flatten=eX l 0 from mX l _ rfl]
 repeat' (first|refine go ?_|refine ak ?_|refine HK a6 FS ?_|(apply bK;first|refine HO a6 0 HG ?_|refine HO a6 1 HG ?_|refine HO a6 2 HG ?_|refine HO a6 3 HG ?_|refine HP a6 0 HG ?_|refine HP a6 1 HG ?_|refine HP a6 2 HG ?_|refine HR a6 1 HE (by assumption) rfl ?_|refine HR a6 0 HE (by assumption) rfl ?_|fail)|fail)
 refine aJ [3,15,16] (α:=Nat) (fun i=>[(17,aP i)]) (fun i=>i≤l.length) (fun i=>(b3,.box (eX l i) 3)::(bJ p b n k l++[(z,gh σ0 Q)])) (fun i=>l.length - i) 0 rfl ⟨rfl,trivial⟩ (Nat.zero_le _) (fun _ _ h=>h) fun i hi=>?_
 try dsimp only [Ir,Iq,Ip,Ij]
 repeat' (first|refine go ?_|refine HK a6 FS ?_)
 refine ay rfl (fun h=>?_) (fun h=>?_)
 ·have hil:i < l.length:=by have:=Iy h;simp [aQ] at this;omega
  obtain ⟨y,hz⟩:∃z,l[i]?=some z:=⟨_,Iz hil⟩
  have hzg:=bT hz
  repeat' (first|refine go ?_|refine ak ?_|refine HK a6 FS ?_|(apply aU;first|refine aT a6 ?_|refine aM a6 ?_)|fail)
  refine aj a6 0 rfl rfl rfl rfl rfl rfl (by rw [Nat.ble_eq,pn l hi];show _+1≤l.length;omega) ?_
  rw [gI,po hz]
  repeat' (first|refine go ?_|refine HK a6 FS ?_|(apply aW;refine aV ?_)|fail)
  exact aB (i+1) rfl ⟨by rw [Iv];rfl,trivial⟩ (by omega) (by omega) (fun _ _ h=>h)
 ·have hil:i=l.length:=by have:=Ix h;simp [aQ] at this;omega
  subst hil
  rw [pm]
  repeat' (first|refine go ?_|refine HK a6 FS ?_)
  refine ba [(b3,.box (l.map aP) 3)] (bJ p b n k l++[(z,gh σ0 Q)]) (tp b3 l.length l rfl hl) rfl rfl (Im _) rfl fun c L1 hL1=>?_
  subst hL1
  repeat' (first|refine go ?_|refine HK a6 FS ?_)
  refine bc (nF (t:=2) (sz:=1) (l:=aZ (dW l)) 0 rfl rfl (jz _).symm (by simp [aZ]) (by rw [aQ,j7]) (by omega)) ?_
  refine bc (fN (t:=2) (q:=dp σ0) (k:=some (b3,l.length)) (e:=3) (n:=l.length) hX hq rfl) ?_
  exact HS FS ⟨rfl,rfl⟩
set_option maxHeartbeats 4000000 in
theorem vm (f:aL) (hs:ev f) (hR:bV Tryz.prog 41 [cr f] (cx true)) (rs:List Int) (hb:rs.any nU=false) (fs:List ByteArray):Cw Tryz.prog 12 [cr f,jR rs fs] fun σ c=>c= .tup [.new (dp σ) 1 (aZ (dW (nd f rs fs))),aP 0]:=by
 refine zX Tryz.func12 rfl Tryz.ntmps12 rfl fun B=>?_
 have hGl:=hs.glyphs
 unfold jR
 repeat' (first|refine go ?_|refine HK a6 FS ?_|refine bh ?_|fail)
 refine bg (hc:=⟨hR⟩) ?_
 repeat' (first|refine go ?_|refine HK a6 FS ?_|refine bF rfl ?_)
 repeat' (first|fail)
 refine eQ KJ fun m=>?_
 rw [mt]
 repeat' (first|refine go ?_|refine ak ?_|refine HK a6 FS ?_)
 refine cH 19 rfl rfl fun hlen=>?_
 rw [aQ] at hlen
 refine aJ [2,3,6,19,20] (α:=Nat) (fun i=>[(21,aP i)]) (fun i=>i≤rs.length∧(rs.take i).any nU=false) (fun i=>[(m,cj KJ (dU (rs.take i)))]) (fun i=>rs.length - i) 0 rfl ⟨rfl,trivial⟩ ⟨Nat.zero_le _,rfl⟩ (fun _ _ h=>h) ?_
 rintro i ⟨hi,ha⟩
 try dsimp only [Ir,Iq,Ip,Ij]
 repeat' (first|refine go ?_|refine HK a6 FS ?_)
 refine ay rfl (fun h=>?_) (fun h=>?_)
 ·have hil:i < rs.length:=by have:=Iy h;simp [aQ] at this;omega
  obtain ⟨z,hz⟩:∃z,rs[i]?=some z:=⟨_,Iz hil⟩
  have hzg:=bT hz
  repeat' (first|refine go ?_|refine ak ?_|refine HK a6 FS ?_|(apply aU;first|refine aT a6 ?_|refine aM a6 ?_)|fail)
  refine du (t:=30) [2,3,6,8,19,20,21] (z < 0∨z > 1114111) rfl (fun Q' K=>?_) ?_
  ·repeat' (first|refine go ?_|refine HK a6 FS ?_|refine HV FS ?_|refine HW HF ?_|refine bk rfl rfl rfl (fun _=>?_) (fun _=>?_))
   all_goals exact K _ _ rfl rfl (by clear K;simp_all <;> omega)
  repeat' (first|refine go ?_|fail)
  refine ay rfl (fun h2=>?_) (fun h2=>?_)
  ·have:rs.any nU=true:=List.any_eq_true.2 ⟨z,Iw hz,h2⟩
   rw [hb] at this
   cases this
  repeat' (first|refine go ?_|refine HK a6 FS ?_)
  refine dB 0 (dU (rs.take (i+1))) Tryz.underlying120 Tryz.underlying3 rfl rfl rfl rfl rfl (mr hz) (lj hz) ?_
  repeat' (first|refine go ?_|refine HK a6 FS ?_|(apply aW;refine aV ?_)|fail)
  refine aB (i+1) rfl ⟨by rw [Iv];rfl,trivial⟩ ⟨by omega,?_⟩ (by omega) (fun _ _ h=>h)
  rw [List.take_add_one,hz,List.any_append,ha]
  have:nU z=false:=h2
  simp [this]
 have hil:i=rs.length:=by have:=Ix h;simp [aQ] at this;omega
 subst hil
 rw [List.take_length] at ha
 rw [List.take_length]
 clear h hi ha hlen
 repeat' (first|refine go ?_|refine HK a6 FS ?_|refine bG a6 ?_|fail)
 refine ba [] _ (uZ f hs [0]) rfl rfl (Im _) rfl fun c L1 ⟨p,b,ka,hc,hL⟩=>?_
 subst hc;subst hL
 refine aO (aK List.perm_append_comm) ?_
 repeat' (first|refine go ?_|refine ak ?_|refine HK a6 FS ?_)
 refine cH 38 rfl rfl fun hcl=>?_
 rw [It] at hcl
 refine aJ [2,3,6,9,38,39] (α:=Nat×Option (Nat×Nat)) (fun x=>[(40,aP x.1)]) (fun x=>x.1≤f.Chars.length) (fun x=>[(m,cj KJ (dU rs))]++bJ p b f.Glyphs.length x.2 (dg { f with Chars:=f.Chars.take x.1 } rs)) (fun x=>f.Chars.length - x.1) (0,ka) rfl ⟨rfl,trivial⟩ (Nat.zero_le _) (fun _ _ h=>h) ?_
 rintro ⟨i,k⟩ hi
 dsimp only at hi ⊢
 have hok:ci f.Glyphs.length (dg { f with Chars:=f.Chars.take i } rs):=ci.nil.add _
 try dsimp only [Ir,Iq,Ip,Ij]
 repeat' (first|refine go ?_|refine HK a6 FS ?_)
 refine ay rfl (fun h=>?_) (fun h=>?_)
 ·have hil:i < f.Chars.length:=by have:=Iy h;simp at this;omega
  obtain ⟨t,ht⟩:∃z,f.Chars[i]?=some z:=⟨_,Iz hil⟩
  have htg:=bi (c:=cy) ht
  have had:=rA rs ht
  repeat' (first|refine go ?_|refine ak ?_|refine HK a6 FS ?_|(apply aU;first|refine aT a6 ?_|refine aM a6 ?_)|(apply aG;first|refine HN 11 a6 0 HJ ?_|refine HN 11 a6 1 HJ ?_|refine HN 11 a6 2 HJ ?_|refine HM a6 0 HH ?_|refine HM a6 1 HH ?_|refine HM a6 2 HH ?_|refine HM a6 3 HH ?_|fail)|refine aX a6 fun _=>?_|fail)
  refine qu 0 (.bool false) Tryz.underlying120 Tryz.underlying3 rfl rfl rfl rfl (by kernel_rfl) rfl ?_
  have hM:((dU rs (.int .i64 t.Rune)).getD (.sc (.bool false)))=cx (decide (t.Rune∈rs)):=by
   unfold dU
   simp only
   by_cases e:t.Rune∈rs <;> simp [e]
  rw [hM]
  repeat' (first|refine go ?_|fail)
  refine ay rfl (fun h2=>?_) (fun h2=>?_)
  ·rw [if_pos h2] at had
   repeat' (first|refine go ?_|refine HK a6 FS ?_|refine bG a6 ?_|fail)
   refine ba (bJ p b f.Glyphs.length k (dg { f with Chars:=f.Chars.take i } rs)) [(m,cj KJ (dU rs))] (lJ p b f.Glyphs.length k _ [t.Glyph] (by omega) hok) rfl rfl (List.perm_append_comm (l₁:=[(m,cj KJ (dU rs))])) rfl fun c L1 ⟨k',hL1⟩=>?_
   subst hL1
   have hst:di f.Glyphs.length (dg { f with Chars:=f.Chars.take i } rs) [t.Glyph]=dg { f with Chars:=f.Chars.take (i+1) } rs:=by
    unfold dg
    dsimp only
    rw [had,f7,Ir]
   rw [hst]
   refine aO (aK List.perm_append_comm) ?_
   repeat' (first|refine go ?_|refine HK a6 FS ?_|(apply aW;refine aV ?_)|fail)
   exact aB (i+1,k') rfl ⟨by rw [Iv];rfl,trivial⟩ (by dsimp only;omega) (by dsimp only;omega) (fun _ _ h=>h)
  ·rw [h2] at had
   simp only [Bool.false_eq_true,if_false,List.append_nil] at had
   have hst:dg { f with Chars:=f.Chars.take (i+1) } rs=dg { f with Chars:=f.Chars.take i } rs:=by
    unfold dg
    dsimp only
    rw [had]
   repeat' (first|refine go ?_|refine HK a6 FS ?_|(apply aW;refine aV ?_)|fail)
   exact aB (i+1,k) rfl ⟨by rw [Iv];rfl,trivial⟩ (by dsimp only;omega) (by dsimp only;omega) (fun _ _ h=>by dsimp only;rw [hst];exact h)
 have hil:i=f.Chars.length:=by have:=Ix h;simp at this;omega
 subst hil
 rw [List.take_length] at hok ⊢
 clear h hi
 refine bH (ck (List.sublist_cons_self ..)) ?_
 haveI:AD Tryz.prog 13 [cr f,.imm 1 (gg fs)] (.imm 1 (aZ (cW f fs))):=⟨iG f fs hs⟩
 repeat' (first|refine go ?_|fail)
 refine bn 5 [(0,.v),(1,.v),(2,.v),(3,.v),(4,.v)] none ?_ trivial rfl (by kernel_rfl) (by kernel_rfl) (by kernel_rfl) mixed (by kernel_rfl) rfl
 repeat' (first|refine aC ?_|refine b7 a6 ?_|(apply bE;refine bS ?_)|fail)
 refine HU [9,54,58] FS ?_
 repeat' (first|fail)
 refine ba [] (bJ p b f.Glyphs.length k (dg f rs)) (nj f hs (cW f fs)) rfl rfl (Im _) rfl fun c L1 ⟨gp,kg,hq,hc,hL,hh⟩=>?_
 subst hc;subst hL
 have hok:ci f.Glyphs.length (dg f rs):=hok
 have hg0:fZ f gp kg hq []++bJ p b f.Glyphs.length k (dg f rs)=fZ f gp kg hq (bJ p b f.Glyphs.length k (dg f rs)):=by unfold fZ;simp
 rw [hg0]
 repeat' (first|refine ak ?_|refine go ?_|refine HK a6 FS ?_)
 refine aJ [12] (α:=GS) (fun x=>[(9,g9 x.p)]) (Gp f (nd f rs fs)) (fun x=>fZ f gp kg x.hq (bJ x.p x.b f.Glyphs.length x.ka x.S)) (fun x=>x.k) ⟨f.Glyphs.length+1,p,b,k,dg f rs,hq⟩ rfl ⟨rfl,trivial⟩ ⟨by dsimp only;omega,hok,by dsimp only;rw [hh];exact x8 hs _,Bd hs hh,by dsimp only;rw [hh];rfl⟩ (fun _ _ h=>h) ?_
 clear hh hg0 hok
 rintro ⟨r,p,b,ka,S,hq⟩ ⟨h1,hS,h3,h4,h5⟩
 dsimp only at h1 hS h3 h4 h5 ⊢
 have tx:=hS.len
 obtain ⟨r,rfl⟩:∃r',r=r'+1:=⟨r - 1,by omega⟩
 have hS':=nD f S (hq.map (·.2))
 have hS'l:=hS'.len
 try dsimp only [Ir,Iq,Ip,Ij]
 repeat' (first|refine go ?_|refine ak ?_|refine HK a6 FS ?_)
 refine ba (fZ f gp kg hq (bJ p b f.Glyphs.length ka S)) [] (xy f hs gp p b kg ka hq S hS h3 h4) rfl rfl (by rw [List.append_nil]) rfl fun c L1 ⟨np,nb,kn,hq',hc,hL,h6,h7⟩=>?_
 subst hc;subst hL
 rw [List.append_nil]
 refine aO (aK uM) ?_
 unfold FW
 repeat' (first|refine go ?_|refine HK a6 FS ?_)
 refine bn 10 [(0,.v),(1,.v),(2,.v),(3,.l),(4,.v),(5,.v),(6,.v),(7,.v),(8,.l),(9,.v)] none ?_ trivial rfl (by kernel_rfl) (by kernel_rfl) (by kernel_rfl) mixed (by kernel_rfl) rfl
 repeat' (first|refine aC ?_|refine b7 a6 ?_|refine dt a6 0 rfl rfl rfl rfl (by first|trivial|rfl) ?_|refine dt a6 1 rfl rfl rfl rfl (by first|trivial|rfl) ?_)
 refine HU [9,12,13,67,72] FS ?_
 repeat' (first|refine go ?_|refine aa ?_|refine HK a6 FS ?_)
 refine bH (aK (L':=fZ f gp kg hq' (bJ p b f.Glyphs.length ka S++bJ np nb f.Glyphs.length kn (ej f S (hq.map (·.2))))) uM.symm) ?_
 refine ay rfl (fun h2=>?_) (fun h2=>?_)
 ·have he:(ej f S (hq.map (·.2))).length=S.length:=by
   simp [aQ] at h2
   exact Int.ofNat.inj h2
  rw [ga,if_pos he] at h5
  refine bH (aK uM) ?_
  unfold FW
  refine bH (xA 0 rfl) ?_
  repeat' (first|refine go ?_|refine HK a6 FS ?_)
  refine ba (bJ p b f.Glyphs.length ka S++[(np,gh B.σ (.box [.sc (.slice (some ⟨nb,0,none⟩) f.Glyphs.length f.Glyphs.length),.vec kn 1 (aZ (ej f S (hq.map (·.2))))] 131))]) (H1 nb f.Glyphs.length kn (ej f S (hq.map (·.2)))++fZ f gp kg hq' []) (yX p b f.Glyphs.length ka S (by omega)) rfl rfl GI rfl fun c L1 ⟨hc,hL⟩=>?_
  subst hc;subst hL
  rw [h5]
  repeat' (first|refine go ?_|refine HK a6 FS ?_)
  exact cX (List.nil_sublist _) (HX HE ⟨rfl,rfl⟩)
 ·have he:¬(ej f S (hq.map (·.2))).length=S.length:=by
   simp [aQ] at h2
   exact fun e=>h2 (congrArg Int.ofNat e)
  rw [ga,if_neg he] at h5
  have hle:=qz hS.nodup (ow (hs:=hq.map (·.2)) hS)
  repeat' (first|refine go ?_|refine HK a6 FS ?_)
  refine aB ⟨r,np,nb,kn,ej f S (hq.map (·.2)),hq'⟩ rfl ⟨rfl,trivial⟩ ⟨by dsimp only;omega,hS',?_,?_,?_⟩ (by dsimp only;omega) (fun _ _ hw=>?_)
  ·dsimp only
   rw [h7]
   exact h3.adv
  ·dsimp only
   have:=congrArg List.length h6
   simp only [It] at this
   omega
  ·dsimp only
   rw [h7]
   exact h5
  ·dsimp only
   refine hw.sublist ?_
   unfold fZ
   exact ((((List.sublist_append_right _ _).append_left _).append_left _).cons_cons _)
end Go.Proofs.YtjjpkibjffmceaaGreat
