/-
  What is asked for, by bits.
-/
import Derived.Test.YtjjpkibjffmceaaGreatM25
import Derived.Test.YtjjpkibjffmceaaGreatM28
import Derived.Laws.BitsAllLaws
import Derived.Test.YtjjpkibjffmceaaGreatM05
import Derived.Laws.Shifts
import Derived.Test.YtjjpkibjffmceaaGreatM24
import Derived.Test.YtjjpkibjffmceaaGreatM06
import Derived.OpenShut
import Derived.Test.YtjjpkibjffmceaaGreatM11
import Derived.Test.YtjjpkibjffmceaaGreatM10
import Derived.Laws.Pointers
namespace Go.Proofs.YtjjpkibjffmceaaGreat
open Go.RowKit
attribute [local irreducible] AT cg AX AO Av Kt bJ eC DA du
def iH (a:Int) (i:Nat):Bool:=decide (bits .and .u32 (a / 2 ^ min i 32) 1=1)
def eY {α:Type} (p:Nat→Bool) (l:List α):Nat→List α
 | 0=>[]
 | k+1=>eY p l k++(if p k=true then (l[k]?).toList else [])
theorem rH {α:Type} {p:Nat→Bool} {l:List α} {x:α}:∀{k:Nat},x∈eY p l k↔∃i,i < k∧p i=true∧l[i]?=some x
 | 0=>by simp [eY]
 | k+1=>by
  rw [eY,List.mem_append,rH]
  constructor
  ·rintro (⟨i,h1,h2⟩ | h)
   ·exact ⟨i,by omega,h2⟩
   ·split at h
    ·rename_i hp
     exact ⟨k,by omega,hp,Option.mem_toList.1 h⟩
    ·cases h
  ·rintro ⟨i,h1,h2,h3⟩
   by_cases e:i=k
   ·subst e
    right
    rw [if_pos h2]
    exact Option.mem_toList.2 h3
   ·exact .inl ⟨i,by omega,h2,h3⟩
theorem lE {α:Type} (p:Nat→Bool) (l:List α):∀k,(eY p l k).length≤k
 | 0=>Nat.le_refl _
 | k+1=>by
  have:=lE p l k
  rw [eY,List.length_append]
  split
  ·cases l[k]? <;> simp <;> omega
  ·simp;omega
def C6:ByteArray:=bytes [110,111,110,101]
def yk (a:Int):List Int:=eY (iH a) gV 17
def AP (a:Int):List ByteArray:=eY (iH a) (eO++[C6]) 9
theorem yl {a z:Int} (h:z∈yk a):z∈gV:=by
 obtain ⟨i,_,_,hi⟩:=rH.1 h
 exact Jw hi
theorem yo {rs:List Int} (h:∀z∈rs,z∈gV∨z=1114111):rs.any vw=false:=by
 rw [Bool.eq_false_iff]
 intro hb
 obtain ⟨z,hz,hbz⟩:=List.any_eq_true.1 hb
 rcases h z hz with k | rfl
 ·rw [CK _ k] at hbz;cases hbz
 ·exact absurd hbz (by decide)
def Ir {α:Type} (x:α) (l:List α):List α:=x::(l.reverse.flatMap fun y=>[y,y])
def Hr:ByteArray:=bytes [110,111,116,104,105,110,103]
noncomputable def j2 (f:aL) (rs:List Int) (fs:List ByteArray):List Int:=eD (q9 f rs fs)
theorem zd {f:aL} {rs:List Int} {fs:List ByteArray} {z:Int}:z∈j2 f rs fs↔z∈q9 f rs fs:=(iu _).mem_iff
theorem lz (f:aL) (rs:List Int) (fs:List ByteArray):cJ f.Glyphs.length (j2 f rs fs):=by
 have h:=(sx (f:=f) rs fs).ok
 exact ⟨(iu _).nodup_iff.2 h.nodup,fun z hz=>h.dom z (zd.1 hz)⟩
theorem zb (f:aL) (rs:List Int) (fs:List ByteArray):(j2 f rs fs).length≤f.Glyphs.length:=gc (lz f rs fs).nodup (lz f rs fs).dom
theorem ww (f:aL) (fs:List ByteArray):(dG f fs).length≤f.Lookups.length:=by
 unfold dG
 refine Nat.le_trans (List.length_filter_le ..) ?_
 simp
end Go.Proofs.YtjjpkibjffmceaaGreat
namespace Go.Proofs.YtjjpkibjffmceaaGreat
open Go.RowKit
section
variable {P:Program} {tt:TT} {r:Option Nat} {ops:Array Oper} {Q:Exit→Act→World→Prop} {nt:Nat} {D:List Deferred} {fr:cw} {B:Bs} {L:AL} {rest:List Oper} {d:Nat} {ty t t':TypeId} {pos:String} {af:Array Edge} {g:Option (Nat×Bool)} {x y z:Operand} {u:AV}
theorem FL {dd:Option Tmp} {k kk:IntKind} {a b:Int} (i:Nat) (hx:bU fr x=some (.sc (.int k a))) (hy:bU fr y=some (.sc (.int kk b))) (hb:b=(i:Int)):Av P ⟨dd,.binOp .shr t x y t',ty,pos,af,g⟩ fr (.sc (.int k (a / 2 ^ min i k.bits))):=by
 intro σ ρ w hρ _
 subst hb
 refine ⟨_,?_,.sc _⟩
 have h:=shift_shr_any k kk a (i:Int) (Int.natCast_nonneg i)
 simp [execOp,(hρ x _ hx).sc_inv,(hρ y _ hy).sc_inv,eqGuard,binOp,h]
theorem Fw {dd:Option Tmp} {k:IntKind} {a b:Int} (hx:bU fr x=some (.sc (.int k a))) (hy:bU fr y=some (.sc (.int k b))):Av P ⟨dd,.binOp .and t x y t',ty,pos,af,g⟩ fr (.sc (.int k (bits .and k a b))):=by
 intro σ ρ w hρ _
 refine ⟨_,?_,.sc _⟩
 simp [execOp,(hρ x _ hx).sc_inv,(hρ y _ hy).sc_inv,eqGuard,binOp,intBits_and]
theorem C4 (i:Nat) {k kk:IntKind} {a b:Int} (hx:bU fr x=some (.sc (.int k a))) (hy:bU fr y=some (.sc (.int kk b))) (hb:b=(i:Int)) (hd:Nat.ble nt d=false) (h:cg P r ops Q nt D rest ((d,.sc (.int k (a / 2 ^ min i k.bits)))::fr) B L):
  cg P r ops Q nt D (⟨some d,.binOp .shr t x y t',ty,pos,af,none⟩::rest) fr B L:=dT (FL i hx hy hb) hd rfl h
theorem BY {k:IntKind} {a b:Int} (hx:bU fr x=some (.sc (.int k a))) (hy:bU fr y=some (.sc (.int k b))) (hd:Nat.ble nt d=false) (h:cg P r ops Q nt D rest ((d,.sc (.int k (bits .and k a b)))::fr) B L):
  cg P r ops Q nt D (⟨some d,.binOp .and t x y t',ty,pos,af,none⟩::rest) fr B L:=dT (Fw hx hy) hd rfl h
end
end Go.Proofs.YtjjpkibjffmceaaGreat
namespace Go.Proofs.YtjjpkibjffmceaaGreat
open Go.RowKit
attribute [local irreducible] AT cg AX AO Av Kt bJ eC DA du
abbrev GP (z:Int):AV:= .sc (.int .u32 z)
structure CY where
 Font:List Int
 Runes:Int
 Features:Int
 Text:List Int
 Place:List Int
 Some:Int
def Dj (a:CY):List AV:=[.imm 1 (aS a.Font),GP a.Runes,GP a.Features,.imm 1 (aS a.Text),.imm 1 (aS a.Place),GP a.Some]
theorem zu:to Tryz.prog 23 [] 9 1 (gP eO):=by
 refine aX Tryz.func23 rfl Tryz.ntmps23 rfl fun B=>?_
 repeat' (first|refine go ?_|refine IG a6 EV ?_|refine eK (d:=1) a6 fun _=>?_|fail)
 exact IM EV ⟨_,rfl,rfl⟩
set_option maxHeartbeats 1000000 in
theorem uT (a:CY):bZ Tryz.prog 9 [.agg (Dj a)] (kM (yk a.Runes) (AP a.Features)):=by
 refine aX Tryz.func9 rfl Tryz.ntmps9 rfl fun B=>?_
 repeat' (first|refine go ?_|refine IG a6 EV ?_|(apply aJ;first|refine IH a6 0 IE ?_|refine IH a6 1 IE ?_|refine IH a6 2 IE ?_|refine IH a6 3 IE ?_|fail)|refine bD ?_|refine bc a6 fun _=>?_|fail)
 refine xG zZ rfl rfl rfl fun k=>?_
 repeat' (first|refine bG a6 ?_|fail)
 rename_i t2 t3
 refine IS a6 [(t3,.box [bO,bO] 40),(t2,.box [bO,bO] 40)] IC (Jn _) (by simp [aF,fy]) (by simp [aF,fy]) rfl fun k'=>?_
 refine aK (bo (t:=11) (c':= .imm 1 (aS gV)) rfl fun σ v h=>VR.im h) ?_
 refine aK (bM (L':=[(t3,.box [bO,bO] 40),(t2,.box [bO,bO] 40)]) (List.sublist_append_right ..)) ?_
 have h17:(aS gV).length=17:=rfl
 repeat' (first|refine go ?_|refine am ?_|refine IG a6 EV ?_)
 refine bN (bC 0 rfl fun σ vs h=>cy (k:=0) (c':= .vec none 1 []) h rfl fun v hv=>cO 1 hv) ?_
 refine aO [1,2,3,4] (α:=Nat×Option (Nat×Nat)) (fun x=>[(5,aP x.1)]) (fun x=>x.1≤17) (fun x=>[(t3,.box [.vec x.2 1 (aS (eY (iH a.Runes) gV x.1)),bO] 40),(t2,.box [bO,bO] 40)]++tok x.2 3 1 (aS (eY (iH a.Runes) gV x.1)).length) (fun x=>17 - x.1) (0,none) rfl ⟨rfl,trivial⟩ (Nat.zero_le _) (fun _ _ h=>h) ?_
 rintro ⟨i,q⟩ hi
 dsimp only at hi ⊢
 have hpl:=lE (iH a.Runes) gV i
 have hsl:=aF (eY (iH a.Runes) gV i)
 try dsimp only [Jr,Jq,Jp,Jk]
 repeat' (first|refine go ?_|refine IG a6 EV ?_)
 refine au rfl (fun h=>?_) (fun h=>?_)
 ·have hil:i < 17:=by have:=Jy h;rw [h17] at this;omega
  obtain ⟨z,hz⟩:∃z,gV[i]?=some z:=⟨_,Jz (by exact hil)⟩
  have hzg:=bQ hz
  clear h
  repeat' (first|refine go ?_|refine am ?_|refine IG a6 EV ?_)
  refine C4 i rfl rfl rfl rfl ?_
  repeat' (first|fail)
  refine BY rfl rfl rfl ?_
  repeat' (first|refine go ?_|refine IG a6 EV ?_)
  refine au rfl (fun hb=>?_) (fun hb=>?_)
  ·have hb:iH a.Runes i=true:=hb
   have hst:eY (iH a.Runes) gV (i+1)=eY (iH a.Runes) gV i++[z]:=by rw [eY,hz,if_pos hb];rfl
   repeat' (first|fail)
   refine br 7 [(0,.v),(1,.l),(2,.v),(3,.v),(4,.v),(5,.v),(6,.v)] none ?_ trivial rfl (by kernel_rfl) (by kernel_rfl) (by kernel_rfl) mixed (by kernel_rfl) rfl
   repeat' (first|refine aC ?_|refine aY a6 ?_|(apply bS;refine ce a6 ?_)|refine dU a6 ?_|refine dg a6 0 rfl rfl rfl rfl (by first|trivial|rfl) ?_)
   refine IQ [1,2,3,4,5,25,30] EV ?_
   repeat' (first|fail)
   refine IS a6 _ IC (List.perm_append_comm (l₁:=[_,_])) (by simp;omega) (by simp;omega) rfl fun q'=>?_
   refine aK (aM (List.perm_append_comm (l₂:=[_,_]))) ?_
   repeat' (first|refine go ?_|refine IG a6 EV ?_|(apply aW;refine aT ?_)|(apply aJ;first|refine IH a6 0 IE ?_|refine IH a6 1 IE ?_|refine IH a6 2 IE ?_|refine IH a6 3 IE ?_|fail))
   exact aB (i+1,q') rfl ⟨by rw [Jv];rfl,trivial⟩ (by dsimp only;omega) (by dsimp only;omega) (fun _ _ h=>by dsimp only;rw [hst,←eh];exact h)
  ·have hb:iH a.Runes i=false:=hb
   have hst:eY (iH a.Runes) gV (i+1)=eY (iH a.Runes) gV i:=by rw [eY,hb,if_neg (by decide),List.append_nil]
   repeat' (first|refine go ?_|refine IG a6 EV ?_|(apply aW;refine aT ?_)|fail)
   exact aB (i+1,q) rfl ⟨by rw [Jv];rfl,trivial⟩ (by dsimp only;omega) (by dsimp only;omega) (fun _ _ h=>by dsimp only;rw [hst];exact h)
 have hil:i=17:=by have:=Jx h;rw [h17] at this;omega
 subst hil
 clear h hi
 have hR:eY (iH a.Runes) gV 17=yk a.Runes:=rfl
 rw [hR]
 clear hR hsl hpl
 generalize yk a.Runes=R
 repeat' (first|refine go ?_|fail)
 refine aK (bC 0 rfl fun σ vs h=>cy (k:=0) (c':= .imm 1 (aS R)) h rfl fun v hv=>VR.im hv) ?_
 refine aK (bM (L':=[(t3,.box [.imm 1 (aS R),bO] 40),(t2,.box [bO,bO] 40)]) (List.sublist_append_left [_,_] _)) ?_
 refine aK (bC 0 rfl fun σ vs h=>cy (k:=1) (c':= .vec none 1 []) h rfl fun v hv=>cO 1 hv) ?_
 refine xG zu rfl rfl rfl fun k2=>?_
 repeat' (first|refine bG a6 ?_|fail)
 refine IS a6 [(t3,.box [.imm 1 (aS R),.vec none 1 []] 40),(t2,.box [bO,bO] 40)] IC (Jn _) (by simp [gh,eO]) (by simp [gh,eO]) rfl fun k3=>?_
 refine aK (bo (t:=35) (c':= .imm 1 (gP (eO++[C6]))) rfl fun σ v h=>VR.im h) ?_
 refine aK (bM (L':=[(t3,.box [.imm 1 (aS R),.vec none 1 []] 40),(t2,.box [bO,bO] 40)]) (List.sublist_append_right ..)) ?_
 generalize hNN:eO++[C6]=NN
 have h9:(gP NN).length=9:=by rw [←hNN];rfl
 have h9':NN.length=9:=by rw [←hNN];rfl
 repeat' (first|refine go ?_|refine am ?_|refine IG a6 EV ?_)
 refine aO [1,2,3,6] (α:=Nat×Option (Nat×Nat)) (fun x=>[(7,aP x.1)]) (fun x=>x.1≤9) (fun x=>[(t3,.box [.imm 1 (aS R),.vec x.2 1 (gP (eY (iH a.Features) NN x.1))] 40),(t2,.box [bO,bO] 40)]++tok x.2 9 1 (gP (eY (iH a.Features) NN x.1)).length) (fun x=>9 - x.1) (0,none) rfl ⟨rfl,trivial⟩ (Nat.zero_le _) (fun _ _ h=>h) ?_
 rintro ⟨i,q⟩ hi
 dsimp only at hi ⊢
 have hpl:=lE (iH a.Features) NN i
 have hsl:=gh (eY (iH a.Features) NN i)
 try dsimp only [Jr,Jq,Jp,Jk]
 repeat' (first|refine go ?_|refine IG a6 EV ?_)
 refine au rfl (fun h=>?_) (fun h=>?_)
 ·have hil:i < 9:=by have:=Jy h;rw [h9] at this;omega
  obtain ⟨z,hz⟩:∃z,NN[i]?=some z:=⟨_,Jz (by omega)⟩
  have hzg:(gP NN)[i]?=some [gW z]:=by unfold gP;rw [List.getElem?_map,hz];rfl
  clear h
  repeat' (first|refine go ?_|refine am ?_|refine IG a6 EV ?_)
  refine C4 i rfl rfl rfl rfl ?_
  repeat' (first|fail)
  refine BY rfl rfl rfl ?_
  repeat' (first|refine go ?_|refine IG a6 EV ?_)
  refine au rfl (fun hb=>?_) (fun hb=>?_)
  ·have hb:iH a.Features i=true:=hb
   have hst:eY (iH a.Features) NN (i+1)=eY (iH a.Features) NN i++[z]:=by rw [eY,hz,if_pos hb];rfl
   repeat' (first|fail)
   refine br 7 [(0,.v),(1,.l),(2,.v),(3,.v),(4,.v),(5,.v),(6,.v)] none ?_ trivial rfl (by kernel_rfl) (by kernel_rfl) (by kernel_rfl) mixed (by kernel_rfl) rfl
   repeat' (first|refine aC ?_|refine aY a6 ?_|(apply bS;refine ce a6 ?_)|refine dU a6 ?_|refine dg a6 0 rfl rfl rfl rfl (by first|trivial|rfl) ?_)
   refine IQ [1,2,3,6,7,49,54] EV ?_
   repeat' (first|fail)
   refine IS a6 _ IC (List.perm_append_comm (l₁:=[_,_])) (by simp;omega) (by simp;omega) rfl fun q'=>?_
   refine aK (aM (List.perm_append_comm (l₂:=[_,_]))) ?_
   repeat' (first|refine go ?_|refine IG a6 EV ?_|(apply aW;refine aT ?_)|(apply aJ;first|refine IH a6 0 IE ?_|refine IH a6 1 IE ?_|refine IH a6 2 IE ?_|refine IH a6 3 IE ?_|fail))
   exact aB (i+1,q') rfl ⟨by rw [Jv];rfl,trivial⟩ (by dsimp only;omega) (by dsimp only;omega) (fun _ _ h=>by dsimp only;rw [hst,CH];exact h)
  ·have hb:iH a.Features i=false:=hb
   have hst:eY (iH a.Features) NN (i+1)=eY (iH a.Features) NN i:=by rw [eY,hb,if_neg (by decide),List.append_nil]
   repeat' (first|refine go ?_|refine IG a6 EV ?_|(apply aW;refine aT ?_)|fail)
   exact aB (i+1,q) rfl ⟨by rw [Jv];rfl,trivial⟩ (by dsimp only;omega) (by dsimp only;omega) (fun _ _ h=>by dsimp only;rw [hst];exact h)
 have hil:i=9:=by have:=Jx h;rw [h9] at this;omega
 subst hil
 clear h hi
 have hF:eY (iH a.Features) NN 9=AP a.Features:=by rw [←hNN];rfl
 rw [hF]
 clear hF hsl hpl hNN h9 h9'
 generalize AP a.Features=F
 repeat' (first|refine go ?_|(apply bH;first|refine IJ a6 0 ID ?_|refine IJ a6 1 ID ?_|refine IJ a6 2 ID ?_|refine IJ a6 3 ID ?_|refine IK a6 0 ID ?_|refine IK a6 1 ID ?_|refine IK a6 2 ID ?_|refine IL a6 1 IB (by assumption) rfl ?_|refine IL a6 0 IB (by assumption) rfl ?_|fail)|(apply aJ;first|refine IH a6 0 IE ?_|refine IH a6 1 IE ?_|refine IH a6 2 IE ?_|refine IH a6 3 IE ?_|fail))
 refine ba (bC 1 (cs':=[.imm 1 (aS R),.imm 1 (gP F)]) rfl fun σ vs h=>mH.vrs (a:=[.imm 1 (aS R),.vec q 1 (gP F)]) (b:=[.imm 1 (aS R),.imm 1 (gP F)]) ⟨dt.refl _,dt.im,trivial⟩ h) ?_
 exact pe (cs:=[kM R F]) ⟨⟨t2,1,_,_,rfl,rfl,.inr ⟨cV a6 rfl,rfl⟩⟩,trivial⟩ rfl
theorem zk (l:List Int):bZ Tryz.prog 8 [.imm 1 (aS l)] (cr (na (l.take 300))):=by
 refine aX Tryz.func8 rfl Tryz.ntmps8 rfl fun B=>?_
 have hnl:=aF l
 repeat' (first|refine go ?_|refine IG a6 EV ?_|refine bc a6 fun _=>?_|fail)
 refine Gf a6 (min l.length 300) rfl rfl rfl rfl rfl (by omega) (by omega) rfl ?_
 rw [z7,show l.take (min l.length 300)=l.take 300 by
  rcases Nat.le_total l.length 300 with h | h
  ·rw [Nat.min_eq_left h,List.take_of_length_le (Nat.le_refl _),List.take_of_length_le h]
  ·rw [Nat.min_eq_right h]]
 repeat' (first|fail)
 refine bq (hc:=⟨BQ (l.take 300) (by rw [List.length_take];omega)⟩) ?_
 repeat' (first|refine go ?_|(apply aJ;first|refine IH a6 0 IE ?_|refine IH a6 1 IE ?_|refine IH a6 2 IE ?_|refine IH a6 3 IE ?_|fail))
 exact pe (cs:=[cr (na (l.take 300))]) ⟨⟨_,0,_,_,rfl,rfl,.inr ⟨cV a6 rfl,rfl⟩⟩,trivial⟩ rfl
end Go.Proofs.YtjjpkibjffmceaaGreat
namespace Go.Proofs.YtjjpkibjffmceaaGreat
open Go.ChangeShapes Go.WideShapes Go.ChangeAt Go.RowKit Go.Deep Go.Joins
section
variable {H:Type} {enc:TypeId×Value→H} {W:World}
abbrev rc (z:Int):Prop:=0≤z∧z < 4294967296
theorem Ei {P:Program} {t:TypeId} (ht:P.underlying t=some (.int .u32)):ya enc P W t (fun z:Int=>[GP z]) rc:=fun fuel cs x h _=>by
 obtain ⟨z,rfl,-,hz⟩:=DataW.trod_int ht h
 have h1:IntKind.u32.min≤z∧z≤IntKind.u32.max:=by simpa [Lit.wf] using hz
 exact ⟨z,dR.cons (.sc _) dR.nil,by intro u hu;rw [Jl hu];rfl,h1.1,Int.lt_of_le_of_lt h1.2 (by decide)⟩
theorem oU:ya enc Tryz.prog W 23 (fun z:Int=>[GP z]) rc:=Ei Tryz.underlying23
theorem oA:ya enc Tryz.prog W 25 Dj (fun a=>rc a.Runes∧rc a.Features):=
 (wr (N:=6) Tryz.underlying25 (by kernel_rfl) (iO (s:=1) rfl (by kernel_rfl) Ia (iO (s:=1) rfl (by kernel_rfl) oU (iO (s:=1) rfl (by kernel_rfl) oU (iO (s:=1) rfl (by kernel_rfl) Ia (iO (s:=1) rfl (by kernel_rfl) Ia (iO (s:=1) rfl (by kernel_rfl) oU Ca))))))).map
  (fun p=>⟨p.1,p.2.1,p.2.2.1,p.2.2.2.1,p.2.2.2.2.1,p.2.2.2.2.2.1⟩) (fun _=>rfl) fun _ h=>⟨h.2.1,h.2.2.1⟩
set_option maxRecDepth 100000 in
theorem zy {base:Nat} {v:Value} {d:DataW H} {p:List MemPlace} (hok:Value.okWide Tryz.prog W .any base 25 v) (h:DataW.Trod enc Tryz.prog W 0 (fun _=>true) true 25 v d p) (hl:wU Tryz.prog 25 d):∃a:CY,VR (kG W) (.agg (Dj a)) v∧rc a.Runes∧rc a.Features:=by
 obtain ⟨cs,rfl,hsz⟩:=okWide_struct Tryz.underlying25 hok
 obtain ⟨fuel,hf⟩:=h
 obtain ⟨x,h1,h2,h3⟩:=oA (enc:=enc) fuel cs.toList _ (by simpa [Value.cells] using hf) hl
 have:=VR.agg (σ:=kG W) _ _ h1.1 h1.2 h2
 exact ⟨x,by simpa using this,h3⟩
end
end Go.Proofs.YtjjpkibjffmceaaGreat
namespace Go.Proofs.YtjjpkibjffmceaaGreat
open Go.ChangeShapes Go.WideShapes Go.ChangeAt Go.RowKit Go.Deep Go.Joins
section
variable {H:Type} {enc:TypeId×Value→H} {W:World}
set_option maxRecDepth 100000 in
theorem wq {base:Nat} {v:Value} {d:DataW H} {p:List MemPlace} (hok:Value.okWide Tryz.prog W .any base 26 v) (h:DataW.Trod enc Tryz.prog W 0 (fun _=>true) true 26 v d p):∃a b c:Int,VR (kG W) (.agg [aP a,aP b,aP c]) v:=by
 have hc:∃cs,v= .agg cs:=by
  simp only [Value.okWide,Tryz.underlying26] at hok
  obtain ⟨cs,h1,_⟩:=hok
  exact ⟨cs,h1⟩
 obtain ⟨cs,rfl⟩:=hc
 obtain ⟨fuel,hf⟩:=h
 obtain ⟨xs,m,_,_,h1,h2,h3⟩:=DataW.trod_array Tryz.underlying26 (show DataW.trod enc Tryz.prog W 0 (fun _=>true) true fuel 26 cs.toList=some _ by simpa [Value.cells] using hf)
 have c1:Tryz.prog.cellsOf 3=1:=by kernel_rfl
 have c3:Tryz.prog.cellsOf 26=3:=by kernel_rfl
 rw [c1] at h3
 rw [c3] at h1
 obtain ⟨ls⟩:=cs
 have k:∀i,i < 3→∃z,(ls.drop (i * 1)).take 1=[.int .i64 z]:=fun i hi=>by
  have h4:=h3 i hi
  rw [Jz (show i < xs.length by omega)] at h4
  obtain ⟨z,hz,_⟩:=DataW.trod_int Tryz.underlying3 h4
  exact ⟨z,hz⟩
 obtain ⟨a,ha⟩:=k 0 (by omega)
 obtain ⟨b,hb⟩:=k 1 (by omega)
 obtain ⟨c,hc⟩:=k 2 (by omega)
 match ls,h1 with
 | [x,y,z],_=>
  simp at ha hb hc
  subst ha
  subst hb
  subst hc
  exact ⟨a,b,c,.agg _ _ rfl (dR.cons (.sc _) (dR.cons (.sc _) (dR.cons (.sc _) dR.nil))).2 (by intro u hu;simp at hu;rcases hu with rfl | rfl | rfl <;> rfl)⟩
end
end Go.Proofs.YtjjpkibjffmceaaGreat
namespace Go.Proofs.YtjjpkibjffmceaaGreat
open Go.RowKit
attribute [local irreducible] AT cg AX AO Av Kt bJ eC DA du
def TG (f:aL):Prop:=mG f∧dP f
theorem td {α:Type} (g:α→Nat) (x:α):∀{l:List α} {i:Nat} {y:α},l[i]?=some y→((l.set i x).map g).sum+g y=(l.map g).sum+g x
 | [],i,y,h=>by simp at h
 | a::l,0,y,h=>by
  simp at h
  subst h
  simp
  omega
 | a::l,i+1,y,h=>by
  have:=td g x (l:=l) (i:=i) (y:=y) (by simpa using h)
  rw [List.set_cons_succ,Jp,Jp,List.sum_cons,List.sum_cons]
  omega
theorem ny {α:Type} (g:α→Nat) (l:List α) (x:α):((l++[x]).map g).sum=(l.map g).sum+g x:=by simp
section
variable {f:aL} (h:fW f)
include h
theorem fW.tg:TG f:=⟨h.fpr,h.small⟩
theorem fW.gfew {g:bL} (hg:g∈f.Glyphs):g.Ends.length≤15∧g.Parts.length≤1∧g.Anchors.length≤5∧g.Deltas.length≤33∧g.Hint.length≤45:=by
 obtain ⟨i,hi⟩:=List.mem_iff_getElem?.1 hg
 have k:=h.gly i g hi
 have hd:=h.del hi
 obtain ⟨c,hc,ho⟩:=k.out
 obtain ⟨cl,hcl,ha⟩:=k.anch
 have he:=ho.endl
 dsimp only at he
 have h1:=ha.sub.length_le
 simp [g9] at h1
 refine ⟨by omega,?_,h1,hd.2,k.hint.1⟩
 rcases k.parts with e | ⟨_,x,y,e,_⟩
 ·rw [e];exact Nat.zero_le _
 ·rw [e];exact Nat.le_refl _
theorem fW.tunit {z:Int} (hz:NB z):TG { f with Unit:=z }:=by
 have hp:=h.fpr
 have hs:=h.size
 refine ⟨{ hp with unit:=hz },?_⟩
 unfold dP
 unfold gS at hs ⊢
 dsimp only
 omega
theorem fW.tglyph {i:Nat} {g g':bL} (hi:f.Glyphs[i]?=some g) (hg:tk g') (hn:fZ g'≤fZ g+1):TG { f with Glyphs:=f.Glyphs.set i g' }:=by
 have hp:=h.fpr
 have hs:=h.size
 refine ⟨{ hp with glyphs:=⟨by simpa using hp.glyphs.1,fun x hx=>?_⟩ },?_⟩
 ·rcases List.mem_or_eq_of_mem_set hx with hx | rfl
  ·exact hp.glyphs.2 x hx
  ·exact hg
 ·have:=td fZ g' hi
  unfold dP
  unfold gS at hs ⊢
  dsimp only at hs ⊢
  rw [List.length_set]
  omega
theorem fW.tlook {k:Nat} {l l':bj} (hk:f.Lookups[k]?=some l) (hl:CR l') (hn:i5 l'.Rules≤i5 l.Rules+30):TG { f with Lookups:=f.Lookups.set k l' }:=by
 have hp:=h.fpr
 have hs:=h.size
 refine ⟨{ hp with looks:=⟨by simpa using hp.looks.1,fun x hx=>?_⟩ },?_⟩
 ·rcases List.mem_or_eq_of_mem_set hx with hx | rfl
  ·exact hp.looks.2 x hx
  ·exact hl
 ·have:=td (fun l:bj=>i5 l.Rules) l' hk
  unfold dP
  unfold gS at hs ⊢
  dsimp only at hs this ⊢
  rw [List.length_set]
  omega
theorem fW.tchar {c:ey} (hc:NB c.Rune∧NB c.Glyph):TG { f with Chars:=f.Chars++[c] }:=by
 have hp:=h.fpr
 have hs:=h.size
 have hN:=h.chars
 refine ⟨{ hp with chars:=⟨by simp;omega,fun x hx=>?_⟩ },?_⟩
 ·rcases Jm hx with hx | hx
  ·exact hp.chars.2 x hx
  ·rw [Jl hx];exact hc
 ·unfold dP
  unfold gS at hs ⊢
  dsimp only at hs ⊢
  rw [List.length_append,List.length_singleton]
  omega
theorem fW.tfeat {t:bX} (ht:t.Name.size≤50∧Ad t.Lookups) (hl:t.Lookups.length≤2):TG { f with Features:=f.Features++[t] }:=by
 have hp:=h.fpr
 have hs:=h.size
 have hN:=h.featN.length_le
 simp only [Jt,eO,List.length_cons,List.length_nil] at hN
 refine ⟨{ hp with feats:=⟨by simp;omega,fun x hx=>?_⟩ },?_⟩
 ·rcases Jm hx with hx | hx
  ·exact hp.feats.2 x hx
  ·rw [Jl hx];exact ht
 ·have h1:=ny Go.Proofs.YtjjpkibjffmceaaGreat.featN f.Features t
  have h2:Go.Proofs.YtjjpkibjffmceaaGreat.featN t≤2:=by unfold Go.Proofs.YtjjpkibjffmceaaGreat.featN;omega
  unfold dP
  unfold gS at hs ⊢
  dsimp only at hs ⊢
  rw [List.length_append,List.length_singleton]
  omega
theorem fW.taxis {t:eB} (ht:t.Name.size≤50∧NB t.Min∧NB t.Def∧NB t.Max):TG { f with Axes:=f.Axes++[t] }:=by
 have hp:=h.fpr
 have hs:=h.size
 have hN:=h.axes
 refine ⟨{ hp with axes:=⟨by simp;omega,fun x hx=>?_⟩ },?_⟩
 ·rcases Jm hx with hx | hx
  ·exact hp.axes.2 x hx
  ·rw [Jl hx];exact ht
 ·unfold dP
  unfold gS at hs ⊢
  dsimp only at hs ⊢
  rw [List.length_append,List.length_singleton]
  omega
theorem fW.treg {t:List eo} (ht:t.length≤16∧∀x∈t,NB x.Start∧NB x.Peak∧NB x.End):TG { f with Regions:=f.Regions++[t] }:=by
 have hp:=h.fpr
 have hs:=h.size
 have hN:=h.regs
 refine ⟨{ hp with regs:=⟨by simp;omega,fun x hx=>?_⟩ },?_⟩
 ·rcases Jm hx with hx | hx
  ·exact hp.regs.2 x hx
  ·rw [Jl hx];exact ht
 ·have h1:=ny (fun r:List eo=>r.length) f.Regions t
  unfold dP
  unfold gS at hs ⊢
  dsimp only at hs h1 ⊢
  rw [List.length_append,List.length_singleton]
  omega
theorem fW.tfunc {c:List ep} {z:Int} (hc:Fk c) (hl:c.length≤10) (hz:NB z):TG { f with Funcs:=f.Funcs++[c],Cvt:=f.Cvt++[z] }:=by
 have hp:=h.fpr
 have hs:=h.size
 have hN:=h.funcs
 have hM:=h.cvt
 refine ⟨{ hp with funcs:=⟨by simp;omega,fun x hx=>?_⟩,cvt:=⟨by simp;omega,fun x hx=>?_⟩ },?_⟩
 ·rcases Jm hx with hx | hx
  ·exact hp.funcs.2 x hx
  ·rw [Jl hx];exact hc
 ·rcases Jm hx with hx | hx
  ·exact hp.cvt.2 x hx
  ·rw [Jl hx];exact hz
 ·have h1:=ny (fun r:List ep=>r.length) f.Funcs c
  unfold dP
  unfold gS at hs ⊢
  dsimp only at hs h1 ⊢
  simp only [List.length_append,List.length_singleton] at h1 ⊢
  omega
end
end Go.Proofs.YtjjpkibjffmceaaGreat
namespace Go.Proofs.YtjjpkibjffmceaaGreat
open Go.RowKit
def Fs (fr:cw) (B:Bs) (L:AL) (y:Operand) (sz m:Nat) (es:List AV):Prop:=∀σ (ρ:Operand→Value) w,(∀x c,bU fr x=some c→VR σ c (ρ x))→dQ B σ L w→
 ∃A c ys,ρ y= .slice A m c∧dR σ es ys∧(∀u∈ys,u.oneCell'=true)∧ys.length=m * sz∧(0 < m→∃b off,A=some ⟨b,off,none⟩∧∀j v,ys[j]?=some v→w.cell? ((⟨b,off,none⟩:Addr).add j)=some v)
section
variable {P:Program} {fr:cw} {B:Bs} {L:AL} {d:Option Tmp} {ty t t':TypeId} {pos:String} {af:Array Edge} {g:Option (Nat×Bool)} {x y z q:Operand} {u:AV}
theorem va {sz:Nat} {l:List (List AV)} (hy:bU fr y=some u) (hu:gZ u=some (sz,l)):Fs fr B L y sz l.length l.flatten:=by
 intro σ ρ w hρ hw
 have hyv:=(hρ y u hy).im
 rw [cS hu] at hyv
 obtain ⟨A2,c2,hA2,_⟩:=hyv.imm_inv
 rw [hA2] at hyv
 obtain ⟨_,_,_,hs2,ys,hyl,hyr,hy1,hyc⟩:=hyv.row
 refine ⟨A2,c2,ys,hA2,by simpa using hyr,hy1,?_,fun h0=>?_⟩
 ·rw [hyl]
 ·obtain ⟨b2,off2,e,hycc⟩:=hyc h0
  exact ⟨b2,off2,e,fun j v hj=>by rw [fD];exact hw.froz _ _ _ (hycc j v hj)⟩
end
end Go.Proofs.YtjjpkibjffmceaaGreat
namespace Go.Proofs.YtjjpkibjffmceaaGreat
open Go.RowKit
def Iv:AV→Option Bool
 | .iptr _=>some false
 | .sc (.pointer none)=>some true
 | .sc (.pointer (some _))=>some false
 | _=>none
section
variable {P:Program} {fr:cw} {B:Bs} {L:AL} {d:Option Tmp} {ty t t':TypeId} {pos:String} {af:Array Edge} {g:Option (Nat×Bool)} {x y z q:Operand} {u:AV}
theorem Dc {e sz by_:Nat} {parts:Array (Nat×Operand)} (hc:mI P t e sz by_) (hsz:0 < sz) (hp:parts=#[]):AO P ⟨d,.buildSlice t 0 parts,ty,pos,af,g⟩ fr B L (fun c L'=>∃b,c= .sc (.slice (some ⟨b,0,none⟩) 0 0)∧L'=(b,.box [] e)::L):=by
 intro σ ρ w hρ hw
 subst hp
 haveI:=hc
 have hr:=Cy (P:=P) (t:=t) (by simpa [Nat.blt_eq] using hsz) [] (by simp) (by simp [Nat.ble_eq]) w
 simp at hr
 unfold je
 rw [show (execOp ρ ⟨d,.buildSlice t 0 #[],ty,pos,af,g⟩).run P w= .ok (.value (.slice (some ⟨w.heap.size,0,none⟩) 0 0)) (w.alloc (.cells #[] e)) by
  simp [execOp,hr]]
 exact ⟨σ,.sc _,_,cP.le_refl _,.sc _,hw.alloc _ (.box [] e) ⟨[],rfl,dR.nil,by simp⟩,_,rfl,rfl⟩
end
section
variable {P:Program} {tt:TT} {r:Option Nat} {ops:Array Oper} {Q:Exit→Act→World→Prop} {nt:Nat} {D:List Deferred} {fr:cw} {B:Bs} {L:AL} {rest:List Oper} {d:Nat} {ty t t':TypeId} {pos:String} {af:Array Edge} {x y z:Operand} {u:AV}
theorem C3 (ok:f6 P tt) {e sz by_:Nat} (ht:kN tt t=some (e,sz,by_)) (hd:Nat.ble nt d=false) (h:∀b,cg P r ops Q nt D rest ((d,.sc (.slice (some ⟨b,0,none⟩) 0 0))::fr) B ((b,.box [] e)::L)):
  cg P r ops Q nt D (⟨some d,.buildSlice t 0 #[],ty,pos,af,none⟩::rest) fr B L:=dE hd rfl (Dc (bW ok ht).1 (bW ok ht).2 rfl) fun c L' ⟨b,h1,h2⟩=>by subst h1;subst h2;exact h b
end
end Go.Proofs.YtjjpkibjffmceaaGreat
namespace Go.Proofs.YtjjpkibjffmceaaGreat
open Go.RowKit
section
variable {P:Program} {tt:TT} {r:Option Nat} {ops:Array Oper} {Q:Exit→Act→World→Prop} {nt:Nat} {D:List Deferred} {fr:cw} {B:Bs} {L:AL} {rest:List Oper} {d:Nat} {ty t t':TypeId} {pos:String} {af:Array Edge} {x y z:Operand} {u:AV}
theorem Eg (ok:f6 P tt) (hi:Nat) {s e sz by_:Nat} {l:List (List AV)} {k:IntKind} {a:Int} (ht:kN tt t=some (e,sz,by_)) (hx:bU fr x=some u) (hu:gZ u=some (s,l)) (hs:Nat.beq s sz=true) (hy:bU fr y=some (.sc (.int k a))) (ha:a=(hi:Int)) (h1:hi≤l.length) (hd:Nat.ble nt d=false) (h:cg P r ops Q nt D rest ((d,.imm s (l.take hi))::fr) B L):
  cg P r ops Q nt D (⟨some d,.slice t x none (some y) none,ty,pos,af,none⟩::rest) fr B L:=dT (vi (bW ok ht).1 hx (cS hu) hs hy ha h1) hd rfl h
end
section
variable {P:Program} {tt:TT} {l:List Oper} {fr:cw} {fin:jb} {sk:lL} {acc:cw} {L:AL} {k:Nat} {dd:Option Tmp} {ty t:TypeId} {pos:String} {af:Array Edge} {g:Option (Nat×Bool)} {x y z:Operand} {u:AV}
theorem Dt (ok:f6 P tt) (lo:Nat) {s e sz by_:Nat} {ll:List (List AV)} {q:IntKind} {a:Int} (ht:kN tt t=some (e,sz,by_)) (hx:bU (da l.toArray acc fr af.toList) x=some u) (hu:gZ u=some (s,ll)) (hs:Nat.beq s sz=true) (hy:bU (da l.toArray acc fr af.toList) y=some (.sc (.int q a))) (ha:a=(lo:Int)) (h1:lo≤ll.length) (hg:iL ⟨dd,.slice t x (some y) none none,ty,pos,af,g⟩ acc) (h:DA P l fr fin sk ((k,.imm s (ll.drop lo))::acc) L):
  du P l fr fin k .v ⟨dd,.slice t x (some y) none none,ty,pos,af,g⟩ sk acc L:=gq hg (CT (Ax (bW ok ht).1 hx (cS hu) hs hy ha h1)) h
theorem Du (ok:f6 P tt) {e sz by_ n:Nat} {parts:Array (Nat×Operand)} {vs:List AV} {xs:List (List AV)} (ht:kN tt t=some (e,sz,by_)) (hv:eN (da l.toArray acc fr af.toList) (parts.toList.map (·.2))=some vs) (hxs:iR vs=some xs) (hn:Nat.beq xs.length n=true) (hi:parts.toList.map (·.1)=List.range' 0 n) (hz:xs.all (fun q=>Nat.beq q.length sz)=true) (h24:Nat.ble (n * sz) 16777216=true) (hg:iL ⟨dd,.buildSlice t n parts,ty,pos,af,g⟩ acc) (h:∀b,DA P l fr fin sk ((k,.vec (some (b,n)) sz xs)::acc) ((b,.vec e sz n n)::L)):
  du P l fr fin k .e ⟨dd,.buildSlice t n parts,ty,pos,af,g⟩ sk acc L:=
 iy hg (fun _=>s8 (bW ok ht).1 (bW ok ht).2 hv hxs hn hi hz h24) fun c L' ⟨b,h1,h2⟩=>by subst h1;subst h2;exact h b
end
section
variable {P:Program} {r:Option Nat} {Q:Exit→Act→World→Prop} {nt:Nat} {D:List Deferred} {fr:cw} {B:Bs} {L:AL}
theorem Dg {A C:Code} (ks:List Nat) (fr1:cw) (L1:AL) (hA:∀Q',(∀fr',gE fr' ks=some fr1→AX P .normal Q' nt D fr' B L1)→AT P r A Q' nt D fr B L) (hB:AT P r C Q nt D fr1 B L1):AT P r A (Kt P r C Q) nt D fr B L:=
 hA _ fun _ h=>a8 (sb ks h hB)
end
end Go.Proofs.YtjjpkibjffmceaaGreat
namespace Go.Proofs.YtjjpkibjffmceaaGreat
open Go.RowKit
section
variable {P:Program} {fr:cw} {B:Bs} {L:AL} {d:Option Tmp} {ty t t':TypeId} {pos:String} {af:Array Edge} {g:Option (Nat×Bool)} {x y z q:Operand} {u:AV}
theorem tF (i:Nat) {e sz by_ b n cap m:Nat} {cs es:List AV} {zs:List Value} (hc:mI P t e sz by_) (hs0:0 < sz) (hz:CZ P e zs) (hz1:zs.all (·.oneCell')=true) (hx:bU fr x=some (.sc (.slice (some ⟨b,0,none⟩) n cap))) (hy:Fs fr B L y sz m es) (hL:L[i]?=some (b,.box cs e)) (hcl:cs.length=cap * sz) (hn:n≤cap) (hcm:cap≤maxLen) (h63:n+m≤maxLen) (hby:(n+m) * by_≤140737488355328):
  AO P ⟨d,.call ⟨.builtin .append,#[x,y],#[t,t]⟩,ty,pos,af,g⟩ fr B L (fun r L'=>∃b' cs' cap',r= .sc (.slice (some ⟨b',0,none⟩) (n+m) cap')∧cs'.length=cap' * sz∧cs'.take ((n+m) * sz)=cs.take (n * sz)++es∧n+m≤cap'∧cap'≤maxLen∧L'=(b',.box cs' e)::L.eraseIdx i):=by
 intro σ ρ w hρ hw0
 obtain ⟨A2,c2,ys,hA2,hyr,hy1,hyl,hycc⟩:=hy σ ρ w hρ hw0
 have hw:=hw0.perm (gz hL)
 have hxv:=(hρ x _ hx).sc_inv
 haveI:=hc
 obtain ⟨inf,zz,hi,hsz,rfl,hzz,hzs⟩:=hc.info
 have hzc:=hz.cells hi hzz w
 obtain ⟨o,ho,vs,rfl,hvs,h1⟩:=hw.here _ (List.mem_cons_self ..)
 have hl:=hvs.1
 have hel:es.length=m * sz:=by rw [←hyl];exact hyr.1
 have hyl':ys.length=m * inf.size:=by rw [hsz];exact hyl
 have hmul:(n+m) * sz=n * sz+m * sz:=Nat.add_mul ..
 have hnc:n * sz≤cap * sz:=Nat.mul_le_mul_right _ hn
 unfold maxLen at hcm h63
 unfold je
 by_cases hm0:m=0
 ·subst hm0
  have hes:es=[]:=List.eq_nil_of_length_eq_zero (by rw [hel];omega)
  subst hes
  rw [show (execOp ρ ⟨d,.call ⟨.builtin .append,#[x,y],#[t,t]⟩,ty,pos,af,g⟩).run P w= .ok (.value (.slice (some ⟨b,0,none⟩) n cap)) w by
   simp [execOp,resolve,hxv,hA2,invoke,builtin,kI (t:=t) hn]]
  refine ⟨σ,.sc _,_,cP.le_refl _,.sc _,hw,b,cs,cap,rfl,hcl,?_,hn,by unfold maxLen;omega,rfl⟩
  ·simp
 obtain ⟨b2,off2,rfl,hnews⟩:=hycc (by omega)
 by_cases hroom:n+m≤cap
 ·have hnc1:(n+m) * sz≤cap * sz:=Nat.mul_le_mul_right _ hroom
  have hr:=run_append_room (P:=P) w t ty e inf hc.under hi b n cap vs.toArray ho ⟨b2,off2,none⟩ m c2 ys hyl' hnews hy1 hroom (by rw [hsz];simp;omega)
  rw [show (execOp ρ ⟨d,.call ⟨.builtin .append,#[x,y],#[t,t]⟩,ty,pos,af,g⟩).run P w= .ok (.value (.slice (some ⟨b,0,none⟩) (n+m) cap)) (w.setRow b (vs.toArray.toList.take (n * inf.size)++ys++vs.toArray.toList.drop (n * inf.size+ys.length)).toArray) by
   simp [execOp,resolve,hxv,hA2,invoke,builtin,hr]]
  rw [hsz,hyl]
  refine ⟨σ,.sc _,_,cP.le_refl _,.sc _,hw.put (a':= .box (cs.take (n * sz)++es++cs.drop (n * sz+m * sz)) e) (fun _=>trivial) ⟨rfl,rfl,rfl,by simp,fun k _ hk=>setRow_other w b k _ (fun e=>hk (by simp [e]))⟩ (setRow_heap w b _ _ e _ ho) ⟨_,rfl,fC (fC (lg hvs _) hyr) (qS hvs _),fun u hu=>?_⟩,b,_,cap,rfl,?_,?_,hroom,by unfold maxLen;omega,rfl⟩
  ·rcases Jm hu with hu | hu
   ·rcases Jm hu with hu | hu
    ·exact h1 _ (List.mem_of_mem_take hu)
    ·exact hy1 _ hu
   ·exact h1 _ (List.mem_of_mem_drop hu)
  ·simp only [List.length_append,List.length_take,List.length_drop,hel];omega
  ·rw [List.take_append_of_le_length (by simp;omega),List.take_of_length_le (by simp;omega)]
 ·have holds:∀j v,(vs.take (n * sz))[j]?=some v→w.cell? ((⟨b,0,none⟩:Addr).add j)=some v:=fun j v hj=>by
   rw [fD,Nat.zero_add,ez ho]
   have hjl:=(Jo hj).1
   rw [List.length_take] at hjl
   rw [List.getElem?_take_of_lt (by omega)] at hj
   simpa using hj
  have hr:=run_append_grow (P:=P) w t ty e inf zz hc.under hi hzz ⟨b,0,none⟩ n cap (vs.take (n * sz)) (by rw [hsz,List.length_take];omega) holds ⟨b2,off2,none⟩ m c2 ys hyl' hnews (by omega) (by omega) (growslice_fits (by omega) hby)
  rw [show (execOp ρ ⟨d,.call ⟨.builtin .append,#[x,y],#[t,t]⟩,ty,pos,af,g⟩).run P w= .ok (.value (.slice (some ⟨w.heap.size,0,none⟩) (n+m) (grownCap w (n+m) cap e))) (w.drew.alloc (.cells ((vs.take (n * sz)).toArray++ys.toArray++Builtin.zeroCells zz.cells (grownCap w (n+m) cap e - (n+m))) e)) by
   simp [execOp,resolve,hxv,hA2,invoke,builtin,hr]]
  have hge:=grownCap_ge w (n+m) cap e
  have hgm:=grownCap_le_maxLen w (n+m) cap e (by unfold maxLen;omega)
  have hzl:∀k,(Builtin.zeroCells zz.cells k).toList.length=k * sz:=fun k=>by rw [Array.length_toList,size_zeroCells,hzs]
  have hzm:∀k,∀v∈(Builtin.zeroCells zz.cells k).toList,v.oneCell'=true:=fun k v hv=>by
   have:=jw hv
   rw [hzc] at this
   exact List.all_eq_true.1 hz1 v (by simpa using this)
  generalize grownCap w (n+m) cap e=cap' at *
  have hmc:cap' * sz=(n+m) * sz+(cap' - (n+m)) * sz:=by rw [←Nat.add_mul];congr 1;omega
  have hzl':=hzl (cap' - (n+m))
  have hzm':=hzm (cap' - (n+m))
  generalize Builtin.zeroCells zz.cells (cap' - (n+m))=zc at *
  refine ⟨σ,.sc _,_,cP.le_refl _,.sc _,((hw.sublist (List.sublist_cons_self ..)).drew _).alloc _ (.box (cs.take (n * sz)++es++zc.toList.map AV.sc) e) ⟨vs.take (n * sz)++ys++zc.toList,by simp,fC (fC (lg hvs _) hyr) (tf _),fun u hu=>?_⟩,w.heap.size,_,cap',rfl,?_,?_,hge,hgm,rfl⟩
  ·rcases Jm hu with hu | hu
   ·rcases Jm hu with hu | hu
    ·exact h1 _ (List.mem_of_mem_take hu)
    ·exact hy1 _ hu
   ·exact hzm' u hu
  ·simp only [List.length_append,Jt,hzl',List.length_take,hel];omega
  ·rw [List.take_append_of_le_length (by simp;omega),List.take_of_length_le (by simp;omega)]
end
section
variable {P:Program} {tt:TT} {r:Option Nat} {ops:Array Oper} {Q:Exit→Act→World→Prop} {nt:Nat} {D:List Deferred} {fr:cw} {B:Bs} {L:AL} {rest:List Oper} {d:Nat} {ty t t':TypeId} {pos:String} {af:Array Edge} {x y z:Operand} {u:AV}
theorem qj (ok:f6 P tt) (i:Nat) {e sz by_ b n cap m:Nat} {cs es:List AV} {zs:List Value} (ht:kN tt t=some (e,sz,by_)) (hz:zI tt e=some zs) (hz1:zs.all (·.oneCell')=true) (hx:bU fr x=some (.sc (.slice (some ⟨b,0,none⟩) n cap))) (hy:Fs fr B L y sz m es) (hL:L[i]?=some (b,.box cs e)) (hcl:cs.length=cap * sz) (hn:n≤cap) (hcm:cap≤maxLen) (h63:n+m≤maxLen) (hby:(n+m) * by_≤140737488355328) (hd:Nat.ble nt d=false)
  (h:∀b' cs' cap',cs'.length=cap' * sz→cs'.take ((n+m) * sz)=cs.take (n * sz)++es→n+m≤cap'→cap'≤maxLen→cg P r ops Q nt D rest ((d,.sc (.slice (some ⟨b',0,none⟩) (n+m) cap'))::fr) B ((b',.box cs' e)::L.eraseIdx i)):
  cg P r ops Q nt D (⟨some d,.call ⟨.builtin .append,#[x,y],#[t,t]⟩,ty,pos,af,none⟩::rest) fr B L:=
 dE hd rfl (tF i (bW ok ht).1 (bW ok ht).2 (eA ok hz) hz1 hx hy hL hcl hn hcm h63 hby) fun c L' ⟨b',cs',cap',h1,h2,h3,h4,h5,h7⟩=>by subst h1;subst h7;exact h b' cs' cap' h2 h3 h4 h5
end
section
variable {P:Program} {r:Option Nat} {Q:Exit→Act→World→Prop} {nt:Nat} {D:List Deferred} {fr:cw} {B:Bs} {L:AL}
theorem xd {α:Type} {A C:Code} (ks:List Nat) (fr1:α→cw) (L1:α→AL) (φ:α→Prop) (hA:∀Q',(∀x fr',φ x→gE fr' ks=some (fr1 x)→AX P .normal Q' nt D fr' B (L1 x))→AT P r A Q' nt D fr B L) (hB:∀x,φ x→AT P r C Q nt D (fr1 x) B (L1 x)):AT P r A (Kt P r C Q) nt D fr B L:=
 hA _ fun x _ hx h=>a8 (sb ks h (hB x hx))
end
section
variable {P:Program} {tt:TT} {l:List Oper} {fr:cw} {fin:jb} {sk:lL} {acc:cw} {L:AL} {k:Nat} {dd:Option Tmp} {ty t t':TypeId} {pos:String} {af:Array Edge} {g:Option (Nat×Bool)} {x y z:Operand} {u:AV}
theorem Ba (ok:f6 P tt) {e sz by_ n:Nat} {parts:Array (Nat×Operand)} {vs:List AV} {xs:List (List AV)} (ht:kN tt t=some (e,sz,by_)) (hv:eN (da l.toArray acc fr af.toList) (parts.toList.map (·.2))=some vs) (hxs:iR vs=some xs) (hn:Nat.beq xs.length n=true) (hi:parts.toList.map (·.1)=List.range' 0 n) (hz:xs.all (fun q=>Nat.beq q.length sz)=true) (h24:Nat.ble (n * sz) 16777216=true) (hg:iL ⟨dd,.buildSlice t n parts,ty,pos,af,g⟩ acc) (h:∀b,DA P l fr fin sk ((k,.vec (some (b,n)) sz xs)::acc) ((b,.vec e sz n n)::L)):
  du P l fr fin k .a ⟨dd,.buildSlice t n parts,ty,pos,af,g⟩ sk acc L:=
 vH (fun c L' ⟨b,_,h2⟩=>⟨[(b,_)],h2⟩) hg (fun _=>s8 (bW ok ht).1 (bW ok ht).2 hv hxs hn hi hz h24) fun c L' ⟨b,h1,h2⟩=>by subst h1;subst h2;exact h b
theorem xn {q:IntKind} {a b:Int} (h:DA P l fr fin sk ((k,.sc (.int q (a.tmod b)))::acc) L) (hx:bU (da l.toArray acc fr af.toList) x=some (.sc (.int q a)):=by rfl) (hy:bU (da l.toArray acc fr af.toList) y=some (.sc (.int q b)):=by rfl) (hb:b≠0:=by omega) (hg:iL ⟨dd,.binOp .rem t x y t',ty,pos,af,g⟩ acc:=by first | trivial | rfl):
  du P l fr fin k .v ⟨dd,.binOp .rem t x y t',ty,pos,af,g⟩ sk acc L:=gq hg (CT (F0 hx hy hb)) h
end
theorem pq (a:Int) {b:Int} (hb:0 < b): -b < a.tmod b∧a.tmod b < b:=⟨Int.lt_tmod_of_pos a hb,Int.tmod_lt_of_pos a hb⟩
theorem dc {a b:Int} (ha:0≤a) (hb:0 < b):0≤a.tmod b∧a.tmod b < b:=⟨Int.tmod_nonneg b ha,Int.tmod_lt_of_pos a hb⟩
theorem ug {α:Type} {sz:Nat}:∀(l:List (List α)) (i c:Nat) (e:List α) (v:α),(∀e∈l,e.length=sz)→l[i]?=some e→c < sz→l.flatten.set (i * sz+c) v=(l.set i (e.set c v)).flatten
 | [],i,c,e,v,_,h,_=>by simp at h
 | x::l,0,c,e,v,hs,h,hc=>by
  simp at h
  subst h
  have hx:=hs x (List.mem_cons_self ..)
  rw [List.flatten_cons,List.set_cons_zero,List.flatten_cons,Nat.zero_mul,Nat.zero_add,List.set_append_left _ _ (by omega)]
 | x::l,i+1,c,e,v,hs,h,hc=>by
  have hx:=hs x (List.mem_cons_self ..)
  rw [List.flatten_cons,List.set_cons_succ,List.flatten_cons,←ug l i c e v (fun e he=>hs e (Js _ he)) (by simpa using h) hc,List.set_append_right _ _ (by rw [hx,Nat.add_mul];omega),hx,show (i+1) * sz+c - sz=i * sz+c by rw [Nat.add_mul];omega]
theorem xR {α:Type} {sz n i c:Nat} {cs:List α} {l:List (List α)} {e:List α} {v:α} (h:cs.take (n * sz)=l.flatten) (hs:∀e∈l,e.length=sz) (hl:l.length=n) (he:l[i]?=some e) (hv:e[c]?=some v):cs[i * sz+c]?=some v:=by
 have h1:=ph l i c e v hs he hv
 have hi:=(Jo he).1
 have hc:c < sz:=by rw [←hs e (Jw he)];exact (Jo hv).1
 have h2:(i+1) * sz≤n * sz:=Nat.mul_le_mul_right _ (by omega)
 rw [Nat.add_mul] at h2
 rw [←h,List.getElem?_take_of_lt (by omega)] at h1
 exact h1
theorem xS {α:Type} {sz n i c:Nat} {cs:List α} {l:List (List α)} {e:List α} (v:α) (h:cs.take (n * sz)=l.flatten) (hs:∀e∈l,e.length=sz) (he:l[i]?=some e) (hc:c < sz):(cs.set (i * sz+c) v).take (n * sz)=(l.set i (e.set c v)).flatten:=by
 rw [←ug l i c e v hs he hc,←h,List.take_set]
end Go.Proofs.YtjjpkibjffmceaaGreat
