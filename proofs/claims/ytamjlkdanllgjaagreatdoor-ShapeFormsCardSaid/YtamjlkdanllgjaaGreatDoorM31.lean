/-
  few, Same and Items of the laws.
-/
import Derived.Test.YtamjlkdanllgjaaGreatDoorM30
import Derived.Test.YtamjlkdanllgjaaGreatDoorM13
import Derived.Test.YtamjlkdanllgjaaGreatDoorM16
import Derived.Test.YtamjlkdanllgjaaGreatDoorM23
import Derived.Test.YtamjlkdanllgjaaGreatDoorM12
namespace Go.Proofs.YtamjlkdanllgjaaGreatDoor
open Go.RowKit
attribute [local irreducible] AT bz AX AO Av Kt aZ cY DA cu
set_option maxRecDepth 8000
def md (x:aM):List Int:=[x.Glyph,x.Cluster,x.Form,x.Advance,x.X,x.Y]
theorem ru {a b:aM} (h:md a=md b):a=b:=by
 cases a;cases b
 simpa [md] using h
instance:DecidableEq aM:=fun a b=>decidable_of_iff (md a=md b) ⟨ru,fun h=>by rw [h]⟩
theorem yS:wP Tryz.prog 56 6:=⟨⟨_,Tryz.underlying56,rfl,⟨by decide,rfl,Tryz.underlying3⟩,⟨by decide,rfl,Tryz.underlying3⟩,⟨by decide,rfl,Tryz.underlying3⟩,⟨by decide,rfl,Tryz.underlying3⟩,⟨by decide,rfl,Tryz.underlying3⟩,⟨by decide,rfl,Tryz.underlying3⟩,trivial⟩,by kernel_rfl,by kernel_rfl⟩
theorem CO (a b:List aM) (ha:a.length≤1000000):bD Tryz.prog 14 [.imm 6 (a.map cg),.imm 6 (b.map cg)] (cw (decide (a=b))):=by
 refine aI Tryz.func14 rfl Tryz.ntmps14 rfl fun B=>?_
 have hal:(a.map cg).length=a.length:=Mv ..
 have hbl:(b.map cg).length=b.length:=Mv ..
 repeat' (first|refine ae ?_|refine a6 ?_|refine a8 ?_|refine aa ?_|refine LR a7 LL ?_)
 refine aB rfl (fun h1=>?_) (fun h1=>?_)
 ·have hne:¬a.length=b.length:=by have:=Mz h1;omega
  rw [decide_eq_false (fun e:a=b=>hne (by rw [e]))]
  repeat' (first|refine ae ?_|refine a6 ?_|refine am ?_|refine a8 ?_|refine az ?_|refine aa ?_|refine LR a7 LL ?_)
  exact LY LM
 ·have heq:a.length=b.length:=by have:=My h1;omega
  clear h1
  repeat' (first|refine ae ?_|refine a6 ?_|refine ar ?_|refine aq ?_|refine a8 ?_|refine aa ?_|refine LR a7 LL ?_)
  refine aN [0,1] (α:=Nat) (fun i=>[(5,aF i)]) (fun i=>i≤a.length∧a.take i=b.take i) (fun _=>[]) (fun i=>a.length - i) 0 rfl ⟨rfl,trivial⟩ ⟨Nat.zero_le _,rfl⟩ (fun _ _ h=>h) ?_
  rintro i ⟨hi,hti⟩
  try dsimp only [Mt,Ms,Mr,Mn]
  repeat' (first|refine ae ?_|refine a6 ?_|refine a8 ?_|refine aa ?_|refine LR a7 LL ?_)
  refine aB rfl (fun h1=>?_) (fun h1=>?_)
  ·have hi2:i < a.length:=by have:=Mz h1;omega
   obtain ⟨g,hg⟩:∃z,a[i]?=some z:=⟨_,Ia hi2⟩
   obtain ⟨x,hx⟩:∃z,b[i]?=some z:=⟨_,Ia (by omega)⟩
   have hgg:(a.map cg)[i]?=some (cg g):=by simp [hg]
   have hxg:(b.map cg)[i]?=some (cg x):=by simp [hx]
   clear h1
   repeat' (first|refine ae ?_|refine ar ?_|refine aq ?_|refine a8 ?_)
   refine bB 8 [(0,.v),(1,.v),(2,.v),(3,.v),(4,.v),(5,.v),(6,.v),(7,.v)] none ?_ trivial rfl (by kernel_rfl) (by kernel_rfl) (by kernel_rfl) mixed (by kernel_rfl) rfl
   repeat' (first|refine aJ ?_|refine bw a7 ?_|(apply cq;refine cQ a7 ?_)|fail)
   refine MG [0,1,5,20,24] LL ?_
   refine c5 (GD (a:=md g) (b:=md x) yS rfl rfl rfl rfl) rfl rfl ?_
   repeat' (first|refine a8 ?_|refine aa ?_)
   refine aB rfl (fun h1=>?_) (fun h1=>?_)
   ·have hne:¬md g=md x:=by
     intro e
     rw [decide_eq_true e] at h1
     cases h1
    rw [decide_eq_false (fun e:a=b=>hne (by rw [e,hx] at hg;cases hg;rfl))]
    repeat' (first|refine ae ?_|refine a6 ?_|refine am ?_|refine a8 ?_|refine az ?_|refine aR ?_|refine bF ?_|refine aa ?_|refine LR a7 LL ?_)
    exact LY LM
   ·have hgx:g=x:=by
     refine ru (Classical.byContradiction fun e=>?_)
     rw [decide_eq_false e] at h1
     cases h1
    repeat' (first|refine a6 ?_|refine aq ?_|refine a8 ?_|refine aP ?_|refine aa ?_|refine LR a7 LL ?_|(apply aY;refine aX ?_)|fail)
    exact aE (i+1) rfl ⟨by rw [Mw];rfl,trivial⟩ ⟨hi2,by rw [List.take_add_one,List.take_add_one,hti,hg,hx,hgx]⟩ (by omega) (fun _ _ h=>h)
  ·have hi2:i=a.length:=by have:=My h1;omega
   subst hi2
   rw [List.take_length,heq,List.take_length] at hti
   rw [decide_eq_true hti]
   repeat' (first|refine ae ?_|refine a6 ?_|refine am ?_|refine aO ?_|refine a8 ?_|refine av ?_|refine aC ?_|refine aA ?_|refine aa ?_|refine LR a7 LL ?_)
   exact LY LM
set_option maxRecDepth 8000
def jN (n:ByteArray) (a:Int):bn:=⟨n,a,false,[],[],[],[],[],[]⟩
def dH (gs:List bn) (cs:List dh) (ls:List b6) (fs:List bQ):aS:=⟨1000,gs,cs,ls,fs,[],[],[],[]⟩
def G8 (gs:List bn):Prop:=∀g∈gs,g=jN g.Name g.Advance
section
variable {gs:List bn} {cs:List dh} {ls:List b6} {fs:List bQ} (hg:G8 gs)
include hg
theorem mW:jG (dH gs cs ls fs).Glyphs.length (prt (dH gs cs ls fs)):=by
 refine ⟨fun _=>0,fun g h0 h1 p hp=>?_⟩
 exfalso
 unfold prt at hp
 cases hx:(dH gs cs ls fs).Glyphs[g.toNat]? with
 | none=>rw [hx] at hp;cases hp
 | some x=>
  rw [hx] at hp
  have:=hg x (Mx hx)
  dsimp only at hp
  rw [this] at hp
  simp [jN] at hp
theorem yg:jJ (dH gs cs ls fs) (fun _=>0) (fun _=>0):=by
 intro z _ _ gl hgl
 rw [hg gl (Mx hgl)]
 exact ⟨rfl,rfl⟩
theorem pb (h0:gs≠[]) (h1:(cB 400 gs (fK (dH gs cs ls fs))).1=0) (h2:(cB 1000 cs (j3 (dH gs cs ls fs))).1=0) (h3:(cB 40 ls (kD (dH gs cs ls fs))).1=0) (h4:(cB 20 fs (ky (dH gs cs ls fs))).1=0) (h5:(nQ gs.length (fun _=>0) (fun _=>0)).1=0):(ia (dH gs cs ls fs)).1=0:=by
 refine fh.2 fun x hx=>?_
 have hc:(nR (dH gs cs ls fs)).1=0:=by
  rw [tP (kV h1) (mW hg) (yg hg)]
  exact h5
 simp only [Bn,List.mem_cons,List.not_mem_nil,or_false] at hx
 rcases hx with rfl | rfl | rfl | rfl | rfl | rfl | rfl | rfl | rfl | rfl
 ·show kW (dH gs cs ls fs)=0
  unfold kW
  rw [if_neg (by simp [dH]),if_neg (by simpa [dH] using h0)]
 ·exact h1
 ·exact hc
 ·exact h2
 ·exact h3
 ·exact h4
 ·rfl
 ·rfl
 ·rfl
 ·rfl
theorem x6 (hl:gs.length≤1000000) (hc:cs.length≤1000000) (h3:ls.length≤1000000∧∀q∈ls,q.Rules.length≤1000000∧∀r∈q.Rules,Gg r) (h4:fs.length≤1000000∧∀q∈fs,q.Lookups.length≤1000000):Dv (dH gs cs ls fs):=⟨rfl,rfl,fun g hgm=>by rw [hg g hgm];rfl,⟨hl,fun g hgm=>by
 rw [hg g hgm]
 exact ⟨Nat.zero_le _,Nat.zero_le _,Nat.zero_le _,Nat.zero_le _,Nat.zero_le _⟩⟩,hc,h3,h4,⟨Nat.zero_le _,fun q hq=>by cases hq⟩,Nat.zero_le _⟩
theorem AM (hl:gs.length≤400) (hc:cs.length≤1000):JD (dH gs cs [] []):=by
 refine ⟨mW hg,fun _=>x6 hg (by omega) (by omega) ⟨Nat.zero_le _,fun q hq=>by cases hq⟩ ⟨Nat.zero_le _,fun q hq=>by cases hq⟩,fun h=>⟨⟨?_,?_⟩,Nat.zero_le _,(fun q hq=>by cases hq),(fun q hq=>by cases hq)⟩⟩
 ·refine Nat.pos_of_ne_zero fun e=>?_
  have:=fh.1 h (kW (dH gs cs [] []),0) (by simp [Bn])
  unfold kW at this
  rw [if_neg (by simp [dH]),if_pos e] at this
  simp at this
 ·show gs.length≤_
  omega
end
theorem Ch (want:List ByteArray) (f:aS) (h:f.Features=[]):ct want f=[]∧eX want f=[]:=by
 have:ct want f=[]:=by unfold ct bS;rw [h];simp [f6,nS,GW]
 exact ⟨this,by unfold eX;rw [this];rfl⟩
theorem AK {gs:List bn} {cs:List dh} {rs:List Int} {want:List ByteArray} (hr:rs.length≤1000000) (hgl:∀x∈cU (dH gs cs [] []) rs,0≤x.Glyph∧x.Glyph < gs.length):Gh (dH gs cs [] []) rs want [] (cU (dH gs cs [] []) rs):=by
 have hsl:(cU (dH gs cs [] []) rs).length≤1000000:=by unfold cU;rw [Mv,(iN rs).1];exact hr
 obtain ⟨h1,h2⟩:=Ch want (dH gs cs [] []) rfl
 refine ⟨fun E _ _ _ q hq=>?_,hsl,hgl⟩
 rw [h1,h2]
 exact F9 _ q _ hq hsl
theorem DY {gs:List bn} {cs:List dh} {rs:List Int} {want:List ByteArray} (hr:rs.length≤1000000) (hg:qQ rs) (hc:cs.length≤1000000):Gj (dH gs cs [] []) rs want:=⟨hr,hg,hc,Nat.zero_le _,Nat.zero_le _,fun l hl=>by rw [(Ch want (dH gs cs [] []) rfl).1] at hl;cases hl⟩
def G3:List bn:=[jN ⟨#[46,110,111,116,100,101,102]⟩ 0,jN ⟨#[97]⟩ 500]
def Jv:List dh:=[⟨97,1⟩]
theorem xP:G8 G3:=fun g hg=>by
 unfold G3 at hg
 simp only [List.mem_cons,List.not_mem_nil,or_false] at hg
 rcases hg with rfl | rfl <;> rfl
theorem D1:(ia (dH G3 Jv [] [])).1=0:=pb xP (by simp [G3]) (by decide) (by decide) (by decide) (by decide) (by decide)
theorem HX:ov (dH G3 Jv [] []) [97,98] []=0:=by
 unfold ov
 rw [D1]
 rfl
theorem D2:cU (dH G3 Jv [] []) [97,98]=[⟨1,0,0,0,0,0⟩,⟨0,1,0,0,0,0⟩]:=by kernel_rfl
set_option maxHeartbeats 4000000 in
theorem zG:bD Tryz.prog 7 [] (cw true):=by
 refine aI Tryz.func7 rfl Tryz.ntmps7 rfl fun B=>?_
 have hsh:=uJ (dH G3 Jv [] []) (AM xP (by decide) (by decide)) [97,98] [] [] [] (cU (dH G3 Jv [] []) [97,98]) (DY (by decide) (ro (by decide)) (by decide)) fun _=>AK (by decide) (by rw [D2];decide)
 unfold Fd at hsh
 rw [HX,if_pos rfl,D2] at hsh
 repeat' (first|refine ae ?_|refine a6 ?_|refine a8 ?_|refine aa ?_|refine LR a7 LL ?_|(apply aU;first|refine LT 1 a7 0 LQ ?_|refine LT 1 a7 1 LQ ?_|refine LT 1 a7 2 LQ ?_|refine LU a7 0 LP ?_|refine LU a7 1 LP ?_|refine LU a7 2 LP ?_|refine LU a7 3 LP ?_|fail)|refine bf a7 fun _=>?_|refine cA a7 ?_|fail)
 refine aW [] [] (AC.args hsh ?_) rfl rfl (Mp _) rfl fun c L1 ⟨hc,hL⟩=>?_
 ·repeat' first | exact d4.refl _ | exact d4.nil _ | exact True.intro | refine d4.agg ?_ | refine d4.imm ?_ | refine And.intro ?_ ?_
 subst hc;subst hL
 repeat' (first|refine ae ?_|refine a6 ?_|refine a8 ?_|refine aa ?_|refine LR a7 LL ?_|refine MB LL ?_|refine cA a7 ?_|fail)
 refine b9 (hc:=⟨CO ([⟨1,0,0,500,0,0⟩,⟨0,1,0,0,0,0⟩]:List aM) [⟨1,0,0,500,0,0⟩,⟨0,1,0,0,0,0⟩] (by decide)⟩) ?_
 rw [show decide (([⟨1,0,0,500,0,0⟩,⟨0,1,0,0,0,0⟩]:List aM)=[⟨1,0,0,500,0,0⟩,⟨0,1,0,0,0,0⟩])=true from decide_eq_true rfl]
 repeat' (first|refine am ?_|refine a8 ?_|refine aa ?_|refine LR a7 LL ?_)
 exact LY LM
end Go.Proofs.YtamjlkdanllgjaaGreatDoor
namespace Go.Proofs.YtamjlkdanllgjaaGreatDoor
open Go.RowKit
attribute [local irreducible] AT bz AX AO Av Kt aZ cY DA cu
set_option maxRecDepth 8000
def JF:List bn:=[jN ⟨#[110,111,110,101]⟩ 0,jN ⟨#[97]⟩ 0,jN qg 0,jN qf 0,jN qh 0,jN qd 0]
def frC:List dh:=[⟨97,1⟩,⟨57345,1⟩,⟨57601,1⟩,⟨57857,1⟩]
def H4:List b6:=[zC 1 2,zC 1 3,zC 1 4,zC 1 5]
def H3:List bQ:=[⟨qg,[0]⟩,⟨qf,[1]⟩,⟨qh,[2]⟩,⟨qd,[3]⟩]
abbrev cN:aS:=dH JF frC H4 H3
def fX (b0 b1 b2 b3:Bool):List ByteArray:=(if b0 then [qg] else [])++((if b1 then [qf] else [])++((if b2 then [qh] else [])++if b3 then [qd] else []))
def wk (b0 b1 b2 b3:Bool):List Int:=(if b0 then [0] else [])++((if b1 then [1] else [])++((if b2 then [2] else [])++if b3 then [3] else []))
theorem Bu (b0 b1 b2 b3:Bool):(bS (fX b0 b1 b2 b3) H3).length≤4:=by
 cases b0 <;> cases b1 <;> cases b2 <;> cases b3 <;> decide+kernel
theorem IN (b0 b1 b2 b3:Bool):nS (bS (fX b0 b1 b2 b3) H3)=wk b0 b1 b2 b3:=by
 cases b0 <;> cases b1 <;> cases b2 <;> cases b3 <;> decide+kernel
theorem IR (b0 b1 b2 b3:Bool):(wk b0 b1 b2 b3).Pairwise (fun x y=>decide (x≤y)=true):=by
 cases b0 <;> cases b1 <;> cases b2 <;> cases b3 <;> decide+kernel
theorem px (b0 b1 b2 b3:Bool):ct (fX b0 b1 b2 b3) cN=wk b0 b1 b2 b3:=by
 show f6 (nS (bS (fX b0 b1 b2 b3) H3))=_
 rw [IN]
 exact List.mergeSort_of_pairwise (IR ..)
theorem EB (b0 b1 b2 b3:Bool):((wk b0 b1 b2 b3).map fun l=>eG (kc (bS (fX b0 b1 b2 b3) H3) l) 5)=(wk b0 b1 b2 b3).map fun n=>[n+1]:=by
 cases b0 <;> cases b1 <;> cases b2 <;> cases b3 <;> decide+kernel
theorem Bv (b0 b1 b2 b3:Bool):eX (fX b0 b1 b2 b3) cN=(wk b0 b1 b2 b3).map fun n=>[n+1]:=by
 unfold eX
 rw [px]
 exact EB ..
theorem xD (b0 b1 b2 b3:Bool):∀n∈wk b0 b1 b2 b3,0≤n∧n < 4:=by
 cases b0 <;> cases b1 <;> cases b2 <;> cases b3 <;> decide+kernel
theorem sh:G8 JF:=fun g hg=>by
 unfold JF at hg
 simp only [List.mem_cons,List.not_mem_nil,or_false] at hg
 rcases hg with rfl | rfl | rfl | rfl | rfl | rfl <;> rfl
theorem Bw:(ia cN).1=0:=pb sh (by simp [JF]) (by decide+kernel) (by decide+kernel) (by decide+kernel) (by decide+kernel) (by decide+kernel)
theorem H6:oP cN:=by
 have h:H4.all (BU 6)=true:=by decide+kernel
 rw [List.all_eq_true] at h
 have hh:∀l∈H4,l.Rules.length≤6∧∀r∈l.Rules,A3 6 r:=fun l hl=>by
  have:=h l hl
  unfold BU at this
  simp only [Bool.and_eq_true,decide_eq_true_eq,List.all_eq_true] at this
  exact ⟨this.1,fun r hr=>CK (this.2 r hr)⟩
 exact ⟨⟨by show 0 < 6;omega,by show 6≤65536;omega⟩,by show 4≤1000000;omega,fun l hl=>(hh l hl).1,fun l hl=>(hh l hl).2⟩
theorem IP:Dv cN:=by
 refine x6 sh (by show 6≤1000000;omega) (by show 4≤1000000;omega) ⟨by show 4≤1000000;omega,?_⟩ ⟨by show 4≤1000000;omega,?_⟩
 ·intro q hq
  unfold H4 at hq
  simp only [List.mem_cons,List.not_mem_nil,or_false] at hq
  rcases hq with rfl | rfl | rfl | rfl <;> refine ⟨by show 1≤1000000;omega,fun r hr=>?_⟩ <;> (rw [List.mem_singleton.1 hr];exact ⟨⟨Nat.zero_le _,fun _ h=>by cases h⟩,⟨by show 1≤1000000;omega,fun _ h=>by rw [List.mem_singleton.1 h];show 1≤1000000;omega⟩,⟨Nat.zero_le _,fun _ h=>by cases h⟩,by show 1≤1000000;omega,Nat.zero_le _⟩)
 ·intro q hq
  unfold H3 at hq
  simp only [List.mem_cons,List.not_mem_nil,or_false] at hq
  rcases hq with rfl | rfl | rfl | rfl <;> (show 1≤1000000;omega)
theorem H9:JD cN:=⟨mW sh,fun _=>IP,fun _=>H6⟩
def pE:List Int→List (List Int)→aM→aM
 | [],_,x=>x
 | n::ns,fs,x=>pE ns (fs.drop 1) (Dr (fs.headD []) 1 (n+2) x)
theorem xl {n:Int} (h:0≤n∧n < 4):H4[n.toNat]?=some (zC 1 (n+2)):=by
 have:n=0∨n=1∨n=2∨n=3:=by omega
 rcases this with rfl | rfl | rfl | rfl <;> rfl
theorem uH {ms:List Bool}:∀(ns:List Int) (fs:List (List Int)) (run:List aM),(∀n∈ns,0≤n∧n < 4)→ny (dB ms H4) ns fs run=run.map (pE ns fs)
 | [],fs,run,_=>by
  rw [ny]
  exact (List.map_id'' (fun _=>rfl) run).symm
 | n::ns,fs,run,h=>by
  have hn:=h n (List.mem_cons_self ..)
  rw [ny,CV hn.1 (xl hn),uH ns _ _ fun m hm=>h m (Mu _ hm),List.map_map]
  rfl
theorem ub {x:aM} (hx:x.Glyph≠1):∀(ns:List Int) (fs:List (List Int)),pE ns fs x=x
 | [],_=>rfl
 | n::ns,fs=>by
  rw [pE,show Dr (fs.headD []) 1 (n+2) x=x from if_neg fun h=>hx h.2]
  exact ub hx ns _
theorem ua {x:aM} (hx:x.Glyph=1):∀(ns:List Int),(∀n∈ns,0≤n)→pE ns (ns.map fun n=>[n+1]) x=if x.Form - 1∈ns then { x with Glyph:=x.Form+1 } else x
 | [],_=>rfl
 | n::ns,h=>by
  have hn:=h n (List.mem_cons_self ..)
  have ih:=ua hx ns fun m hm=>h m (Mu _ hm)
  rw [Mr,pE]
  show pE ns (ns.map fun n=>[n+1]) (Dr [n+1] 1 (n+2) x)=_
  by_cases hf:x.Form=n+1
  ·have:Dr [n+1] 1 (n+2) x={ x with Glyph:=n+2 }:=if_pos ⟨.inr (by rw [hf];exact List.mem_singleton.2 rfl),hx⟩
   rw [this,ub (by show n+2≠1;omega),if_pos (by rw [show x.Form - 1=n by omega];exact List.mem_cons_self ..),show n+2=x.Form+1 by omega]
  ·have:Dr [n+1] 1 (n+2) x=x:=if_neg fun h=>by
    rcases h.1 with h | h
    ·cases h
    ·exact hf (List.mem_singleton.1 h)
   rw [this,ih]
   have e:(x.Form - 1∈n::ns)=(x.Form - 1∈ns):=by
    rw [List.mem_cons,eq_iff_iff]
    exact ⟨fun h=>h.resolve_left (by omega),.inr⟩
   simp only [e]
def to (T:List Int):Prop:=T.length≤20∧∀r∈T,r=57601∨r=57345∨r=97∨r=57857
theorem to.glyph {T:List Int} (h:to T):∀x∈cU cN T,x.Glyph=1:=fun x hx=>by
 unfold cU at hx
 obtain ⟨a,ha,rfl⟩:=List.mem_map.1 hx
 have hal:=(iN T).2 a ha
 show Hc frC (T.getD a 0)=1
 have:T.getD a 0∈T:=by rw [List.getD_eq_getElem?_getD,Ia hal];exact List.getElem_mem hal
 rcases h.2 _ this with e | e | e | e <;> rw [e] <;> decide+kernel
def nu (T:List Int) (b0 b1 b2 b3:Bool):List aM:=(cU cN T).map fun x=>if x.Form - 1∈wk b0 b1 b2 b3 then { x with Glyph:=x.Form+1 } else x
theorem Bt (T:List Int) (b0 b1 b2 b3:Bool):(nu T b0 b1 b2 b3).length=T.length:=by
 unfold nu cU
 rw [Mv,Mv,(iN T).1]
section
variable {T:List Int} (h:to T) (b0 b1 b2 b3:Bool)
include h
theorem H5:ov cN T []=0:=by
 have:=h.1
 unfold ov
 rw [Bw,if_neg (by simp),if_neg (by omega),if_neg (by simp)]
theorem IQ:Gj cN T (fX b0 b1 b2 b3):=by
 have hl:=h.1
 refine ⟨by omega,ro hl,by show 4≤1000000;omega,by show 4≤1000000;omega,by have:=Bu b0 b1 b2 b3;show (bS _ H3).length≤_;omega,fun l hl=>?_⟩
 rw [px] at hl
 have hn:=xD _ _ _ _ l hl
 exact ⟨hn.1,_,xl hn,by show (1:Int)≤1;omega,by show (1:Int)≤5;omega⟩
theorem H7 {ms:List Bool}:ny (dB ms H4) (ct (fX b0 b1 b2 b3) cN) (eX (fX b0 b1 b2 b3) cN) (cU cN T)=nu T b0 b1 b2 b3:=by
 rw [px,Bv,uH _ _ _ (xD b0 b1 b2 b3)]
 unfold nu
 refine List.map_congr_left fun x hx=>?_
 exact ua (h.glyph x hx) _ fun n hn=>(xD _ _ _ _ n hn).1
theorem H8:Gh cN T (fX b0 b1 b2 b3) [cX] (nu T b0 b1 b2 b3):=by
 have hl:=h.1
 have hsl:(cU cN T).length≤1000000:=by unfold cU;rw [Mv,(iN T).1];omega
 refine ⟨fun E hE e1 _ q hq=>?_,by rw [Bt];omega,fun x hx=>?_⟩
 ·have:=Fa (dZ E) (Li hE) (ct (fX b0 b1 b2 b3) cN) (eX (fX b0 b1 b2 b3) cN) q (cU cN T) hq hsl
  rw [e1] at this
  rw [show ny (dB E.ms cN.Lookups) (ct (fX b0 b1 b2 b3) cN) (eX (fX b0 b1 b2 b3) cN) (cU cN T)=nu T b0 b1 b2 b3 from H7 h ..] at this
  exact this
 ·unfold nu at hx
  obtain ⟨y,hy,rfl⟩:=List.mem_map.1 hx
  have hg:=h.glyph y hy
  show _∧_ < (6:Int)
  split
  ·rename_i hm
   have:=xD _ _ _ _ _ hm
   dsimp only
   omega
  ·omega
theorem Bx:AC Tryz.prog 19 [cD cN,.imm 1 (aT T),.imm 1 (lA (fX b0 b1 b2 b3)),.imm 1 (aT [])] [cX] fun c L=>c= .tup [.imm 6 (((nu T b0 b1 b2 b3).map (jA cN)).map cg),aF 0]∧L=[cX]:=by
 have:=uJ cN H9 T [] (fX b0 b1 b2 b3) [cX] _ (IQ h ..) fun _=>H8 h ..
 unfold Fd at this
 rw [H5 h,if_pos rfl] at this
 exact this
end
end Go.Proofs.YtamjlkdanllgjaaGreatDoor
namespace Go.Proofs.YtamjlkdanllgjaaGreatDoor
open Go.RowKit
attribute [local irreducible] AT bz AX AO Av Kt aZ cY DA cu
set_option maxRecDepth 8000
def Hi (v:Int):Int:=bits .and .i64 v 65535
def K7 (g:Int) (i:Nat) (v:Int):aM:=⟨(Hi v).tmod (max g 1+1),i,(IntKind.wrap .i64 ((Hi v).tdiv 16)).tmod 5,IntKind.wrap .i64 ((Hi v).tdiv 7),0,0⟩
def FV (g:Int):Nat→List Int→List aM
 | _,[]=>[]
 | i,v::l=>K7 g i v::FV g (i+1) l
def KM (g:Int) (l:List Int):List aM:=FV g 0 (l.take 60)
set_option maxRecDepth 8000
variable (s:List Int) (hs:s.length≤1000000) (F:MF)
include hs
def Ly (o:List eL×List Int):AV:= .agg [.imm 3 (o.1.map fk),.imm 1 (aT o.2)]
def Ls (l:List eJ):AV:= .imm 2 (l.map fF)
end Go.Proofs.YtamjlkdanllgjaaGreatDoor
namespace Go.Proofs.YtamjlkdanllgjaaGreatDoor
section
variable {α β:Type}
def LG (g:DM α) (P:α→Prop):Prop:=∀m,P (g m).1
end
variable (s:List Int)
def Kn (p:eL):Prop:= -100≤p.X∧p.X≤900∧-200≤p.Y∧p.Y≤800
structure Ii (n:Nat) (o:List eL×List Int):Prop where
 pts:∀p∈o.1,Kn p
 len:o.1.length≤5 * n
 ends:j6 o.1.length (-1) o.2=true
 endl:o.2.length=n
def IV (i:eJ):Prop:=1≤i.Op∧i.Op≤39∧-100000≤i.A∧i.A≤100000
def B4 (k:Nat) (l:List eJ):Prop:=l.length≤k∧∀i∈l,IV i
structure JV (n:Int) (l:List Int):Prop where
  ne:l≠[]
  few:l.length≤4
  up:l.Pairwise (· < ·)
  dom:∀z∈l,0≤z∧z < n
def CH (n:Int) (k:Nat) (l:List (List Int)):Prop:=l.length≤k∧∀q∈l,JV n q
structure FL (n kind:Int) (calls:List Int) (r:bh):Prop where
 back:CH n 2 r.Back
 ahead:CH n 2 r.Ahead
 ins:CH n 3 r.In
 rows:iW kind r=false
 out:wl kind r=true
 outs:r.Out.length≤4∧∀z∈r.Out,0≤z∧z < n
 callsN:r.Calls.length≤2
 callsK:kind≠4→r.Calls=[]
 callsIn:∀c∈r.Calls,(0≤c.At∧c.At < r.In.length)∧c.Lookup∈calls
 x: -200≤r.X∧r.X≤200
 x0:kind≠6→r.X=0
structure Kx (k:Nat) (o:List b6×List Int):Prop where
 len:o.1.length=k
 kinds:∀l∈o.1,1≤l.Kind∧l.Kind≤8
 none:∀l∈o.1,l.Rules=[]
 calls:∀c∈o.2,∃(i:Nat) (l:b6),c=i∧o.1[i]?=some l∧l.Kind≤4
structure Kz (n:Int) (calls:List Int) (kinds:List Int) (l:List b6):Prop where
 kind:l.map b6.Kind=kinds
 few:∀q∈l,q.Rules.length≤3
 none:∀q∈l,7≤q.Kind→q.Rules=[]
 rule:∀q∈l,∀r∈q.Rules,FL n q.Kind calls r
structure Gd (n:Int) (l:List b6):Prop where
 len:l.length≤6
 kinds:∀q∈l,1≤q.Kind∧q.Kind≤8
 few:∀q∈l,q.Rules.length≤3
 none:∀q∈l,7≤q.Kind→q.Rules=[]
 rule:∀q∈l,∀r∈q.Rules,∃calls,FL n q.Kind calls r∧∀c∈calls,∃(i:Nat) (x:b6),c=i∧l[i]?=some x∧x.Kind≤4
end Go.Proofs.YtamjlkdanllgjaaGreatDoor
namespace Go.Proofs.YtamjlkdanllgjaaGreatDoor
open Go.RowKit
attribute [local irreducible] AT bz AX AO Av Kt aZ cY DA cu
set_option maxRecDepth 8000
variable (s:List Int) (hs:s.length≤1000000) (F:MF)
include hs
end Go.Proofs.YtamjlkdanllgjaaGreatDoor
namespace Go.Proofs.YtamjlkdanllgjaaGreatDoor
open Go.RowKit
attribute [local irreducible] AT bz AX AO Av Kt aZ cY DA cu
set_option maxRecDepth 8000
variable (s:List Int) (hs:s.length≤1000000) (F:MF)
include hs
abbrev qG:AV:= .sc (.slice none 0 0)
end Go.Proofs.YtamjlkdanllgjaaGreatDoor
namespace Go.Proofs.YtamjlkdanllgjaaGreatDoor
open Go.RowKit
attribute [local irreducible] AT bz AX AO Av Kt aZ cY DA cu
set_option maxRecDepth 8000
variable (s:List Int) (hs:s.length≤1000000) (F:MF)
include hs
def LC (l:List Int):AV:= .imm 1 (aT l)
def LB (l:List (List Int)):AV:= .imm 1 (bj l)
end Go.Proofs.YtamjlkdanllgjaaGreatDoor
namespace Go.Proofs.YtamjlkdanllgjaaGreatDoor
open Go.RowKit
attribute [local irreducible] AT bz AX AO Av Kt aZ cY DA cu
set_option maxRecDepth 8000
variable (s:List Int) (hs:s.length≤1000000) (F:MF)
include hs
def KW (r:bh):AV:= .agg (bR r)
def LK (rb:Nat) (b0 b1 b2 b3 b4:AV) (x:Int):Nat×AB:=(rb,.box [b0,b1,b2,b3,b4,aF x] 73)
end Go.Proofs.YtamjlkdanllgjaaGreatDoor
namespace Go.Proofs.YtamjlkdanllgjaaGreatDoor
open Go.RowKit
attribute [local irreducible] AT bz AX AO Av Kt aZ cY DA cu
set_option maxRecDepth 8000
def EP (i j:Nat) (l:b6):List AV:=[aF l.Kind,cw l.Ignore,if j < i then .imm 6 (l.Rules.map bR) else qG]
def BS (i:Nat):Nat→List b6→List AV
 | _,[]=>[]
 | k,l::r=>EP i k l++BS i (k+1) r
def LJ (i:Nat):Option (Nat×List AV×Nat)→AV
 | none=>qG
 | some (b,_,cap)=> .sc (.slice (some ⟨b,0,none⟩) i cap)
def Lv:Option (Nat×List AV×Nat)→AL
 | none=>[]
 | some (b,cs,_)=>[(b,.box cs 76)]
def KN (n i:Nat) (l:List b6):Option (Nat×List AV×Nat)→Prop
 | none=>n=0
 | some (_,cs,cap)=>cs.length=cap * 3∧n≤cap∧cap≤maxLen∧cs.take (n * 3)=BS i 0 l
set_option maxRecDepth 8000
variable (s:List Int) (hs:s.length≤1000000) (F:MF)
include hs
abbrev Ks (F:MF) (v:AV):MF:={ F with lk:=v }
end Go.Proofs.YtamjlkdanllgjaaGreatDoor
namespace Go.Proofs.YtamjlkdanllgjaaGreatDoor
variable (s:List Int)
def Jj (a:dK):Int×Int:=(a.Kind,a.Class)
structure JN (cl:Int) (mark:Bool) (l:List dK):Prop where
 sub:(l.map Jj).Sublist (tw cl)
 at':∀a∈l,(0≤a.X∧a.X≤1000)∧(-200≤a.Y∧a.Y≤800)∧(a.Kind=2→mark=true)
def KO (a b:ez):Prop:=a.Region < b.Region∨(a.Region=b.Region∧a.Point < b.Point)
structure JP (R pts:Nat) (l:List ez):Prop where
 up:l.Pairwise KO
 len:l.length≤R * (pts+1)
 dom:∀d∈l,(0≤d.Region∧d.Region < R)∧(-1≤d.Point∧d.Point < pts)∧(-20≤d.X∧d.X≤20)∧(-20≤d.Y∧d.Y≤20)∧(d.Point= -1→d.Y=0)
structure L7 (r p pts:Nat) (l:List ez):Prop where
 up:l.Pairwise KO
 len:l.length≤r * (pts+1)+p
 dom:∀d∈l,(0≤d.Region∧(d.Region < r∨(d.Region=r∧d.Point < (p:Int) - 1)))∧(-1≤d.Point∧d.Point < pts)∧(-20≤d.X∧d.X≤20)∧(-20≤d.Y∧d.Y≤20)∧(d.Point= -1→d.Y=0)
structure JR (R n:Nat) (g:bn):Prop where
 name:g.Name=rn n
 adv:100≤g.Advance∧g.Advance≤1000
 out:∃k,k≤2∧Ii k (g.Points,g.Ends)
 parts:g.Parts=[]∨(1 < n∧∃x y:Int,g.Parts=[⟨1,x,y⟩]∧(-200≤x∧x≤200)∧0≤y∧y≤200)
 anch:∃cl,(0≤cl∧cl < 2)∧JN cl g.Mark g.Anchors
 dels:JP R g.Points.length g.Deltas
 hint:B4 45 g.Hint
def I1 (t:fw):Prop:=rP 0 t=0
structure Ig (f:aS):Prop where
  unit:16≤f.Unit∧f.Unit≤4096
  glyN:2≤f.Glyphs.length∧f.Glyphs.length≤10
  gly:∀(i:Nat) g,f.Glyphs[i]?=some g→JR f.Regions.length i g
  chars:f.Chars.length≤16
  charR:(f.Chars.map dh.Rune).Sublist wz
  charG:∀c∈f.Chars,0≤c.Glyph∧c.Glyph < f.Glyphs.length
  looks:Gd f.Glyphs.length f.Lookups
  featN:(f.Features.map bQ.Name).Sublist Cb
  featL:∀t∈f.Features,t.Lookups.Pairwise (· < ·)∧t.Lookups.length≤6∧∀z∈t.Lookups,0≤z∧z < f.Lookups.length
  axes:f.Axes.length≤2
  axisN:f.Axes.map eV.Name=(List.range f.Axes.length).map (w3 IB)
  axis:∀a∈f.Axes,(-200≤a.Min∧a.Min≤0)∧a.Def=0∧0≤a.Max∧a.Max≤300
  regs:f.Regions.length≤3
  reg:∀r∈f.Regions,r.length=f.Axes.length∧∀t∈r,I1 t
  funcs:f.Funcs.length≤2
  func:∀c∈f.Funcs,B4 45 c
  cvt:f.Cvt.length≤3
  cvtM:∀z∈f.Cvt,-100≤z∧z < 400
end Go.Proofs.YtamjlkdanllgjaaGreatDoor
namespace Go.Proofs.YtamjlkdanllgjaaGreatDoor
open Go.RowKit
attribute [local irreducible] AT bz AX AO Av Kt aZ cY DA cu
set_option maxRecDepth 8000
variable (s:List Int) (hs:s.length≤1000000) (F:MF)
def K5 (nm:ByteArray) (ad:Int) (mk:Bool) (o:List eL×List Int) (ps an de hi:AV):List AV:=[mP nm,aF ad,cw mk,.imm 3 (o.1.map fk),.imm 1 (aT o.2),ps,an,de,hi]
def kC (cl:Int):List (List AV):=(tw cl).map fun p=>[aF p.1,aF p.2]
abbrev Kr (F:MF) (v:AV):MF:={ F with gl:=v }
include hs
end Go.Proofs.YtamjlkdanllgjaaGreatDoor
namespace Go.Proofs.YtamjlkdanllgjaaGreatDoor
open Go.RowKit
attribute [local irreducible] AT bz AX AO Av Kt aZ cY DA cu
set_option maxRecDepth 8000
variable (s:List Int) (hs:s.length≤1000000)
abbrev tB (tb:Nat):Nat×AB:=(tb,.box [aF 0,qG,qG,qG,qG,qG,qG,qG,qG] 36)
include hs
end Go.Proofs.YtamjlkdanllgjaaGreatDoor
namespace Go.Proofs.YtamjlkdanllgjaaGreatDoor
variable {f:aS} (h:Ig f)
include h
def KV (f:aS) (z:Int):Nat:=match f.Glyphs[z.toNat]? with | some g=>g.Parts.length | none=>0
def Km (f:aS) (z:Int):Nat:=match f.Glyphs[z.toNat]? with | some g=>g.Points.length | none=>0
end Go.Proofs.YtamjlkdanllgjaaGreatDoor
namespace Go.Proofs.YtamjlkdanllgjaaGreatDoor
open Go.RowKit
attribute [local irreducible] AT bz AX AO Av Kt aZ cY DA cu
set_option maxRecDepth 8000
abbrev Kb (f:aS):List Bool:=f.Glyphs.map bn.Mark
set_option maxRecDepth 8000
def io (l:List Int):List (List AV):=l.map fun z=>[U8 z]
def wO (l:List Int) (u:AV):Prop:=u= .imm 1 (io l)∨∃off cap,u= .sc (.slice (some ⟨2,off,none⟩) l.length cap)∧∀i z,l[i]?=some z→td[off+i]?=some (U8 z)
theorem vu (l:List Int):(io l).length=l.length:=by simp [io]
theorem vt {l:List Int} {i:Nat} {z:Int} (h:l[i]?=some z):(io l)[i]?=some [U8 z]:=by simp [io,h]
def Ib:Nat→ByteArray
 | 0=>qg
 | 1=>qf
 | 2=>qh
 | _=>qd
abbrev KU:List AV:=[mP qg,mP qf,mP qh,mP qd]
theorem Jb {i:Nat} (h:i < 4):List.drop (i * 1) KU=mP (Ib i)::List.drop (i+1) KU:=by
 have:i=0∨i=1∨i=2∨i=3:=by omega
 rcases this with rfl | rfl | rfl | rfl <;> rfl
def dY (n:Int) (i:Nat):Bool:=decide (bits .and .u8 (n / 2 ^ min i (IntKind.bits .u8)) 1=1)
def eY (n:Int) (i:Nat):List ByteArray:=((List.range i).filter (dY n)).map Ib
theorem hZ (n:Int) (i:Nat):eY n (i+1)=eY n i++if dY n i then [Ib i] else []:=by
 unfold eY
 rw [List.range_succ,List.filter_append,List.map_append,List.filter_cons]
 split <;> rfl
theorem FE (n:Int):eY n 4=fX (dY n 0) (dY n 1) (dY n 2) (dY n 3):=by
 have h0:eY n 0=[]:=rfl
 rw [hZ,hZ,hZ,hZ,h0]
 unfold fX
 simp [Ib,List.append_assoc]
theorem zT (n:Int) (i:Nat):(eY n i).length≤i:=by
 unfold eY
 rw [Mv]
 have:=List.length_filter_le (dY n) (List.range i)
 rwa [List.length_range] at this
theorem Jc (b0 b1 b2 b3:Bool) (fo:Int):fo - 1∈wk b0 b1 b2 b3↔(fo=1∧b0=true)∨(fo=2∧b1=true)∨(fo=3∧b2=true)∨(fo=4∧b3=true):=by
 unfold wk
 cases b0 <;> cases b1 <;> cases b2 <;> cases b3 <;> simp <;> omega
theorem HC (n fo:Int):fo - 1∈wk (dY n 0) (dY n 1) (dY n 2) (dY n 3)↔1≤fo∧fo≤4∧dY n (fo - 1).toNat=true:=by
 rw [Jc]
 constructor
 ·rintro (⟨rfl,h⟩ | ⟨rfl,h⟩ | ⟨rfl,h⟩ | ⟨rfl,h⟩) <;> exact ⟨by omega,by omega,h⟩
 ·rintro ⟨h1,h4,hb⟩
  have:fo=1∨fo=2∨fo=3∨fo=4:=by omega
  rcases this with rfl | rfl | rfl | rfl
  ·exact .inl ⟨rfl,hb⟩
  ·exact .inr (.inl ⟨rfl,hb⟩)
  ·exact .inr (.inr (.inl ⟨rfl,hb⟩))
  ·exact .inr (.inr (.inr ⟨rfl,hb⟩))
def I7 (s:ByteArray):List AV:=[mP s,aF 0,cw false,dg,dg,dg,dg,dg,dg]
def Dn (j:Nat):List AV:=[aF 1,cw false,.imm 6 [[dg,.imm 1 [[.imm 1 [[aF 1]]]],dg,.imm 1 [[aF (2+(j:Int))]],dg,aF 0]]]
def G6 (j:Nat):List AV:=[mP (Ib j),.imm 1 [[aF (j:Int)]]]
def wF (kl kf:Option (Nat×Nat)) (i j:Nat):List AV:=[aF 1000,.imm 9 [I7 ⟨#[110,111,110,101]⟩,I7 ⟨#[97]⟩,I7 qg,I7 qf,I7 qh,I7 qd],.imm 2 [[aF 97,aF 1],[aF 57345,aF 1],[aF 57601,aF 1],[aF 57857,aF 1]],.vec kl 3 ((List.range i).map Dn),.vec kf 2 ((List.range j).map G6),dg,dg,dg,dg]
theorem I8 (s:ByteArray):mQ (I7 s) (bK (jN s 0)):=⟨d4.refl _,d4.refl _,d4.refl _,d4.nil 3,d4.nil 1,d4.nil 3,d4.nil 4,d4.nil 4,d4.nil 2,trivial⟩
theorem I9 (j:Nat):mQ (Dn j) (bA (zC 1 (2+j))):=by
 unfold Dn
 repeat' first | exact d4.refl _ | exact d4.nil _ | exact True.intro | refine d4.imm ?_ | refine And.intro ?_ ?_
theorem JA (kl kf:Option (Nat×Nat)):mQ (wF kl kf 4 4) (bY cN):=by
 refine ⟨d4.refl _,d4.imm ?_,d4.refl _,?_,?_,d4.nil 4,d4.nil 1,d4.nil 1,d4.nil 1,trivial⟩
 ·repeat' first | exact I8 _ | exact True.intro | refine And.intro ?_ ?_
 ·refine fun σ v h=>d4.imm (a:=(List.range 4).map Dn) ?_ σ v (VR.im h)
  repeat' first | exact I9 _ | exact True.intro | refine And.intro ?_ ?_
 ·exact fun σ v h=>VR.im h
theorem HD {T:List Int} (hT:to T) (b0 b1 b2 b3:Bool) {i a:Nat} (ha:(dv T)[i]?=some a):∃v,(((nu T b0 b1 b2 b3).map (jA cN)).map cg)[i]?=some [aF (if (ei T).getD a 0 - 1∈wk b0 b1 b2 b3 then (ei T).getD a 0+1 else 1),aF a,aF ((ei T).getD a 0),aF v,aF 0,aF 0]:=by
 have hg:(fT frC T a).Glyph=1:=hT.glyph _ (List.mem_map.2 ⟨a,Mx ha,rfl⟩)
 unfold nu cU
 rw [List.getElem?_map,List.getElem?_map,List.getElem?_map,List.getElem?_map,ha]
 show ∃v,some (cg (jA cN (if (fT frC T a).Form - 1∈wk b0 b1 b2 b3 then { fT frC T a with Glyph:=(fT frC T a).Form+1 } else fT frC T a)))=_
 by_cases hm:(ei T).getD a 0 - 1∈wk b0 b1 b2 b3
 ·rw [if_pos hm,if_pos (show (fT frC T a).Form - 1∈_ from hm)]
  exact ⟨_,rfl⟩
 ·rw [if_neg hm,if_neg (show ¬(fT frC T a).Form - 1∈_ from hm),←hg]
  exact ⟨_,rfl⟩
def je (z:Int):Int:=([57601,57345,97,57857]:List Int).getD (z % 4).toNat 0
theorem EN (z:Int):je z=57601∨je z=57345∨je z=97∨je z=57857:=by
 have:(z % 4).toNat=0∨(z % 4).toNat=1∨(z % 4).toNat=2∨(z % 4).toNat=3:=by omega
 unfold je
 rcases this with e | e | e | e <;> rw [e] <;> decide
end Go.Proofs.YtamjlkdanllgjaaGreatDoor
