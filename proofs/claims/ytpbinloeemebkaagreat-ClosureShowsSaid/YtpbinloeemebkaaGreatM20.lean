/-
  Values told in another way; a struct for a result.
-/
import Derived.Test.YtpbinloeemebkaaGreatM07
import Derived.Test.YtpbinloeemebkaaGreatM05
import Derived.Test.YtpbinloeemebkaaGreatM06
import Derived.Test.YtpbinloeemebkaaGreatM19
import Derived.Test.YtpbinloeemebkaaGreatM11
import Derived.Test.YtpbinloeemebkaaGreatM16
namespace Go.Proofs.YtpbinloeemebkaaGreat
open Go.RowKit
attribute [local irreducible] AT bO AX AO Av Kt bo dU DA cT
def ea (a b:AV):Prop:=∀σ v,VR σ a v→VR σ b v
def of:List AV→List AV→Prop
 | [],[]=>True
 | a::r,b::q=>ea a b∧of r q
 | _,_=>False
def Ec:List (List AV)→List (List AV)→Prop
 | [],[]=>True
 | a::r,b::q=>of a b∧Ec r q
 | _,_=>False
theorem ea.refl (a:AV):ea a a:=fun _ _ h=>h
theorem ea.nil (n:Nat):ea (.sc (.slice none 0 0)) (.imm n []):=fun _ _ h=>ke n h
theorem of.len:∀{a b:List AV},of a b→a.length=b.length
 | [],[],_=>rfl
 | _::_,_::_,h=>by simp [h.2.len]
theorem of.at:∀{a b:List AV},of a b→∀(i:Nat) c c',a[i]?=some c→b[i]?=some c'→ea c c'
 | x::a,y::b,h,0,c,c',h1,h2=>by
  simp at h1 h2
  subst h1;subst h2
  exact h.1
 | _::a,_::b,h,i+1,c,c',h1,h2=>h.2.at i c c' (by simpa using h1) (by simpa using h2)
theorem of.vrs {a b:List AV} (h:of a b) {σ:ci} {vs:List Value} (hv:dv σ a vs):dv σ b vs:=xy h.len (fun i c c' h1 h2=>h.at i c c' h1 h2 σ) hv
theorem Ec.len:∀{a b:List (List AV)},Ec a b→a.length=b.length
 | [],[],_=>rfl
 | _::_,_::_,h=>by simp [h.2.len]
theorem Ec.at:∀{a b:List (List AV)},Ec a b→∀(i:Nat) c c',a[i]?=some c→b[i]?=some c'→of c c'
 | x::a,y::b,h,0,c,c',h1,h2=>by
  simp at h1 h2
  subst h1;subst h2
  exact h.1
 | _::a,_::b,h,i+1,c,c',h1,h2=>h.2.at i c c' (by simpa using h1) (by simpa using h2)
theorem ea.agg {a b:List AV} (h:of a b):ea (.agg a) (.agg b):=fun σ v hv=>by
 cases hv with
 | agg _ vs hl hx h1=>exact .agg _ _ (h.len▸hl) (fun i c u hc hu=>(h.vrs (σ:=σ) ⟨hl,hx⟩).2 i c u hc hu) h1
theorem ea.imm {s:Nat} {a b:List (List AV)} (h:Ec a b):ea (.imm s a) (.imm s b):=fun σ v hv=>by
 cases hv with
 | imm _ _ A cap hc hm hs ha hx hh=>
  have hl:=h.len
  rw [hl]
  have get:∀{i:Nat} {e:List AV},b[i]?=some e→∃e',a[i]?=some e'∧of e' e:=fun {i e} he=>by
   have hi:i < a.length:=by rw [hl];exact (Hp he).1
   exact ⟨_,Hz hi,h.at i _ _ (Hz hi) he⟩
  refine .imm s b A cap (hl▸hc) hm (fun e he=>?_) (fun hb=>ha fun e=>hb (List.eq_nil_of_length_eq_zero (by rw [←hl,e];rfl))) (fun i b' off j hA hi hj=>hx i b' off j hA (hl▸hi) hj) fun i e b' off j c u he hA hj hu=>?_
  ·obtain ⟨i,hi⟩:=List.mem_iff_getElem?.1 he
   obtain ⟨e',h1,h2⟩:=get hi
   rw [←h2.len]
   exact hs _ (Hw h1)
  ·obtain ⟨e',h1,h2⟩:=get he
   have hj':j < e'.length:=by rw [h2.len];exact (Hp hj).1
   exact h2.at j _ c (Hz hj') hj σ u (hh i e' b' off j _ u h1 hA (Hz hj') hu)
theorem AC.args {P:Program} {f:FuncId} {a b:List AV} {L:AL} {Post:AV→AL→Prop} (h:AC P f b L Post) (k:of a b):AC P f a L Post:=fun σ w vs hv hs=>h σ w vs (k.vrs hv) hs
section
variable {P:Program} {nt:Nat} {fr:c6} {B:Bs} {L:AL}
theorem n5 {fn:Func} {t:Tmp} {e:TypeId} {b k:Nat} {cs:List Value} {tmps:Array Value} {w:World} [E5 P e k] (h:fn.results=#[.cell t e]) (ht:tmps.getD t undef= .pointer (some ⟨b,0,none⟩)) (hl:cs.length=k) (hc:∀j v,cs[j]?=some v→w.cell? ⟨b,0+j,none⟩=some v):
  (results fn tmps).run P w= .ok (.agg cs.toArray) w:=by
 rw [Array.getD_eq_getD_getElem?] at ht
 simp [results,h,ht,asAddr,gi hl hc]
theorem Cs (ok:ev P tt) (i:Nat) {fn:Func} {Post:AV→AL→Prop} {t:Tmp} {e e':TypeId} {b k:Nat} {cs:List AV} (hr:fn.results=#[.cell t e]) (hk:F9 tt e=some k) (hv:bY fr t=some (.sc (.pointer (some ⟨b,0,none⟩)))) (hL:L[i]?=some (b,.box cs e')) (hl:Nat.beq cs.length k=true) (h:Post (.agg cs) L):
  AX P .ret (bodyPost P fn (j4 B Post)) nt [] fr B L:=by
 unfold AX
 intro σ a w ha hw
 haveI:=it ok hk
 obtain ⟨vs,hb,hs,h1⟩:=hw.boxCell hL
 have hl:=Nat.eq_of_beq_eq_true hl
 refine ⟨ha.defers,_,n5 (cs:=vs) hr (ha.look t _ hv).sc_inv (hs.1.symm.trans hl) (fun j v hj=>by rw [cY hb,Nat.zero_add];simpa using hj),_,σ,_,L,rfl,.agg cs vs hs.1 hs.2 h1,hw,h⟩
end
end Go.Proofs.YtpbinloeemebkaaGreat
namespace Go.Proofs.YtpbinloeemebkaaGreat
open Go.RowKit
attribute [local irreducible] AT bO AX AO Av Kt bo dU DA cT
def AQ (name:ByteArray) (mark:Bool) (parts:List cX):bn:=⟨name,0,mark,[],[],parts,[],[],[]⟩
def bQ:aL:=⟨1000,[AQ ⟨#[46,110,111,116,100,101,102]⟩ false [],AQ ⟨#[97]⟩ false [],AQ ⟨#[98]⟩ false [],AQ ⟨#[99]⟩ false [⟨1,0,0⟩],AQ ⟨#[109]⟩ true []],[⟨1,1⟩,⟨2,2⟩,⟨3,3⟩],
 [⟨3,false,[⟨[],[[1],[2]],[],[3],[],0⟩]⟩,⟨4,false,[⟨[],[[1]],[],[],[⟨0,0⟩],0⟩]⟩],[⟨⟨#[108,105,103,97]⟩,[0]⟩,⟨⟨#[99,97,108,116]⟩,[1]⟩],[],[],[],[]⟩
set_option maxHeartbeats 2000000 in
theorem EB:bM Tryz.prog 24 [] (cx bQ):=by
 refine aT Tryz.func24 rfl Tryz.ntmps24 rfl fun B=>?_
 repeat' (first|refine go ?_|refine HF a1 F8 ?_|(apply aQ;first|refine HG a1 0 HD ?_|refine HG a1 1 HD ?_|refine HG a1 2 HD ?_|refine HG a1 3 HD ?_|fail)|refine bl a1 fun _=>?_|refine bI a1 ?_|fail)
 refine bk (bE 0 (cs':=cf bQ) rfl fun σ vs h=>of.vrs ?_ h) (Cs a1 0 rfl rfl rfl rfl rfl rfl)
 repeat' first | exact ea.refl _ | exact ea.nil _ | exact True.intro | refine ea.agg ?_ | refine ea.imm ?_ | refine And.intro ?_ ?_
instance:AD Tryz.prog 24 [] (cx bQ):=⟨EB⟩
theorem mN:dM bQ:=by
 unfold dM
 decide
theorem x5:kx bQ.Glyphs.length (prt bQ):=by
 refine ⟨fun z=>if z=3 then 1 else 0,fun g h0 h1 p hp=>?_⟩
 have h1:g < 5:=h1
 have:g=0∨g=1∨g=2∨g=3∨g=4:=by omega
 rcases this with rfl | rfl | rfl | rfl | rfl
 ·rw [show prt bQ 0=[] by decide] at hp;cases hp
 ·rw [show prt bQ 1=[] by decide] at hp;cases hp
 ·rw [show prt bQ 2=[] by decide] at hp;cases hp
 ·rw [show prt bQ 3=[1] by decide] at hp
  rw [Hm hp]
  decide
 ·rw [show prt bQ 4=[] by decide] at hp;cases hp
theorem rz:(ck 400 bQ.Glyphs (dQ bQ)).1=0:=by decide
theorem CX:lK bQ=0:=by decide
theorem AM:(ck 1000 bQ.Chars (i9 bQ)).1=0:=by decide
theorem AR:(ck 40 bQ.Lookups (jS bQ)).1=0:=by decide
theorem AN:(ck 20 bQ.Features (iW bQ)).1=0:=by decide
theorem CW:jw bQ (fun z=>if z=3 then 1 else 0) (fun z=>0):=by
 intro z h0 h1 gl hgl
 have h1:z < 5:=h1
 have:z=0∨z=1∨z=2∨z=3∨z=4:=by omega
 rcases this with rfl | rfl | rfl | rfl | rfl <;> (injection hgl with e;subst e;exact ⟨by decide,by decide⟩)
theorem AP:(lI bQ).1=0:=by
 refine dl.2 fun x hx=>?_
 have hc:(mD bQ).1=0:=by
  rw [pw (j7 rz) x5 CW]
  decide
 simp only [wT,List.mem_cons,List.not_mem_nil,or_false] at hx
 rcases hx with rfl | rfl | rfl | rfl | rfl | rfl | rfl | rfl | rfl | rfl
 ·exact CX
 ·exact rz
 ·exact hc
 ·exact AM
 ·exact AR
 ·exact AN
 ·rfl
 ·rfl
 ·rfl
 ·rfl
section
variable {P:Program} {tt:TT} {nt:Nat} {fr:c6} {B:Bs} {L L':AL}
theorem iR (ok:ev P tt) (i:Nat) (L':AL) {fn:Func} {Post:AV→AL→Prop} {t:Tmp} {e e':TypeId} {b k:Nat} {cs:List AV} (hr:fn.results=#[.cell t e]) (hk:F9 tt e=some k) (hv:bY fr t=some (.sc (.pointer (some ⟨b,0,none⟩)))) (hL:L[i]?=some (b,.box cs e')) (hl:Nat.beq cs.length k=true) (hs:L'.Sublist L) (h:Post (.agg cs) L'):
  AX P .ret (bodyPost P fn (j4 B Post)) nt [] fr B L:=by
 unfold AX
 intro σ a w ha hw
 haveI:=it ok hk
 obtain ⟨vs,hb,hs',h1⟩:=hw.boxCell hL
 have hl:=Nat.eq_of_beq_eq_true hl
 refine ⟨ha.defers,_,n5 (cs:=vs) hr (ha.look t _ hv).sc_inv (hs'.1.symm.trans hl) (fun j v hj=>by rw [cY hb,Nat.zero_add];simpa using hj),_,σ,_,L',rfl,.agg cs vs hs'.1 hs'.2 h1,hw.sublist hs,h⟩
theorem ea.im {k:Option (Nat×Nat)} {sz:Nat} {l:List (List AV)}:ea (.vec k sz l) (.imm sz l):=fun _ _ h=>VR.im h
theorem ea.vecN (n:Nat):ea (.sc (.slice none 0 0)) (.vec none n []):=fun _ _ h=>dg n h
end
section
variable {P:Program} {r:Option Nat} {Q:Exit→Act→World→Prop} {nt:Nat} {D:List Deferred} {fr fr1:c6} {B:Bs} {L:AL}
theorem s4 {A C:Code} (ks:List Nat) (L1:AL) (hk:gJ fr ks=some fr1) (hA:∀Q',(∀fr',gJ fr' ks=some fr1→AX P .normal Q' nt D fr' B L1)→AT P r A Q' nt D fr B L) (hB:AT P r C Q nt D fr1 B L1):AT P r A (Kt P r C Q) nt D fr B L:=
 hA _ fun _ h=>a7 (Co ks h hB)
end
theorem eF {A T R:AL}:(A++(T++R)).Perm (T++(A++R)):=List.perm_append_comm_assoc ..
theorem G4 {A T1 T R:AL}:(A++(T1++(T++R))).Perm (T++(A++(T1++R))):=by
 have:=eF (A:=A++T1) (T:=T) (R:=R)
 simpa [List.append_assoc] using this
end Go.Proofs.YtpbinloeemebkaaGreat
namespace Go.Proofs.YtpbinloeemebkaaGreat
open Go.RowKit
attribute [local irreducible] AT bO AX AO Av Kt bo dU DA cT
variable (s:List Int) (hs:s.length≤1000000) (F:MF)
include hs
abbrev bP:AV:= .sc (.slice none 0 0)
set_option maxHeartbeats 8000000 in
theorem sG:qM 122 [] s F (jo s) G1:=by
 intro b m
 refine aT Tryz.func122 rfl Tryz.ntmps122 rfl fun B=>?_
 repeat' (first|refine go ?_|refine HF a1 F8 ?_|refine bl a1 fun _=>?_|fail)
 rename_i rb ob
 refine aV (aJ (L':=dS b s F m::(ob,.box [bP,bP] 58)::(rb,.box [bP,bP] 58)::[]) (List.perm_append_comm (l₁:=[_,_]))) ?_
 refine aV (bE 1 (cs':=[.vec none 3 [],.vec none 1 []]) rfl fun σ vs h=>of.vrs (a:=[bP,bP]) (b:=[.vec none 3 [],.vec none 1 []]) ⟨ea.vecN 3,ea.vecN 1,trivial⟩ h) ?_
 refine cD ?_
 have hk:=cn s hs m.a (n:=3) (by omega)
 have hk:0≤(dr s 3 m).1∧(dr s 3 m).1 < 3:=hk
 generalize e1:dr s 3 m=p1 at hk ⊢
 obtain ⟨k,hkk⟩:∃k:Nat,p1.1=k:=⟨p1.1.toNat,by omega⟩
 rw [hkk]
 have hok:∀i,sV i (i6 s i p1.2).1:=fun i=>ug s i p1.2
 repeat' (first|refine go ?_|refine ak ?_|refine HF a1 F8 ?_)
 refine aR [0,2,3,4] (α:=Nat×Option (Nat×Nat)×Option (Nat×Nat)) (fun x=>[(5,aH x.1)]) (fun x=>x.1≤k) (fun x=>dS b s F (i6 s x.1 p1.2).2::(ob,.box [.vec x.2.1 3 ((i6 s x.1 p1.2).1.1.map dA),.vec x.2.2 1 (aS (i6 s x.1 p1.2).1.2)] 58)::(rb,.box [bP,bP] 58)::(tok x.2.1 282 3 ((i6 s x.1 p1.2).1.1.map dA).length++(tok x.2.2 3 1 (aS (i6 s x.1 p1.2).1.2).length++[]))) (fun x=>k - x.1) (0,none,none) rfl ⟨rfl,trivial⟩ (Nat.zero_le _) (fun _ _ h=>by simpa [i6,gS,cC,tok,fi,aS] using h) ?_
 rintro ⟨i,q1,q2⟩ hi
 dsimp only at hi ⊢
 try dsimp only [Hs,Hr,Hq,Hl]
 repeat' (first|refine go ?_|refine HF a1 F8 ?_)
 refine ay rfl (fun h=>?_) (fun h=>?_)
 ·have hil:i < k:=by have:=Hy h;omega
  have hoi:=hok i
  have hoi1:=hok (i+1)
  have hstep:i6 s (i+1) p1.2=c7 (dr s 4) (fun k=>c7 (o4 s (i6 s i p1.2).1.1 (2+k).toNat) fun l=>cC (l,(i6 s i p1.2).1.2++[(l.length:Int) - 1])) (i6 s i p1.2).2:=rfl
  rw [hstep] at hoi1
  generalize i6 s i p1.2=st at hoi hoi1 hstep ⊢
  have hln:=hoi.len
  have hle:=hoi.endl
  repeat' (first|refine go ?_|refine ak ?_|refine HF a1 F8 ?_)
  refine cD ?_
  have hc:=cn s hs st.2.a (n:=4) (by omega)
  have hc:0≤(dr s 4 st.2).1∧(dr s 4 st.2).1 < 4:=hc
  unfold c7 at hstep hoi1
  generalize dr s 4 st.2=p2 at hc hstep hoi1 ⊢
  obtain ⟨c,hcc⟩:∃k:Nat,2+p2.1=k:=⟨(2+p2.1).toNat,by omega⟩
  dsimp only at hstep hoi1
  rw [hcc] at hstep hoi1
  dsimp only [Int.toNat_natCast] at hstep hoi1
  repeat' (first|refine go ?_|refine ak ?_|refine HF a1 F8 ?_|(apply aZ;refine aY ?_)|fail)
  rw [hcc]
  have hpt:∀j,(o4 s st.1.1 j p2.2).1.length=st.1.1.length+j:=fun j=>(xj s st.1.1 hoi.pts j p2.2).1
  refine aR [0,2,3,4,5,6] (α:=Nat×Option (Nat×Nat)) (fun x=>[(7,aH x.1)]) (fun x=>x.1≤c) (fun x=>dS b s F (o4 s st.1.1 x.1 p2.2).2::(ob,.box [.vec x.2 3 ((o4 s st.1.1 x.1 p2.2).1.map dA),.vec q2 1 (aS st.1.2)] 58)::(rb,.box [bP,bP] 58)::(tok x.2 282 3 ((o4 s st.1.1 x.1 p2.2).1.map dA).length++(tok q2 3 1 (aS st.1.2).length++[]))) (fun x=>c - x.1) (0,q1) rfl ⟨rfl,trivial⟩ (Nat.zero_le _) (fun _ _ h=>h) ?_
  rintro ⟨j,q⟩ hj
  dsimp only at hj ⊢
  try dsimp only [Hs,Hr,Hq,Hl]
  repeat' (first|refine go ?_|refine HF a1 F8 ?_)
  refine ay rfl (fun h=>?_) (fun h=>?_)
  ·have hjl:j < c:=by have:=Hy h;omega
   have hl0:=hpt j
   have hstep2:o4 s st.1.1 (j+1) p2.2=((o4 s st.1.1 j p2.2).1++[(E1 s j (o4 s st.1.1 j p2.2).2).1],(E1 s j (o4 s st.1.1 j p2.2).2).2):=rfl
   generalize o4 s st.1.1 j p2.2=u at hl0 hstep2 ⊢
   repeat' (first|refine go ?_|refine ak ?_)
   refine dD [.cell (ob,0,.vec q 3 (u.1.map dA))] 19 [(0,.v),(1,.k),(2,.v),(6,.v),(10,.v),(11,.v),(3,.f),(4,.v),(5,.v),(7,.f),(8,.v),(9,.v),(12,.v),(13,.v),(14,.f),(15,.v),(16,.v),(17,.v),(18,.v)] none ?_ trivial rfl (by kernel_rfl) (by kernel_rfl) (by kernel_rfl) mixed (by kernel_rfl) rfl
   repeat' (first|refine aE ?_|refine ba a1 ?_|fail)
   refine eb a1 0 rfl rfl rfl (bN 1 rfl rfl c5) (by first | trivial | rfl) ?_
   repeat' (first|refine aE ?_|refine ba a1 ?_|fail)
   refine eC (bN 1 rfl rfl c5) ?_
   have hx:=cn s hs u.2.a (n:=21) (by omega)
   have hx:0≤(dr s 21 u.2).1∧(dr s 21 u.2).1 < 21:=hx
   generalize e2:dr s 21 u.2=x1 at hx ⊢
   repeat' (first|refine aE ?_|(apply dB;refine eK ?_)|fail)
   refine eC (bN 1 rfl rfl c5) ?_
   have hy:=cn s hs x1.2.a (n:=21) (by omega)
   have hy:0≤(dr s 21 x1.2).1∧(dr s 21 x1.2).1 < 21:=hy
   generalize e3:dr s 21 x1.2=y1 at hy ⊢
   repeat' (first|refine aE ?_|refine ba a1 ?_|(apply dB;refine eK ?_)|fail)
   by_cases hp:j=0
   ·rw [decide_eq_true (show ((j:Int)=0) by omega)]
    repeat' (first|refine aE ?_|refine kl rfl rfl ?_)
    refine Ez rfl rfl ?_
    have hpd:E1 s j u.2=(⟨x1.1 * 50 - 100,y1.1 * 50 - 200,true⟩,y1.2):=by simp [E1,c7,cC,e2,e3,hp]
    rw [hpd] at hstep2
    dsimp only at hstep2
    repeat' (first|refine aE ?_|refine ba a1 ?_|refine ek a1 ?_|refine kl rfl rfl ?_)
    refine HR [0,2,3,4,5,6,7,24,41] F8 ?_
    repeat' (first|fail)
    refine cj a1 _ rfl rfl rfl rfl (eF (A:=[_,_,_])) (by simp;omega) (by simp;omega) rfl fun q'=>?_
    refine aV (aJ (eF (A:=[_,_,_])).symm) ?_
    repeat' (first|refine go ?_|refine HF a1 F8 ?_|(apply aZ;refine aY ?_)|(apply aQ;first|refine HG a1 0 HD ?_|refine HG a1 1 HD ?_|refine HG a1 2 HD ?_|refine HG a1 3 HD ?_|fail))
    exact aF (j+1,q') rfl ⟨by rw [Hv];rfl,trivial⟩ (by dsimp only;omega) (by dsimp only;omega) (fun _ _ h=>by dsimp only;rw [hstep2];simpa [fi,gg,dA] using h)
   ·rw [decide_eq_false (show ¬((j:Int)=0) by omega)]
    repeat' (first|refine aE ?_|refine ba a1 ?_|fail)
    refine eC (bN 1 rfl rfl c5) ?_
    generalize e4:dr s 4 y1.2=z1
    have hpd:E1 s j u.2=(⟨x1.1 * 50 - 100,y1.1 * 50 - 200,decide (0 < z1.1)⟩,z1.2):=by simp [E1,c7,cC,e2,e3,e4,hp]
    rw [hpd] at hstep2
    dsimp only at hstep2
    repeat' (first|refine aE ?_|refine ba a1 ?_|refine ek a1 ?_|fail)
    refine HR [0,2,3,4,5,6,7,24,41] F8 ?_
    repeat' (first|fail)
    refine cj a1 _ rfl rfl rfl rfl (eF (A:=[_,_,_])) (by simp;omega) (by simp;omega) rfl fun q'=>?_
    refine aV (aJ (eF (A:=[_,_,_])).symm) ?_
    repeat' (first|refine go ?_|refine HF a1 F8 ?_|(apply aZ;refine aY ?_)|(apply aQ;first|refine HG a1 0 HD ?_|refine HG a1 1 HD ?_|refine HG a1 2 HD ?_|refine HG a1 3 HD ?_|fail))
    exact aF (j+1,q') rfl ⟨by rw [Hv];rfl,trivial⟩ (by dsimp only;omega) (by dsimp only;omega) (fun _ _ h=>by dsimp only;rw [hstep2];simpa [fi,gg,dA] using h)
  have hjl:j=c:=by have:=Hx h;omega
  subst hjl
  have hjn:=hpt j
  generalize o4 s st.1.1 j p2.2=u at hjn hstep hoi1 ⊢
  have hul:(u.1.map dA).length=u.1.length:=Hu ..
  have hel:(aS st.1.2).length=st.1.2.length:=aN _
  repeat' (first|refine go ?_|refine HF a1 F8 ?_|(apply bh;first|refine HJ a1 0 HC ?_|refine HJ a1 1 HC ?_|refine HJ a1 2 HC ?_|refine HJ a1 3 HC ?_|refine HK a1 0 HC ?_|refine HK a1 1 HC ?_|refine HK a1 2 HC ?_|refine HM a1 1 HA (by assumption) rfl ?_|refine HM a1 0 HA (by assumption) rfl ?_|fail)|(apply aZ;refine aY ?_)|refine bI a1 ?_|fail)
  refine cj a1 _ rfl rfl rfl rfl (G4 (A:=[_,_,_])) (by simp [aN];omega) (by simp [aN];omega) rfl fun q'=>?_
  refine aV (aJ (G4 (A:=[_,_,_])).symm) ?_
  repeat' (first|refine go ?_|refine HF a1 F8 ?_|(apply aZ;refine aY ?_)|(apply aQ;first|refine HG a1 0 HD ?_|refine HG a1 1 HD ?_|refine HG a1 2 HD ?_|refine HG a1 3 HD ?_|fail))
  exact aF (i+1,q,q') rfl ⟨by rw [Hv];rfl,trivial⟩ (by dsimp only;omega) (by dsimp only;omega) (fun _ _ h=>by dsimp only;rw [hstep];simpa [fi,gg,cC,aS,hul] using h)
 have hil:i=k:=by have:=Hx h;omega
 subst hil
 have hv:jo s m=i6 s i p1.2:=by
  unfold jo c7
  rw [e1]
  dsimp only
  rw [hkk]
  rfl
 rw [hv]
 generalize i6 s i p1.2=st
 repeat' (first|refine go ?_|(apply bh;first|refine HJ a1 0 HC ?_|refine HJ a1 1 HC ?_|refine HJ a1 2 HC ?_|refine HJ a1 3 HC ?_|refine HK a1 0 HC ?_|refine HK a1 1 HC ?_|refine HK a1 2 HC ?_|refine HM a1 1 HA (by assumption) rfl ?_|refine HM a1 0 HA (by assumption) rfl ?_|fail)|(apply aQ;first|refine HG a1 0 HD ?_|refine HG a1 1 HD ?_|refine HG a1 2 HD ?_|refine HG a1 3 HD ?_|fail))
 refine bk (bE 2 (cs':=[.imm 3 (st.1.1.map dA),.imm 1 (aS st.1.2)]) rfl fun σ vs h=>of.vrs (a:=[.vec q1 3 (st.1.1.map dA),.vec q2 1 (aS st.1.2)]) (b:=[.imm 3 (st.1.1.map dA),.imm 1 (aS st.1.2)]) ⟨ea.im,ea.im,trivial⟩ h) (iR a1 2 [dS b s F st.2] rfl rfl rfl rfl rfl (List.Sublist.cons_cons _ (List.nil_sublist _)) ⟨rfl,rfl⟩)
end Go.Proofs.YtpbinloeemebkaaGreat
namespace Go.Proofs.YtpbinloeemebkaaGreat
open Go.RowKit
attribute [local irreducible] AT bO AX AO Av Kt bo dU DA cT
variable (s:List Int) (hs:s.length≤1000000) (F:MF)
include hs
theorem Bc (a:Int) (m:MS) (k:Nat):(ff s a k m).1.length≤1+k:=by
 have _:=hs
 clear hs
 refine (bU.runs (fun i (l:List Int)=>l.length≤1+i) k (by simp) fun i l _ h=>bU.ite (fun _=>(bU.any _).bnd fun z _=>bU.ret ?_) fun _=>bU.ret (by omega)) m
 split
 ·simp;omega
 ·omega
theorem yx (a:Int) (m:MS) {j:Nat} (h:4≤(ff s a j m).1.length):∀k,j≤k→ff s a k m=ff s a j m:=by
 have _:=hs
 clear hs
 intro k hk
 induction k with
 | zero=>rw [show j=0 by omega]
 | succ k ih=>
  by_cases e:j=k+1
  ·rw [e]
  ·have h1:=ih (by omega)
   have h2:ff s a (k+1) m=(if (ff s a k m).1.length < 4 then c7 (dr s 3) fun z=>cC (if z=0 then (ff s a k m).1++[a+1+k] else (ff s a k m).1) else cC (ff s a k m).1) (ff s a k m).2:=rfl
   rw [h2,h1,if_neg (by omega)]
   rfl
def Dh (l:List Int):AV:= .imm 1 (aS l)
def BE (l:List (List Int)):AV:= .imm 1 (bz l)
set_option maxHeartbeats 4000000 in
theorem qu {kg:Option (Nat×Nat)} {gl:List (List AV)} (hF:F.gl= .vec kg 9 gl) (n:Nat) (hn:gl.length=n) (h0:0 < n∧n≤1000):qM 204 [] s F (n9 s n) Dh:=by
 intro b m
 refine aT Tryz.func204 rfl Tryz.ntmps204 rfl fun B=>?_
 repeat' (first|refine go ?_|refine HF a1 F8 ?_|(apply bh;first|refine HJ a1 0 HC ?_|refine HJ a1 1 HC ?_|refine HJ a1 2 HC ?_|refine HJ a1 3 HC ?_|refine HK a1 0 HC ?_|refine HK a1 1 HC ?_|refine HK a1 2 HC ?_|refine HM a1 1 HA (by assumption) rfl ?_|refine HM a1 0 HA (by assumption) rfl ?_|fail)|fail)
 rw [hF]
 repeat' (first|refine go ?_|refine HF a1 F8 ?_)
 rw [hn]
 refine cD ?_
 have hk:=cn s hs m.a (n:=n) (by omega)
 have hk:0≤(dr s n m).1∧(dr s n m).1 < n:=hk
 generalize e1:dr s n m=p1 at hk ⊢
 repeat' (first|refine go ?_|refine ak ?_|refine HF a1 F8 ?_|(apply aZ;refine aY ?_)|refine xc (d:=17) a1 fun _=>?_|fail)
 rename_i kb
 refine bW (aJ (L':=[dS b s F p1.2]++(tok (some (kb,1)) 3 1 1++[])) (List.perm_append_comm (l₁:=[_]))) ?_
 have hmx:∀j,(ff s p1.1 j p1.2).1.length≤1+j:=fun j=>Bc s hs _ _ j
 refine aR [0,3] (α:=Nat×Option (Nat×Nat)) (fun x=>[(6,aH (p1.1+1+x.1)),(5,.vec x.2 1 (aS (ff s p1.1 x.1 p1.2).1))]) (fun x=>x.1≤(n - (p1.1+1)).toNat) (fun x=>[dS b s F (ff s p1.1 x.1 p1.2).2]++(tok x.2 3 1 (aS (ff s p1.1 x.1 p1.2).1).length++[])) (fun x=>(n - (p1.1+1)).toNat - x.1) (0,some (kb,1)) rfl ⟨by simp [bY],rfl,trivial⟩ (Nat.zero_le _) (fun _ _ h=>h) ?_
 rintro ⟨j,q⟩ hj
 dsimp only at hj ⊢
 have hl:=hmx j
 have hstop:=yx s hs p1.1 p1.2 (j:=j)
 have hstep:ff s p1.1 (j+1) p1.2=(if (ff s p1.1 j p1.2).1.length < 4 then c7 (dr s 3) fun z=>cC (if z=0 then (ff s p1.1 j p1.2).1++[p1.1+1+j] else (ff s p1.1 j p1.2).1) else cC (ff s p1.1 j p1.2).1) (ff s p1.1 j p1.2).2:=rfl
 have hv:n9 s n m=ff s p1.1 (n - (p1.1+1)).toNat p1.2:=by
  unfold n9 c7
  rw [e1]
 generalize e2:ff s p1.1 j p1.2=st at hl hstop hstep ⊢
 have hil:(aS st.1).length=st.1.length:=aN _
 try dsimp only [Hs,Hr,Hq,Hl]
 repeat' (first|refine go ?_|refine HF a1 F8 ?_)
 by_cases hlt:p1.1+1+(j:Int) < (n:Int)
 ·rw [decide_eq_true hlt]
  repeat' (first|refine go ?_|refine HF a1 F8 ?_|refine HO F8 ?_)
  refine ay rfl (fun h=>?_) (fun h=>?_)
  ·have h4:st.1.length < 4:=by have:=Hy h;omega
   repeat' (first|refine go ?_|refine ak ?_|refine HF a1 F8 ?_)
   rw [if_pos h4] at hstep
   unfold c7 at hstep
   refine cD ?_
   generalize dr s 3 st.2=z at hstep ⊢
   dsimp only at hstep
   repeat' (first|refine go ?_|refine HF a1 F8 ?_)
   refine ay rfl (fun hz=>?_) (fun hz=>?_)
   ·rw [if_pos (Hy hz)] at hstep
    repeat' (first|refine go ?_|refine HF a1 F8 ?_|refine bI a1 ?_|fail)
    refine cj a1 _ rfl rfl rfl rfl (eF (A:=[_])) (by simp [aN];omega) (by simp [aN];omega) rfl fun q'=>?_
    refine aV (aJ (eF (A:=[_])).symm) ?_
    repeat' (first|refine go ?_|refine HF a1 F8 ?_|(apply aZ;refine aY ?_)|fail)
    exact aF (j+1,q') rfl ⟨by dsimp only;rw [show p1.1+1+((j+1:Nat):Int)=p1.1+1+(j:Int)+1 by omega];rfl,by rw [hstep];dsimp only [cC];rw [show aS (st.1++[p1.1+1+(j:Int)])=aS st.1++[[aH (p1.1+1+(j:Int))]] from List.map_append ..];rfl,trivial⟩ (by dsimp only;omega) (by dsimp only;omega) (fun _ _ h=>by dsimp only;rw [hstep];simpa [cC,aS] using h)
   ·rw [if_neg (Hx hz)] at hstep
    repeat' (first|refine go ?_|refine HF a1 F8 ?_|(apply aZ;refine aY ?_)|fail)
    exact aF (j+1,q) rfl ⟨by dsimp only;rw [show p1.1+1+((j+1:Nat):Int)=p1.1+1+(j:Int)+1 by omega];rfl,by rw [hstep];rfl,trivial⟩ (by dsimp only;omega) (by dsimp only;omega) (fun _ _ h=>by dsimp only;rw [hstep];simpa [cC] using h)
  ·have h4:¬st.1.length < 4:=by have:=Hx h;omega
   repeat' (first|refine go ?_|refine HF a1 F8 ?_)
   refine bk (cb (L':=[dS b s F st.2]) (List.Sublist.cons_cons _ (List.nil_sublist _))) ?_
   refine bk (cA (t:=2) (c':= .imm 1 (aS st.1)) rfl fun σ v h=>VR.im h) (HN F8 ?_)
   rw [hv,hstop (by omega) _ hj]
   exact ⟨rfl,rfl⟩
 ·rw [decide_eq_false hlt]
  repeat' (first|refine go ?_|refine HF a1 F8 ?_|refine HS HB ?_|refine bL rfl ?_)
  refine bk (cb (L':=[dS b s F st.2]) (List.Sublist.cons_cons _ (List.nil_sublist _))) ?_
  refine bk (cA (t:=2) (c':= .imm 1 (aS st.1)) rfl fun σ v h=>VR.im h) (HN F8 ?_)
  rw [hv,show (n - (p1.1+1)).toNat=j by omega,e2]
  exact ⟨rfl,rfl⟩
theorem fD (l:List (List Int)):(bz l).length=l.length:=by
 have _:=hs
 clear hs
 simp [bz]
set_option maxHeartbeats 2000000 in
theorem n8 {kg:Option (Nat×Nat)} {gl:List (List AV)} (hF:F.gl= .vec kg 9 gl) (n:Nat) (hn:gl.length=n) (h0:0 < n∧n≤1000) (most:Int) (hm:0≤most∧most≤6):qM 205 [aH most] s F (oT s n most) BE:=by
 intro b m
 refine aT Tryz.func205 rfl Tryz.ntmps205 rfl fun B=>?_
 repeat' (first|refine go ?_|refine HF a1 F8 ?_|(apply aZ;refine aY ?_)|fail)
 refine cD ?_
 have hk:=cn s hs m.a (n:=most+1) (by omega)
 have hk:0≤(dr s (most+1) m).1∧(dr s (most+1) m).1 < most+1:=hk
 generalize e1:dr s (most+1) m=p1 at hk ⊢
 obtain ⟨k,hkk⟩:∃k:Nat,p1.1=k:=⟨p1.1.toNat,by omega⟩
 rw [hkk]
 have hln:∀j,(i7 s n j p1.2).1.length=j:=fun j=>by
  induction j with
  | zero=>rfl
  | succ j ih=>
   have:i7 s n (j+1) p1.2=((i7 s n j p1.2).1++[(n9 s n (i7 s n j p1.2).2).1],(n9 s n (i7 s n j p1.2).2).2):=rfl
   rw [this]
   simp [ih]
 repeat' (first|refine go ?_|refine ak ?_|refine HF a1 F8 ?_)
 refine bW (cA (t:=5) (c':= .vec none 1 []) rfl fun σ v h=>dg 1 h) ?_
 refine aR [0,6] (α:=Nat×Option (Nat×Nat)) (fun x=>[(7,aH x.1),(5,.vec x.2 1 (bz (i7 s n x.1 p1.2).1))]) (fun x=>x.1≤k) (fun x=>[dS b s F (i7 s n x.1 p1.2).2]++(tok x.2 29 1 (bz (i7 s n x.1 p1.2).1).length++[])) (fun x=>k - x.1) (0,none) rfl ⟨rfl,rfl,trivial⟩ (Nat.zero_le _) (fun _ _ h=>h) ?_
 rintro ⟨j,q⟩ hj
 dsimp only at hj ⊢
 have hl:=hln j
 have hstep:i7 s n (j+1) p1.2=((i7 s n j p1.2).1++[(n9 s n (i7 s n j p1.2).2).1],(n9 s n (i7 s n j p1.2).2).2):=rfl
 try dsimp only [Hs,Hr,Hq,Hl]
 repeat' (first|refine go ?_|refine HF a1 F8 ?_)
 refine ay rfl (fun h=>?_) (fun h=>?_)
 ·have hjl:j < k:=by have:=Hy h;omega
  generalize i7 s n j p1.2=st at hl hstep ⊢
  have hrl:=fD s hs st.1
  repeat' (first|refine go ?_|refine ak ?_|refine HF a1 F8 ?_)
  refine ua (qu s hs F hF n hn h0) ?_
  generalize n9 s n st.2=y at hstep ⊢
  unfold Dh
  repeat' (first|refine bI a1 ?_|fail)
  refine cj a1 _ rfl rfl rfl rfl (eF (A:=[_])) (by simp [fD s hs];omega) (by simp [fD s hs];omega) rfl fun q'=>?_
  refine aV (aJ (eF (A:=[_])).symm) ?_
  repeat' (first|refine go ?_|refine HF a1 F8 ?_|(apply aZ;refine aY ?_)|fail)
  exact aF (j+1,q') rfl ⟨by rw [Hv];rfl,by rw [hstep];dsimp only;rw [show bz (st.1++[y.1])=bz st.1++[[.imm 1 (aS y.1)]] from List.map_append ..];rfl,trivial⟩ (by dsimp only;omega) (by dsimp only;omega) (fun _ _ h=>by dsimp only;rw [hstep];simpa [bz] using h)
 have hjl:j=k:=by have:=Hx h;omega
 subst hjl
 have hv:oT s n most m=i7 s n j p1.2:=by
  unfold oT c7
  rw [e1]
  dsimp only
  rw [hkk]
  rfl
 rw [hv]
 generalize i7 s n j p1.2=st
 repeat' (first|refine go ?_|refine HF a1 F8 ?_)
 refine bk (cb (L':=[dS b s F st.2]) (List.Sublist.cons_cons _ (List.nil_sublist _))) ?_
 exact bk (cA (t:=4) (c':= .imm 1 (bz st.1)) rfl fun σ v h=>VR.im h) (HN F8 ⟨rfl,rfl⟩)
end Go.Proofs.YtpbinloeemebkaaGreat
