/-
  The maker: lookups.
-/
import Derived.Test.YtjjpkibjffmceaaGreatM26
import Derived.Test.YtjjpkibjffmceaaGreatM24
namespace Go.Proofs.YtjjpkibjffmceaaGreat
open Go.RowKit
attribute [local irreducible] AT cg AX AO Av Kt bJ eC DA du
variable (s:List Int) (hs:s.length≤1000000) (F:MF)
include hs
theorem w4 (k:Nat) (m:MS):(eW s k m).1.1.length=k∧(eW s k m).1.2.length≤k:=by
 have _:=hs
 clear hs
 induction k with
 | zero=>exact ⟨rfl,Nat.le_refl _⟩
 | succ k ih=>
  have:eW s (k+1) m=(cA (dr s 10) fun z=>cA (dr s 3) fun y=>df ((eW s k m).1.1++[(⟨g7.getD z.toNat 0,decide (y=0),[]⟩:bj)],if g7.getD z.toNat 0≤4 then (eW s k m).1.2++[(k:Int)] else (eW s k m).1.2)) (eW s k m).2:=rfl
  rw [this]
  simp only [cA,df]
  refine ⟨by simp [ih.1],?_⟩
  split
  ·simp;omega
  ·omega
theorem Bi (n:Int) (calls:List Int) (l:List bj) (k:Nat) (m:MS):(fI s n calls l k m).1.length=l.length∧∀j,k≤j→(fI s n calls l k m).1[j]?=l[j]?:=by
 have _:=hs
 clear hs
 induction k with
 | zero=>exact ⟨rfl,fun j _=>rfl⟩
 | succ k ih=>
  have:fI s n calls l (k+1) m=(match (fI s n calls l k m).1[k]? with
   | none=>df (fI s n calls l k m).1
   | some q=>if q.Kind≥7 then df (fI s n calls l k m).1 else cA (dr s 3) fun c=>cA (fx s n q.Kind calls (1+c).toNat) fun rs=>df ((fI s n calls l k m).1.set k { q with Rules:=rs })) (fI s n calls l k m).2:=rfl
  rw [this]
  cases hq:(fI s n calls l k m).1[k]? with
  | none=>exact ⟨ih.1,fun j hj=>ih.2 j (by omega)⟩
  | some q=>
   dsimp only
   by_cases h7:q.Kind≥7
   ·rw [if_pos h7]
    exact ⟨ih.1,fun j hj=>ih.2 j (by omega)⟩
   ·rw [if_neg h7]
    simp only [cA,df]
    refine ⟨by rw [List.length_set];exact ih.1,fun j hj=>?_⟩
    rw [List.getElem?_set_ne (by omega)]
    exact ih.2 j (by omega)
theorem wC (n kind:Int) (calls:List Int) (k:Nat) (m:MS):(fx s n kind calls k m).1.length=k:=by
 have _:=hs
 clear hs
 induction k with
 | zero=>rfl
 | succ k ih=>
  have:fx s n kind calls (k+1) m=((fx s n kind calls k m).1++[(gU s n kind calls (fx s n kind calls k m).2).1],(gU s n kind calls (fx s n kind calls k m).2).2):=rfl
  rw [this]
  simp [ih]
abbrev i7 (F:MF) (v:AV):MF:={ F with lk:=v }
set_option maxHeartbeats 16000000 in
theorem wb {kg:Option (Nat×Nat)} {gl:List (List AV)} (hF:F.gl= .vec kg 9 gl) (hl:F.lk=bO) (n:Nat) (hn:gl.length=n) (h0:0 < n∧n≤1000) (b:Nat) (m:MS):AC Tryz.prog 66 [gj b] [eJ b s F m] fun _ L=>L=[eJ b s (i7 F (.imm 3 ((j4 s n m).1.map bi))) (j4 s n m).2]:=by
 refine aX Tryz.func66 rfl Tryz.ntmps66 rfl fun B=>?_
 repeat' (first|refine go ?_|refine IG a6 EV ?_)
 refine dh ?_
 have hk:=cI s hs m.a (n:=7) (by omega)
 have hk:0≤(dr s 7 m).1∧(dr s 7 m).1 < 7:=hk
 generalize e1:dr s 7 m=p1 at hk ⊢
 obtain ⟨k,hkk⟩:∃k:Nat,p1.1=k:=⟨p1.1.toNat,by omega⟩
 rw [hkk]
 have hFF:F=i7 F bO:=by
  cases F
  simp only at hl
  rw [hl]
 rw [hFF]
 repeat' (first|refine go ?_|refine am ?_|refine IG a6 EV ?_)
 refine bN (bo (t:=3) (c':= .vec none 1 []) rfl fun σ v h=>cO 1 h) ?_
 refine aO [0,2] (α:=Nat×Option (Nat×Nat)×Option (Nat×List AV×Nat)) (fun x=>[(4,aP x.1),(3,.vec x.2.1 1 (aS (eW s x.1 p1.2).1.2))]) (fun x=>x.1≤k∧xz x.1 0 (eW s x.1 p1.2).1.1 x.2.2) (fun x=>eJ b s (i7 F (zi x.1 x.2.2)) (eW s x.1 p1.2).2::(BF x.2.2++(tok x.2.1 3 1 (aS (eW s x.1 p1.2).1.2).length++[]))) (fun x=>k - x.1) (0,none,none) rfl ⟨rfl,rfl,trivial⟩ ⟨Nat.zero_le _,rfl⟩ (fun _ _ h=>by simpa [eW,it,df,tok,aS,BF,zi] using h) ?_
 rintro ⟨i,q,o⟩ ⟨hi,ho⟩
 dsimp only at hi ho ⊢
 have hln:=w4 s hs i p1.2
 try dsimp only [Jr,Jq,Jp,Jk]
 repeat' (first|refine go ?_|refine IG a6 EV ?_)
 refine au rfl (fun h=>?_) (fun h=>?_)
 ·have hil:i < k:=by have:=Jy h;omega
  have hstep:eW s (i+1) p1.2=(cA (dr s 10) fun z=>cA (dr s 3) fun y=>df ((eW s i p1.2).1.1++[(⟨g7.getD z.toNat 0,decide (y=0),[]⟩:bj)],if g7.getD z.toNat 0≤4 then (eW s i p1.2).1.2++[(i:Int)] else (eW s i p1.2).1.2)) (eW s i p1.2).2:=rfl
  generalize eW s i p1.2=st at hln ho hstep ⊢
  have hil2:(aS st.1.2).length=st.1.2.length:=aF _
  repeat' (first|refine go ?_|refine am ?_|refine IG a6 EV ?_|refine bG a6 ?_|fail)
  refine dh ?_
  have hz:=cI s hs st.2.a (n:=10) (by omega)
  have hz:0≤(dr s 10 st.2).1∧(dr s 10 st.2).1 < 10:=hz
  unfold cA at hstep
  generalize dr s 10 st.2=z at hz hstep ⊢
  dsimp only at hstep
  have hzk:(aS g7)[z.1.toNat]?=some [aP (g7.getD z.1.toNat 0)]:=bQ (by rw [List.getD_eq_getElem?_getD,Jz (show z.1.toNat < g7.length by simp [g7];omega)];rfl)
  generalize hkd:g7.getD z.1.toNat 0=kd at hzk hstep
  repeat' (first|refine go ?_|refine IG a6 EV ?_|(apply aV;first|refine aU a6 ?_|refine aN a6 ?_)|fail)
  refine dS [.cell (b,5,zi i o)] 13 [(0,.v),(1,.v),(2,.v),(3,.v),(4,.v),(5,.k),(6,.v),(7,.v),(8,.f),(9,.v),(10,.v),(11,.v),(12,.e)] none ?_ trivial rfl (by kernel_rfl) (by kernel_rfl) (by kernel_rfl) mixed (by kernel_rfl) rfl
  repeat' (first|refine aC ?_|refine aY a6 ?_|fail)
  refine eR a6 0 rfl rfl rfl (cj 0 rfl rfl cu) (by first | trivial | rfl) ?_
  repeat' (first|refine aC ?_|refine aY a6 ?_|fail)
  refine fj (cj 0 rfl rfl cu) ?_
  generalize dr s 3 z.2=y at hstep ⊢
  repeat' (first|refine aC ?_|refine aY a6 ?_|refine dU a6 ?_|fail)
  have hst1:st.1.1.length=i:=hln.1
  rcases o with _ | ⟨ob,ocs,ocap⟩
  ·have hi0:i=0:=ho
   subst hi0
   refine vG a6 rfl rfl rfl rfl rfl rfl rfl (by first | trivial | rfl) fun b' cs' cap' h1 h2 h3 h4=>?_
   have hrow:xz (0+1) 0 (st.1.1++[⟨kd,decide (y.1=0),[]⟩]) (some (b',cs',cap')):=by
    refine ⟨h1,by omega,h4,?_⟩
    rw [List.eq_nil_of_length_eq_zero (by omega:st.1.1.length=0)]
    exact h2
   refine IQ [0,2,3,4,5,21,33] EV ?_
   refine aK (aM (L':=eJ b s (i7 F (zi 0 none)) y.2::(BF (some (b',cs',cap'))++(tok q 3 1 (aS st.1.2).length++[]))) (List.Perm.swap _ _ _)) ?_
   repeat' (first|refine go ?_|refine IG a6 EV ?_|(apply aJ;first|refine IH a6 0 IE ?_|refine IH a6 1 IE ?_|refine IH a6 2 IE ?_|refine IH a6 3 IE ?_|fail))
   refine au rfl (fun hk4=>?_) (fun hk4=>?_)
   ·rw [if_pos (Jy hk4)] at hstep
    dsimp only [df] at hstep
    repeat' (first|refine go ?_|refine IG a6 EV ?_|refine bG a6 ?_|fail)
    refine IS a6 _ IC (fc (A:=[_,_])) (by simp [aF];omega) (by simp [aF];omega) rfl fun q'=>?_
    refine aK (aM (fc (A:=[_,_])).symm) ?_
    repeat' (first|refine go ?_|refine IG a6 EV ?_|(apply aW;refine aT ?_)|fail)
    exact aB (0+1,q',some (b',cs',cap')) rfl ⟨rfl,by rw [hstep];dsimp only;rw [show aS (st.1.2++[((0:Nat):Int)])=aS st.1.2++[[aP ((0:Nat):Int)]] from List.map_append ..];rfl,trivial⟩ ⟨by dsimp only;omega,by rw [hstep];exact hrow⟩ (by dsimp only;omega) (fun _ _ h=>by dsimp only;rw [hstep];dsimp only;rw [show aS (st.1.2++[((0:Nat):Int)])=aS st.1.2++[[aP ((0:Nat):Int)]] from List.map_append ..];exact h)
   ·rw [if_neg (Jx hk4)] at hstep
    dsimp only [df] at hstep
    repeat' (first|refine go ?_|refine IG a6 EV ?_|(apply aW;refine aT ?_)|fail)
    exact aB (0+1,q,some (b',cs',cap')) rfl ⟨rfl,by rw [hstep];rfl,trivial⟩ ⟨by dsimp only;omega,by rw [hstep];exact hrow⟩ (by dsimp only;omega) (fun _ _ h=>by dsimp only;rw [hstep];exact h)
  ·obtain ⟨ho1,ho2,ho3,ho4⟩:=ho
   refine yG a6 1 rfl rfl rfl rfl rfl rfl rfl ho1 ho2 ho3 (by unfold maxLen;omega) (by omega) (by first | trivial | rfl) fun b' cs' cap' h1 h2 h3 h4=>?_
   have hrow:xz (i+1) 0 (st.1.1++[⟨kd,decide (y.1=0),[]⟩]) (some (b',cs',cap')):=by
    refine ⟨h1,h3,h4,?_⟩
    rw [h2,ho4,xA]
    rfl
   refine IQ [0,2,3,4,5,21,33] EV ?_
   refine aK (aM (L':=eJ b s (i7 F (zi i (some (ob,ocs,ocap)))) y.2::(BF (some (b',cs',cap'))++(tok q 3 1 (aS st.1.2).length++[]))) (List.Perm.swap _ _ _)) ?_
   repeat' (first|refine go ?_|refine IG a6 EV ?_|(apply aJ;first|refine IH a6 0 IE ?_|refine IH a6 1 IE ?_|refine IH a6 2 IE ?_|refine IH a6 3 IE ?_|fail))
   refine au rfl (fun hk4=>?_) (fun hk4=>?_)
   ·rw [if_pos (Jy hk4)] at hstep
    dsimp only [df] at hstep
    repeat' (first|refine go ?_|refine IG a6 EV ?_|refine bG a6 ?_|fail)
    refine IS a6 _ IC (fc (A:=[_,_])) (by simp [aF];omega) (by simp [aF];omega) rfl fun q'=>?_
    refine aK (aM (fc (A:=[_,_])).symm) ?_
    repeat' (first|refine go ?_|refine IG a6 EV ?_|(apply aW;refine aT ?_)|fail)
    exact aB (i+1,q',some (b',cs',cap')) rfl ⟨by rw [Jv];rfl,by rw [hstep];dsimp only;rw [show aS (st.1.2++[(i:Int)])=aS st.1.2++[[aP (i:Int)]] from List.map_append ..];rfl,trivial⟩ ⟨by dsimp only;omega,by rw [hstep];exact hrow⟩ (by dsimp only;omega) (fun _ _ h=>by dsimp only;rw [hstep];dsimp only;rw [show aS (st.1.2++[(i:Int)])=aS st.1.2++[[aP (i:Int)]] from List.map_append ..];exact h)
   ·rw [if_neg (Jx hk4)] at hstep
    dsimp only [df] at hstep
    repeat' (first|refine go ?_|refine IG a6 EV ?_|(apply aW;refine aT ?_)|fail)
    exact aB (i+1,q,some (b',cs',cap')) rfl ⟨by rw [Jv];rfl,by rw [hstep];rfl,trivial⟩ ⟨by dsimp only;omega,by rw [hstep];exact hrow⟩ (by dsimp only;omega) (fun _ _ h=>by dsimp only;rw [hstep];exact h)
 have hil:i=k:=by have:=Jx h;omega
 subst hil
 have hhd:=rD s i p1.2
 generalize e2:eW s i p1.2=st at hln ho hhd ⊢
 have hv:j4 s n m=fI s n st.1.2 st.1.1 i st.2:=by
  unfold j4 cA
  rw [e1]
  dsimp only
  rw [hkk,Int.toNat_natCast,e2]
 rw [hv]
 have hfi:=fun j=>Bi s hs n st.1.2 st.1.1 j st.2
 repeat' (first|refine go ?_|refine am ?_|refine IG a6 EV ?_)
 refine bN (bM (L':=eJ b s (i7 F (zi i o)) st.2::(BF o++[])) (List.Sublist.cons_cons _ ((List.nil_sublist _).append_left _))) ?_
 rcases o with _ | ⟨ob,ocs,ocap⟩
 ·have hi0:i=0:=ho
  subst hi0
  refine aO [0,2,3] (α:=Unit) (fun _=>[(6,aP 0)]) (fun _=>True) (fun _=>[eJ b s (i7 F bO) st.2]) (fun _=>0) () rfl ⟨rfl,trivial⟩ trivial (fun _ _ h=>h) ?_
  intro _ _
  try dsimp only [Jr,Jq,Jp,Jk]
  repeat' (first|refine go ?_|refine IG a6 EV ?_|refine bP rfl ?_)
  have hnil:(fI s n st.1.2 st.1.1 0 st.2).1=[]:=List.eq_nil_of_length_eq_zero (by rw [(hfi 0).1];exact hln.1)
  refine ba (bC 0 (cs':=Hq s (i7 F (.imm 3 [])) st.2) rfl fun σ vs h=>cy (k:=5) (c:=bO) h rfl fun v hv=>gm 3 hv) (dB rfl ?_)
  rw [hnil]
  rfl
 refine aO [0,2,3] (α:=Nat×List AV) (fun x=>[(6,aP x.1)]) (fun x=>x.1≤i∧xz i x.1 (fI s n st.1.2 st.1.1 x.1 st.2).1 (some (ob,x.2,ocap))) (fun x=>[eJ b s (i7 F (zi i (some (ob,ocs,ocap)))) (fI s n st.1.2 st.1.1 x.1 st.2).2,(ob,.box x.2 77)]) (fun x=>i - x.1) (0,ocs) rfl ⟨rfl,trivial⟩ ⟨Nat.zero_le _,ho⟩ (fun _ _ h=>h) ?_
 rintro ⟨j,cs⟩ ⟨hj,h1,h2,h3,h4⟩
 dsimp only at hj h1 h2 h3 h4 ⊢
 try dsimp only [Jr,Jq,Jp,Jk]
 repeat' (first|refine go ?_|refine IG a6 EV ?_)
 refine au rfl (fun h=>?_) (fun h=>?_)
 ·have hji:j < i:=by have:=Jy h;omega
  have hfj:=hfi j
  have hstep:fI s n st.1.2 st.1.1 (j+1) st.2=(match (fI s n st.1.2 st.1.1 j st.2).1[j]? with
   | none=>df (fI s n st.1.2 st.1.1 j st.2).1
   | some q=>if q.Kind≥7 then df (fI s n st.1.2 st.1.1 j st.2).1 else cA (dr s 3) fun c=>cA (fx s n q.Kind st.1.2 (1+c).toNat) fun rs=>df ((fI s n st.1.2 st.1.1 j st.2).1.set j { q with Rules:=rs })) (fI s n st.1.2 st.1.1 j st.2).2:=rfl
  generalize fI s n st.1.2 st.1.1 j st.2=T at hfj h4 hstep ⊢
  have hTl:T.1.length=i:=by rw [hfj.1];exact hln.1
  obtain ⟨q,hq⟩:∃q,T.1[j]?=some q:=⟨_,Jz (by omega)⟩
  have hq2:st.1.1[j]?=some q:=by rw [←hfj.2 j (Nat.le_refl _)];exact hq
  have hqm:=Jw hq2
  have hqk:=hhd.kinds q hqm
  have hqn:=hhd.none q hqm
  rw [hq] at hstep
  dsimp only at hstep
  have hcell:∀c,c < 3→cs[j * 3+c]?=(fS j j q)[c]?:=fun c hc=>by
   have e:=sB j T.1 0 j c hc
   rw [hq,Option.bind_some,Nat.zero_add,←h4,List.getElem?_take,if_pos (by omega)] at e
   exact e
  have hP:∀c,0+((j:Int)).toNat * 3+c=j * 3+c:=fun c=>by rw [Int.toNat_natCast];omega
  have hc0:cs[0+((j:Int)).toNat * 3+0]?=some (aP q.Kind):=by rw [hP];exact hcell 0 (by omega)
  have hc2:cs[0+((j:Int)).toNat * 3+2]?=some bO:=by
   rw [hP,hcell 2 (by omega)]
   simp [fS]
  have hPl:0+((j:Int)).toNat * 3+2 < cs.length:=(Jo hc2).1
  repeat' (first|refine go ?_|refine am ?_|refine IG a6 EV ?_|(apply bH;first|refine IJ a6 0 ID ?_|refine IJ a6 1 ID ?_|refine IJ a6 2 ID ?_|refine IJ a6 3 ID ?_|refine IK a6 0 ID ?_|refine IK a6 1 ID ?_|refine IK a6 2 ID ?_|refine IL a6 1 IB (by assumption) rfl ?_|refine IL a6 0 IB (by assumption) rfl ?_|fail)|(apply aV;first|refine aU a6 ?_|refine aN a6 ?_)|fail)
  refine au rfl (fun h7=>?_) (fun h7=>?_)
  ·have h7:=Jy h7
   rw [if_pos (show q.Kind≥7 from h7)] at hstep
   repeat' (first|refine go ?_|refine IG a6 EV ?_|(apply aW;refine aT ?_)|fail)
   refine ba (bC 1 (cs':=cs.set (0+((j:Int)).toNat * 3+2) (.imm 6 [])) rfl fun σ vs h=>cy h hc2 fun v hv=>gm 6 hv) ?_
   exact aB (j+1,cs.set (0+((j:Int)).toNat * 3+2) (.imm 6 [])) rfl ⟨by rw [Jv];rfl,trivial⟩ ⟨by dsimp only;omega,by dsimp only;rw [List.length_set];exact h1,h2,h3,by rw [hstep,hP];dsimp only [df];rw [List.take_set,h4];exact Ea hq hqn⟩ (by dsimp only;omega) (fun _ _ h=>by dsimp only;rw [hstep];exact h)
  have h7:=Jx h7
  rw [if_neg (show ¬q.Kind≥7 from h7)] at hstep
  unfold cA at hstep
  repeat' (first|refine go ?_|refine IG a6 EV ?_)
  refine dh ?_
  have hc:=cI s hs T.2.a (n:=3) (by omega)
  have hc:0≤(dr s 3 T.2).1∧(dr s 3 T.2).1 < 3:=hc
  generalize dr s 3 T.2=p2 at hc hstep ⊢
  dsimp only at hstep
  obtain ⟨c,hcc⟩:∃k:Nat,1+p2.1=k:=⟨(1+p2.1).toNat,by omega⟩
  rw [hcc,Int.toNat_natCast] at hstep
  repeat' (first|refine go ?_|refine am ?_|refine IG a6 EV ?_|(apply aW;refine aT ?_)|fail)
  rw [hcc]
  refine bN (bC 1 (cs':=cs.set (0+((j:Int)).toNat * 3+2) (.vec none 6 [])) rfl fun σ vs h=>cy h hc2 fun v hv=>cO 6 hv) ?_
  refine aO [0,2,3,6,7] (α:=Nat×Option (Nat×Nat)) (fun x=>[(8,aP x.1)]) (fun x=>x.1≤c) (fun x=>[eJ b s (i7 F (zi i (some (ob,ocs,ocap)))) (fx s n q.Kind st.1.2 x.1 p2.2).2,(ob,.box (cs.set (0+((j:Int)).toNat * 3+2) (.vec x.2 6 ((fx s n q.Kind st.1.2 x.1 p2.2).1.map bE))) 77)]++(tok x.2 81 6 ((fx s n q.Kind st.1.2 x.1 p2.2).1.map bE).length++[])) (fun x=>c - x.1) (0,none) rfl ⟨rfl,trivial⟩ (Nat.zero_le _) (fun _ _ h=>h) ?_
  rintro ⟨r,qv⟩ hr
  dsimp only at hr ⊢
  have hrl:=wC s hs n q.Kind st.1.2 r p2.2
  have hrs:fx s n q.Kind st.1.2 (r+1) p2.2=((fx s n q.Kind st.1.2 r p2.2).1++[(gU s n q.Kind st.1.2 (fx s n q.Kind st.1.2 r p2.2).2).1],(gU s n q.Kind st.1.2 (fx s n q.Kind st.1.2 r p2.2).2).2):=rfl
  try dsimp only [Jr,Jq,Jp,Jk]
  repeat' (first|refine go ?_|refine IG a6 EV ?_)
  refine au rfl (fun h=>?_) (fun h=>?_)
  ·have hrc:r < c:=by have:=Jy h;omega
   generalize fx s n q.Kind st.1.2 r p2.2=R at hrl hrs ⊢
   have hset:(cs.set (0+((j:Int)).toNat * 3+2) (.vec qv 6 (R.1.map bE)))[0+((j:Int)).toNat * 3+2]?=some (.vec qv 6 (R.1.map bE)):=List.getElem?_set_self hPl
   have hset0:(cs.set (0+((j:Int)).toNat * 3+2) (.vec qv 6 (R.1.map bE)))[0+((j:Int)).toNat * 3+0]?=some (aP q.Kind):=by rw [List.getElem?_set_ne (by omega)];exact hc0
   have hRl:(R.1.map bE).length=R.1.length:=Jt ..
   repeat' (first|refine go ?_|refine am ?_)
   refine dS [.cell (b,5,zi i (some (ob,ocs,ocap))),.cell (ob,0+((j:Int)).toNat * 3+2,.vec qv 6 (R.1.map bE))] 29 [(0,.v),(1,.v),(2,.v),(3,.v),(4,.k),(5,.v),(6,.v),(7,.v),(8,.v),(9,.v),(10,.k),(11,.v),(12,.v),(13,.v),(14,.k),(15,.v),(16,.v),(17,.v),(18,.v),(19,.v),(20,.l),(21,.v),(22,.v),(23,.v),(24,.l),(25,.v),(26,.f),(27,.v),(28,.f)] none ?_ trivial rfl (by kernel_rfl) (by kernel_rfl) (by kernel_rfl) mixed (by kernel_rfl) rfl
   have hkeep:∀m' Z,eT [.cell (b,5,zi i (some (ob,ocs,ocap))),.cell (ob,0+((j:Int)).toNat * 3+2,.vec qv 6 (R.1.map bE))] (eJ b s (i7 F (zi i (some (ob,ocs,ocap)))) m'::(ob,.box (cs.set (0+((j:Int)).toNat * 3+2) (.vec qv 6 (R.1.map bE))) 77)::Z):=fun m' Z=>cj 0 rfl rfl (cj 1 rfl hset cu)
   repeat' (first|refine aC ?_|refine aY a6 ?_|fail)
   refine eR a6 0 rfl rfl rfl (hkeep _ _) (by first | trivial | rfl) ?_
   repeat' (first|refine aC ?_|refine aY a6 ?_|fail)
   refine eR a6 0 rfl rfl rfl (hkeep _ _) (by first | trivial | rfl) ?_
   repeat' (first|refine aC ?_|refine aY a6 ?_|fail)
   refine fG a6 rfl rfl rfl (by omega) (by first | trivial | rfl) ?_
   repeat' (first|refine aC ?_|refine aY a6 ?_|fail)
   refine eR a6 1 rfl rfl rfl (hkeep _ _) (by first | trivial | rfl) ?_
   repeat' (first|refine aC ?_|refine aY a6 ?_|refine dg a6 0 rfl rfl rfl rfl (by first|trivial|rfl) ?_)
   refine fG a6 rfl rfl rfl (by omega) (by first | trivial | rfl) ?_
   repeat' (first|refine aC ?_|refine aY a6 ?_|fail)
   refine dg a6 1 rfl rfl rfl hset0 (by first | trivial | rfl) ?_
   repeat' (first|refine aC ?_|refine aY a6 ?_|fail)
   refine rm (zW s hs (i7 F (zi i (some (ob,ocs,ocap)))) hF n hn h0 q.Kind (by omega) st.1.2 (by omega)) (hkeep _ _) ?_
   generalize gU s n q.Kind st.1.2 R.2=y at hrs ⊢
   unfold Fh
   repeat' (first|refine aC ?_|refine dU a6 ?_|fail)
   refine yE a6 _ rfl rfl rfl rfl (fc (A:=[_,_])) (by simp;omega) (by simp;omega) (hkeep _ _) (by first | trivial | rfl) fun q'=>?_
   refine IQ [0,2,3,6,7,8,70,71,94] EV ?_
   refine aK (aM (fc (A:=[_,_])).symm) ?_
   repeat' (first|refine IG a6 EV ?_|(apply aV;first|refine aU a6 ?_|refine aN a6 ?_)|fail)
   refine aj a6 1 rfl rfl rfl rfl rfl rfl (by rw [Nat.ble_eq,List.length_set];exact hPl) ?_
   repeat' (first|refine go ?_|refine IG a6 EV ?_|(apply aW;refine aT ?_)|fail)
   exact aB (r+1,q') rfl ⟨by rw [Jv];rfl,trivial⟩ (by dsimp only;omega) (by dsimp only;omega) (fun _ _ h=>by dsimp only;rw [hrs];dsimp only;rw [List.map_append];simp only [iq,List.set_set] at h;exact h)
  have hrc:r=c:=by have:=Jx h;omega
  subst hrc
  generalize fx s n q.Kind st.1.2 r p2.2=R at hrl hstep ⊢
  have hset:(cs.set (0+((j:Int)).toNat * 3+2) (.vec qv 6 (R.1.map bE)))[0+((j:Int)).toNat * 3+2]?=some (.vec qv 6 (R.1.map bE)):=List.getElem?_set_self hPl
  repeat' (first|refine go ?_|refine IG a6 EV ?_|(apply aW;refine aT ?_)|fail)
  refine ba (bM (L':=[eJ b s (i7 F (zi i (some (ob,ocs,ocap)))) R.2,(ob,.box (cs.set (0+((j:Int)).toNat * 3+2) (.vec qv 6 (R.1.map bE))) 77)]) (List.Sublist.cons_cons _ (List.Sublist.cons_cons _ (List.nil_sublist _)))) ?_
  refine ba (bC 1 (cs':=(cs.set (0+((j:Int)).toNat * 3+2) (.vec qv 6 (R.1.map bE))).set (0+((j:Int)).toNat * 3+2) (.imm 6 (R.1.map bE))) rfl fun σ vs h=>cy h hset fun v hv=>VR.im hv) ?_
  rw [List.set_set]
  exact aB (j+1,cs.set (0+((j:Int)).toNat * 3+2) (.imm 6 (R.1.map bE))) rfl ⟨by rw [Jv];rfl,trivial⟩ ⟨by dsimp only;omega,by dsimp only;rw [List.length_set];exact h1,h2,h3,by rw [hstep,hP];dsimp only [df];rw [List.take_set,h4];exact BK hq⟩ (by dsimp only;omega) (fun _ _ h=>by dsimp only;rw [hstep];exact h)
 have hji:j=i:=by have:=Jx h;omega
 subst hji
 generalize hT:fI s n st.1.2 st.1.1 j st.2=T at h4 ⊢
 have hTl:T.1.length=j:=by rw [←hT,(hfi j).1];exact hln.1
 repeat' (first|refine go ?_|fail)
 refine ba (aM (List.Perm.swap _ _ _)) ?_
 refine ba (of (k:=5) (n:=j) (cap:=ocap) (l:=T.1.map bi) rfl (by rw [h4,BI _ _ _ (by omega)]) h1 (fun q hq=>by
  obtain ⟨x,_,rfl⟩:=List.mem_map.1 hq
  rfl) (by rw [Jt];exact hTl) h2 h3) ?_
 exact dB rfl rfl
end Go.Proofs.YtjjpkibjffmceaaGreat
namespace Go.Proofs.YtjjpkibjffmceaaGreat
open Go.RowKit
attribute [local irreducible] AT cg AX AO Av Kt bJ eC DA du
variable (s:List Int) (hs:s.length≤1000000) (F:MF)
theorem yp (a c:UInt8):(⟨#[a]⟩:ByteArray)++(⟨#[c]⟩:ByteArray)=bytes [a,c]:=by
 apply ByteArray.ext
 simp [bytes]
theorem yq (a b c:UInt8):(⟨#[a,b]⟩:ByteArray)++(⟨#[c]⟩:ByteArray)=bytes [a,b,c]:=by
 apply ByteArray.ext
 simp [bytes]
theorem HE {z:Int} (h:0≤z∧z < 256):IntKind.wrap .u8 z=z:=by
 unfold IntKind.wrap
 simp [IntKind.signed,IntKind.bits]
 try omega
theorem uv (n:Nat) (h:n < 100):IntKind.wrap .u8 (97+(n:Int))=97+(n:Int):=HE (by omega)
theorem xy (n:Nat) (h:n < 100):UInt8.ofNat (97+(n:Int)).toNat=(97+n).toUInt8:=by
 rw [show ((97+(n:Int))).toNat=97+n by omega]
theorem Ht {a c:Nat×AB} {T:AL}:(a::(T++[])++[c]).Perm ([a,c]++(T++[])):=List.Perm.cons a (List.perm_append_comm (l₁:=T++[]))
def kX (nm:ByteArray) (ad:Int) (mk:Bool) (o:List eU×List Int) (ps an de hi:AV):List AV:=[gW nm,aP ad,cM mk,.imm 3 (o.1.map dC),.imm 1 (aS o.2),ps,an,de,hi]
theorem yf (mark:Bool) (cl:Int) (m:MS) (k:Nat):(fq s mark cl k m).1.length≤k:=by
 refine (co.runs (fun i (l:List dv)=>l.length≤i) k (Nat.le_refl _) fun i l _ h=>(co.any _).bnd fun z _=>co.ite (fun _=>(co.any _).bnd fun x _=>(co.any _).bnd fun y _=>co.ret (by simp;omega)) fun _=>co.ret (by omega)) m
theorem vI (r:Nat) (l:List dK) (m:MS) (k:Nat):(iz s r l k m).1.length≤l.length+k:=by
 refine (co.runs (fun i (q:List dK)=>q.length≤l.length+i) k (Nat.le_refl _) fun i q _ h=>(co.any _).bnd fun z _=>co.ite (fun _=>(co.any _).bnd fun x _=>co.ite (fun _=>co.ret (by simp;omega)) fun _=>(co.any _).bnd fun y _=>co.ret (by simp;omega)) fun _=>co.ret (by omega)) m
def kC (cl:Int):List (List AV):=(g9 cl).map fun p=>[aP p.1,aP p.2]
abbrev CQ (F:MF) (v:AV):MF:={ F with gl:=v }
include hs
set_option maxHeartbeats 16000000 in
theorem Bu {kg:Option (Nat×Nat)} {gl rg fu:List (List AV)} (hF:F.gl= .vec kg 9 gl) (hrg:F.rg= .imm 1 rg) (hfu:F.fu= .imm 1 fu) (R fn n:Nat) (hR:rg.length=R) (hfn:fu.length=fn) (hg:gl.length≤1000) (hRl:R≤1000) (hfl:fn≤1000) (hn:n < 100) (b:Nat) (m:MS):AC Tryz.prog 65 [gj b,aP n] ([eJ b s F m]++(tok kg 63 9 gl.length++[])) fun _ L=>∃kg',L=[eJ b s (CQ F (.vec kg' 9 (gl++[bh (km s R fn n m).1]))) (km s R fn n m).2]++(tok kg' 63 9 (gl++[bh (km s R fn n m).1]).length++[]):=by
 refine aX Tryz.func65 rfl Tryz.ntmps65 rfl fun B=>?_
 repeat' (first|refine go ?_|fail)
 refine br 15 [(0,.v),(1,.v),(2,.v),(3,.v),(4,.v),(5,.v),(6,.v),(10,.v),(7,.e),(8,.v),(9,.v),(11,.e),(12,.v),(13,.v)] (some (14,.box _ 63)) ?_ ⟨_,rfl,rfl,fun _ _ _=>ga (eA a6 rfl) rfl⟩ rfl (by kernel_rfl) (by kernel_rfl) (by kernel_rfl) mixed (by kernel_rfl) rfl
 repeat' (first|refine aC ?_|refine aY a6 ?_|(apply fk;refine gF ?_)|fail)
 refine B9 a6 ?_
 rw [uv n hn]
 repeat' (first|refine aC ?_|refine dU a6 ?_|fail)
 refine xk a6 ?_
 rw [xy n hn]
 repeat' (first|refine aC ?_|fail)
 refine dL (hs:=Nat.le_of_ble_eq_true rfl) ?_
 rw [yp]
 repeat' (first|refine aC ?_|refine aY a6 ?_|fail)
 refine sj ?_
 have had:=cI s hs m.a (n:=19) (by omega)
 have had:0≤(dr s 19 m).1∧(dr s 19 m).1 < 19:=had
 generalize e1:dr s 19 m=ad at had ⊢
 repeat' (first|refine aC ?_|(apply fk;refine gF ?_)|fail)
 refine sj ?_
 generalize e2:dr s 4 ad.2=mk
 repeat' (first|refine aC ?_|refine aY a6 ?_|fail)
 refine ji [0,1,4,23] (fun _=>_) (fun _=>rfl) rfl fun _=>?_
 rename_i gb
 refine aK (aM (L':=[eJ b s F mk.2,(gb,.box [.sc (.string ⟨#[]⟩),aP 0,cM false,bO,bO,bO,bO,bO,bO] 63)]++(tok kg 63 9 gl.length++[])) Ht) ?_
 repeat' (first|refine go ?_|refine IG a6 EV ?_|(apply aJ;first|refine IH a6 0 IE ?_|refine IH a6 1 IE ?_|refine IH a6 2 IE ?_|refine IH a6 3 IE ?_|fail))
 refine sd [0,1,4] ([eJ b s F mk.2,(gb,.box [gW (dD n),aP (100+ad.1 * 50),cM (decide (mk.1=0) && decide (n≠0)),bO,bO,.vec none 3 [],.vec none 4 [],.vec none 4 [],bO] 63)]++(tok kg 63 9 gl.length++[])) rfl (fun Q' K=>?_) ?_
 ·refine au rfl (fun h=>?_) (fun h=>?_)
  ·have h:n=0:=by have:=Jy h;omega
   have hm:(decide (mk.1=0) && decide (n≠0))=false:=by simp [h]
   have hgn:dD n=C7:=if_pos h
   rw [hm,hgn] at K
   repeat' (first|refine go ?_|refine IG a6 EV ?_|(apply aJ;first|refine IH a6 0 IE ?_|refine IH a6 1 IE ?_|refine IH a6 2 IE ?_|refine IH a6 3 IE ?_|fail))
   refine ba (bC 1 rfl fun σ vs h=>cy (k:=5) (c':= .vec none 3 []) (cy (k:=6) (c':= .vec none 4 []) (cy (k:=7) (c':= .vec none 4 []) h rfl fun v hv=>cO 4 hv) rfl fun v hv=>cO 4 hv) rfl fun v hv=>cO 3 hv) ?_
   exact K _ rfl
  ·have h:¬n=0:=by have:=Jx h;omega
   have hm:(decide (mk.1=0) && decide (n≠0))=decide (mk.1=0):=by simp [h]
   have hgn:dD n=l8 Ik n:=if_neg h
   rw [hm,hgn] at K
   repeat' (first|refine go ?_|fail)
   refine ba (bC 1 rfl fun σ vs h=>cy (k:=5) (c':= .vec none 3 []) (cy (k:=6) (c':= .vec none 4 []) (cy (k:=7) (c':= .vec none 4 []) h rfl fun v hv=>cO 4 hv) rfl fun v hv=>cO 4 hv) rfl fun v hv=>cO 3 hv) ?_
   exact K _ rfl
 generalize hmk:(decide (mk.1=0) && decide (n≠0))=mb
 repeat' (first|refine go ?_|refine IG a6 EV ?_)
 refine uD (sO s hs F) ?_
 have ho:=oP s mk.2
 generalize e3:jQ s mk.2=o at ho ⊢
 obtain ⟨ko,hko,hoo⟩:=ho
 have hol:=hoo.len
 unfold Hs
 refine IG a6 EV ?_
 (apply aJ;refine IH a6 1 IE ?_)
 refine aa ?_
 refine a8 ?_
 refine ah ?_
 refine sd [0,4] ([eJ b s F (j8 s n o.2).2,(gb,.box (kX (dD n) (100+ad.1 * 50) mb o.1 (.imm 3 ((j8 s n o.2).1.map ct)) (.vec none 4 []) (.vec none 4 []) bO) 63)]++(tok kg 63 9 gl.length++[])) rfl (fun Q' K=>?_) ?_
 ·repeat' (first|refine go ?_|refine IG a6 EV ?_)
  by_cases hn1:1 < n
  ·rw [decide_eq_true (show (1:Int) < (n:Int) by omega)]
   repeat' (first|refine IG a6 EV ?_|refine IR EV ?_)
   refine dh ?_
   generalize e4:dr s 4 o.2=z
   repeat' (first|refine go ?_|refine IG a6 EV ?_|refine IR EV ?_)
   refine au rfl (fun h=>?_) (fun h=>?_)
   ·have h:=Jy h
    repeat' (first|fail)
    refine dS [.cell (gb,5,.vec none 3 [])] 11 [(0,.v),(1,.k),(2,.v),(6,.v),(3,.f),(4,.v),(5,.v),(7,.f),(8,.v),(9,.v),(10,.v)] none ?_ trivial rfl (by kernel_rfl) (by kernel_rfl) (by kernel_rfl) mixed (by kernel_rfl) rfl
    repeat' (first|refine aC ?_|refine aY a6 ?_|fail)
    refine eR a6 0 rfl rfl rfl (cj 1 rfl rfl cu) (by first | trivial | rfl) ?_
    repeat' (first|refine aC ?_|refine aY a6 ?_|fail)
    refine fj (cj 1 rfl rfl cu) ?_
    have hx:=cI s hs z.2.a (n:=9) (by omega)
    have hx:0≤(dr s 9 z.2).1∧(dr s 9 z.2).1 < 9:=hx
    generalize e5:dr s 9 z.2=x at hx ⊢
    repeat' (first|refine aC ?_|(apply fk;refine gF ?_)|fail)
    refine fj (cj 1 rfl rfl cu) ?_
    have hy:=cI s hs x.2.a (n:=5) (by omega)
    have hy:0≤(dr s 5 x.2).1∧(dr s 5 x.2).1 < 5:=hy
    generalize e6:dr s 5 x.2=y at hy ⊢
    repeat' (first|refine aC ?_|refine aY a6 ?_|(apply fk;refine gF ?_)|refine dU a6 ?_|fail)
    refine IQ [0,4,39,48] EV ?_
    repeat' (first|fail)
    refine IS a6 _ IC (Jn _) (by simp) (by simp) rfl fun q'=>?_
    refine aK (bM (List.sublist_append_right _ _)) ?_
    repeat' (first|refine go ?_|refine IG a6 EV ?_|(apply aJ;first|refine IH a6 0 IE ?_|refine IH a6 1 IE ?_|refine IH a6 2 IE ?_|refine IH a6 3 IE ?_|fail))
    have hv:j8 s n o.2=([⟨1,x.1 * 50 - 200,y.1 * 50⟩],y.2):=by simp [j8,cA,df,hn1,e4,e5,e6,h]
    rw [hv] at K
    refine ba (bC 1 rfl fun σ vs h=>cy (k:=5) (c':= .imm 3 ([(⟨1,x.1 * 50 - 200,y.1 * 50⟩:cD)].map ct)) h rfl fun v hv=>VR.im hv) ?_
    exact K _ rfl
   ·have h:=Jx h
    repeat' (first|refine go ?_|fail)
    have hv:j8 s n o.2=([],z.2):=by simp [j8,cA,df,hn1,e4,h]
    rw [hv] at K
    refine ba (bC 1 rfl fun σ vs h=>cy (k:=5) (c':= .imm 3 []) h rfl fun v hv=>VR.im hv) ?_
    exact K _ rfl
  ·rw [decide_eq_false (show ¬(1:Int) < (n:Int) by omega)]
   repeat' (first|refine go ?_|refine IG a6 EV ?_|refine IT IC ?_|refine bP rfl ?_)
   have hv:j8 s n o.2=([],o.2):=by simp [j8,df,hn1]
   rw [hv] at K
   refine ba (bC 1 rfl fun σ vs h=>cy (k:=5) (c':= .imm 3 []) h rfl fun v hv=>VR.im hv) ?_
   exact K _ rfl
 generalize e4:j8 s n o.2=ps
 repeat' (first|refine go ?_|refine IG a6 EV ?_)
 refine dh ?_
 have hcl:=cI s hs ps.2.a (n:=2) (by omega)
 have hcl:0≤(dr s 2 ps.2).1∧(dr s 2 ps.2).1 < 2:=hcl
 generalize e5:dr s 2 ps.2=cl at hcl ⊢
 repeat' (first|refine go ?_|refine am ?_|refine IG a6 EV ?_|refine bG a6 ?_|fail)
 refine aO [0,4,5] (α:=Nat×Option (Nat×Nat)) (fun x=>[(6,aP x.1),(5,.imm 2 (kC cl.1))]) (fun x=>x.1≤5) (fun x=>[eJ b s F (fq s mb cl.1 x.1 cl.2).2,(gb,.box (kX (dD n) (100+ad.1 * 50) mb o.1 (.imm 3 (ps.1.map ct)) (.vec x.2 4 ((fq s mb cl.1 x.1 cl.2).1.map cB)) (.vec none 4 []) bO) 63)]++(tok x.2 87 4 ((fq s mb cl.1 x.1 cl.2).1.map cB).length++(tok kg 63 9 gl.length++[]))) (fun x=>5 - x.1) (0,none) rfl ⟨rfl,rfl,trivial⟩ (Nat.zero_le _) (fun _ _ h=>h) ?_
 rintro ⟨i,q⟩ hi
 dsimp only at hi ⊢
 have hal:=yf s mb cl.1 cl.2 i
 have hstep:fq s mb cl.1 (i+1) cl.2=(cA (dr s 3) fun z=>if z=0∧(((g9 cl.1).getD i (0,0)).1≠2∨mb=true) then cA (dr s 21) fun x=>cA (dr s 21) fun y=>df ((fq s mb cl.1 i cl.2).1++[(⟨((g9 cl.1).getD i (0,0)).1,((g9 cl.1).getD i (0,0)).2,x * 50,y * 50 - 200⟩:dv)]) else df (fq s mb cl.1 i cl.2).1) (fq s mb cl.1 i cl.2).2:=rfl
 try dsimp only [Jr,Jq,Jp,Jk]
 repeat' (first|refine go ?_|refine IG a6 EV ?_)
 refine au rfl (fun h=>?_) (fun h=>?_)
 ·have hil:i < 5:=by have:=Jy h;omega
  have hka:(kC cl.1)[i]?=some [aP ((g9 cl.1).getD i (0,0)).1,aP ((g9 cl.1).getD i (0,0)).2]:=by
   unfold kC
   rw [List.getElem?_map,tD hil]
   rfl
  generalize fq s mb cl.1 i cl.2=st at hal hstep ⊢
  have halm:(st.1.map cB).length=st.1.length:=Jt ..
  generalize (g9 cl.1).getD i (0,0)=pr at hka hstep
  repeat' (first|refine go ?_|refine am ?_|refine IG a6 EV ?_)
  refine dh ?_
  unfold cA at hstep
  generalize dr s 3 st.2=z at hstep ⊢
  dsimp only at hstep
  repeat' (first|refine IG a6 EV ?_)
  refine dH (t:=77) [0,4,5,6] (z.1=0∧(pr.1≠2∨mb=true)) rfl (fun Q' K=>?_) ?_
  ·by_cases hz:z.1=0
   ·rw [decide_eq_true hz]
    repeat' (first|refine IG a6 EV ?_|refine IR EV ?_|(apply aV;first|refine aU a6 ?_|refine aN a6 ?_)|fail)
    refine uB a6 0 ?_
    repeat' (first|refine IG a6 EV ?_|refine IR EV ?_)
    by_cases h2:pr.1≠2
    ·rw [decide_eq_true h2]
     repeat' (first|refine go ?_|refine IG a6 EV ?_|refine IR EV ?_|refine IT IC ?_)
     exact K _ _ rfl rfl (by simp [hz,h2])
    ·rw [decide_eq_false h2]
     repeat' (first|refine go ?_|refine IG a6 EV ?_|refine IR EV ?_|(apply bH;first|refine IJ a6 0 ID ?_|refine IJ a6 1 ID ?_|refine IJ a6 2 ID ?_|refine IJ a6 3 ID ?_|refine IK a6 0 ID ?_|refine IK a6 1 ID ?_|refine IK a6 2 ID ?_|refine IL a6 1 IB (by assumption) rfl ?_|refine IL a6 0 IB (by assumption) rfl ?_|fail)|fail)
     exact K _ _ rfl rfl (by simp only [ne_eq,Decidable.not_not] at h2;simp [hz,h2])
   ·rw [decide_eq_false hz]
    repeat' (first|refine go ?_|refine IG a6 EV ?_|refine IT IC ?_|refine dW rfl rfl rfl ?_)
    exact K _ _ rfl rfl (by simp [hz])
  repeat' (first|refine go ?_|fail)
  refine au rfl (fun h=>?_) (fun h=>?_)
  ·have h:=Jy h
   rw [if_pos h] at hstep
   repeat' (first|fail)
   refine dS [.cell (gb,6,.vec q 4 (st.1.map cB))] 21 [(0,.v),(1,.k),(2,.v),(3,.v),(4,.v),(5,.v),(6,.v),(7,.v),(8,.v),(9,.v),(10,.v),(11,.v),(12,.v),(15,.v),(13,.f),(14,.v),(16,.f),(17,.v),(18,.v),(19,.v),(20,.v)] none ?_ trivial rfl (by kernel_rfl) (by kernel_rfl) (by kernel_rfl) mixed (by kernel_rfl) rfl
   repeat' (first|refine aC ?_|refine aY a6 ?_|fail)
   refine eR a6 0 rfl rfl rfl (cj 1 rfl rfl cu) (by first | trivial | rfl) ?_
   repeat' (first|refine aC ?_|refine aY a6 ?_|(apply bS;refine ce a6 ?_)|fail)
   refine F2 a6 0 ?_
   repeat' (first|refine aC ?_|refine aY a6 ?_|(apply bS;refine ce a6 ?_)|fail)
   refine F2 a6 1 ?_
   repeat' (first|refine aC ?_|refine aY a6 ?_|fail)
   refine fj (cj 1 rfl rfl cu) ?_
   have hx:=cI s hs z.2.a (n:=21) (by omega)
   have hx:0≤(dr s 21 z.2).1∧(dr s 21 z.2).1 < 21:=hx
   generalize dr s 21 z.2=x at hx hstep ⊢
   try dsimp only at hstep
   repeat' (first|refine aC ?_|(apply fk;refine gF ?_)|fail)
   refine fj (cj 1 rfl rfl cu) ?_
   have hy:=cI s hs x.2.a (n:=21) (by omega)
   have hy:0≤(dr s 21 x.2).1∧(dr s 21 x.2).1 < 21:=hy
   generalize dr s 21 x.2=y at hy hstep ⊢
   try dsimp only [df] at hstep
   repeat' (first|refine aC ?_|refine aY a6 ?_|(apply fk;refine gF ?_)|refine dU a6 ?_|fail)
   refine IQ [0,4,5,6,79,98] EV ?_
   repeat' (first|fail)
   refine IS a6 _ IC (fc (A:=[_,_])) (by simp;omega) (by simp;omega) rfl fun q'=>?_
   refine aK (aM (fc (A:=[_,_])).symm) ?_
   repeat' (first|refine go ?_|refine IG a6 EV ?_|(apply aW;refine aT ?_)|(apply aJ;first|refine IH a6 0 IE ?_|refine IH a6 1 IE ?_|refine IH a6 2 IE ?_|refine IH a6 3 IE ?_|fail))
   exact aB (i+1,q') rfl ⟨by rw [Jv];rfl,rfl,trivial⟩ (by dsimp only;omega) (by dsimp only;omega) (fun _ _ h=>by dsimp only;rw [hstep];dsimp only;rw [List.map_append];exact h)
  ·have h:=Jx h
   rw [if_neg h] at hstep
   dsimp only [df] at hstep
   repeat' (first|refine go ?_|refine IG a6 EV ?_|(apply aW;refine aT ?_)|fail)
   exact aB (i+1,q) rfl ⟨by rw [Jv];rfl,rfl,trivial⟩ (by dsimp only;omega) (by dsimp only;omega) (fun _ _ h=>by dsimp only;rw [hstep];exact h)
 have hil:i=5:=by have:=Jx h;omega
 subst hil
 clear hstep hal
 generalize e6:fq s mb cl.1 5 cl.2=an
 refine bN (bC 1 rfl fun σ vs h=>cy (k:=6) (c':= .imm 4 (an.1.map cB)) h rfl fun v hv=>VR.im hv) ?_
 refine bN (bM (L':=[eJ b s F an.2,(gb,.box (kX (dD n) (100+ad.1 * 50) mb o.1 (.imm 3 (ps.1.map ct)) (.imm 4 (an.1.map cB)) (.vec none 4 []) bO) 63)]++(tok kg 63 9 gl.length++[])) (List.Sublist.cons_cons _ (List.Sublist.cons_cons _ (List.sublist_append_right _ _)))) ?_
 have hpl:(o.1.1.map dC).length=o.1.1.length:=Jt ..
 repeat' (first|refine go ?_|refine am ?_|refine IG a6 EV ?_)
 refine aO [0,4] (α:=Nat×Option (Nat×Nat)) (fun x=>[(7,aP x.1)]) (fun x=>x.1≤R) (fun x=>[eJ b s F (gG s o.1.1.length x.1 an.2).2,(gb,.box (kX (dD n) (100+ad.1 * 50) mb o.1 (.imm 3 (ps.1.map ct)) (.imm 4 (an.1.map cB)) (.vec x.2 4 ((gG s o.1.1.length x.1 an.2).1.map dm)) bO) 63)]++(tok x.2 89 4 ((gG s o.1.1.length x.1 an.2).1.map dm).length++(tok kg 63 9 gl.length++[]))) (fun x=>R - x.1) (0,none) rfl ⟨rfl,trivial⟩ (Nat.zero_le _) (fun _ _ h=>h) ?_
 rintro ⟨r,q⟩ hr
 dsimp only at hr ⊢
 have hdl:=(pR s o.1.1.length r an.2).len
 have hdl:(gG s o.1.1.length r an.2).1.length≤11000:=Nat.le_trans hdl (Nat.le_trans (Nat.mul_le_mul (show r≤1000 by omega) (show o.1.1.length+1≤11 by omega)) (by omega))
 have hstep:gG s o.1.1.length (r+1) an.2=iz s r (gG s o.1.1.length r an.2).1 (o.1.1.length+1) (gG s o.1.1.length r an.2).2:=rfl
 try dsimp only [Jr,Jq,Jp,Jk]
 repeat' (first|refine go ?_|refine IG a6 EV ?_|(apply bH;first|refine IJ a6 0 ID ?_|refine IJ a6 1 ID ?_|refine IJ a6 2 ID ?_|refine IJ a6 3 ID ?_|refine IK a6 0 ID ?_|refine IK a6 1 ID ?_|refine IK a6 2 ID ?_|refine IL a6 1 IB (by assumption) rfl ?_|refine IL a6 0 IB (by assumption) rfl ?_|fail)|fail)
 rw [hrg]
 repeat' (first|refine go ?_|refine IG a6 EV ?_)
 rw [hR]
 refine au rfl (fun h=>?_) (fun h=>?_)
 ·have hrl:r < R:=by have:=Jy h;omega
  generalize gG s o.1.1.length r an.2=D at hdl hstep ⊢
  repeat' (first|refine go ?_|refine am ?_|refine IG a6 EV ?_)
  refine aO [0,4,7] (α:=Nat×Option (Nat×Nat)) (fun x=>[(8,aP ((x.1:Int) - 1))]) (fun x=>x.1≤o.1.1.length+1) (fun x=>[eJ b s F (iz s r D.1 x.1 D.2).2,(gb,.box (kX (dD n) (100+ad.1 * 50) mb o.1 (.imm 3 (ps.1.map ct)) (.imm 4 (an.1.map cB)) (.vec x.2 4 ((iz s r D.1 x.1 D.2).1.map dm)) bO) 63)]++(tok x.2 89 4 ((iz s r D.1 x.1 D.2).1.map dm).length++(tok kg 63 9 gl.length++[]))) (fun x=>o.1.1.length+1 - x.1) (0,q) rfl ⟨rfl,trivial⟩ (Nat.zero_le _) (fun _ _ h=>h) ?_
  rintro ⟨p,q⟩ hp
  dsimp only at hp ⊢
  have hel:=vI s r D.1 D.2 p
  have hst2:iz s r D.1 (p+1) D.2=(cA (dr s 3) fun z=>if z=0 then cA (dr s 41) fun x=>if p=0 then df ((iz s r D.1 p D.2).1++[(⟨r,-1,x - 20,0⟩:dK)]) else cA (dr s 41) fun y=>df ((iz s r D.1 p D.2).1++[(⟨r,(p:Int) - 1,x - 20,y - 20⟩:dK)]) else df (iz s r D.1 p D.2).1) (iz s r D.1 p D.2).2:=rfl
  try dsimp only [Jr,Jq,Jp,Jk]
  repeat' (first|refine go ?_|refine IG a6 EV ?_|(apply bH;first|refine IJ a6 0 ID ?_|refine IJ a6 1 ID ?_|refine IJ a6 2 ID ?_|refine IJ a6 3 ID ?_|refine IK a6 0 ID ?_|refine IK a6 1 ID ?_|refine IK a6 2 ID ?_|refine IL a6 1 IB (by assumption) rfl ?_|refine IL a6 0 IB (by assumption) rfl ?_|fail)|fail)
  refine au rfl (fun h=>?_) (fun h=>?_)
  ·have hpp:p < o.1.1.length+1:=by have:=Jy h;rw [hpl] at this;omega
   generalize iz s r D.1 p D.2=E at hel hst2 ⊢
   have hElm:(E.1.map dm).length=E.1.length:=Jt ..
   repeat' (first|refine go ?_|refine am ?_|refine IG a6 EV ?_)
   refine dh ?_
   unfold cA at hst2
   generalize dr s 3 E.2=z at hst2 ⊢
   dsimp only at hst2
   repeat' (first|refine go ?_|refine IG a6 EV ?_)
   refine au rfl (fun hz=>?_) (fun hz=>?_)
   ·rw [if_pos (Jy hz)] at hst2
    repeat' (first|refine go ?_|refine IG a6 EV ?_)
    refine dh ?_
    have hx:=cI s hs z.2.a (n:=41) (by omega)
    have hx:0≤(dr s 41 z.2).1∧(dr s 41 z.2).1 < 41:=hx
    generalize dr s 41 z.2=x at hx hst2 ⊢
    try dsimp only at hst2
    repeat' (first|refine go ?_|refine IG a6 EV ?_|(apply aW;refine aT ?_)|(apply aJ;first|refine IH a6 0 IE ?_|refine IH a6 1 IE ?_|refine IH a6 2 IE ?_|refine IH a6 3 IE ?_|fail)|refine bc a6 fun _=>?_|fail)
    refine bN (aM (List.perm_middle (l₁:=[_,_])).symm) ?_
    refine au rfl (fun h0=>?_) (fun h0=>?_)
    ·have h0:¬p=0:=by have:=Jy h0;omega
     rw [if_neg h0] at hst2
     repeat' (first|refine go ?_|refine IG a6 EV ?_)
     refine dh ?_
     have hy:=cI s hs x.2.a (n:=41) (by omega)
     have hy:0≤(dr s 41 x.2).1∧(dr s 41 x.2).1 < 41:=hy
     generalize dr s 41 x.2=y at hy hst2 ⊢
     try dsimp only [df] at hst2
     repeat' (first|refine go ?_|refine IG a6 EV ?_|(apply bH;first|refine IJ a6 0 ID ?_|refine IJ a6 1 ID ?_|refine IJ a6 2 ID ?_|refine IJ a6 3 ID ?_|refine IK a6 0 ID ?_|refine IK a6 1 ID ?_|refine IK a6 2 ID ?_|refine IL a6 1 IB (by assumption) rfl ?_|refine IL a6 0 IB (by assumption) rfl ?_|fail)|(apply aW;refine aT ?_)|(apply aJ;first|refine IH a6 0 IE ?_|refine IH a6 1 IE ?_|refine IH a6 2 IE ?_|refine IH a6 3 IE ?_|fail)|refine bG a6 ?_|fail)
     refine IS a6 _ IC (fc (A:=[_,_,_])) (by simp;omega) (by simp;omega) rfl fun q'=>?_
     refine aK (aM (fc (A:=[_,_,_])).symm) ?_
     repeat' (first|refine go ?_|refine IG a6 EV ?_|(apply aW;refine aT ?_)|(apply aJ;first|refine IH a6 0 IE ?_|refine IH a6 1 IE ?_|refine IH a6 2 IE ?_|refine IH a6 3 IE ?_|fail))
     exact aB (p+1,q') rfl ⟨by dsimp only;rw [show ((p+1:Nat):Int) - 1=(p:Int) - 1+1 by omega];rfl,trivial⟩ (by dsimp only;omega) (by dsimp only;omega) (fun _ _ h=>by dsimp only;rw [hst2];dsimp only;rw [List.map_append];exact h.sublist (List.Sublist.cons_cons _ (List.Sublist.cons_cons _ (List.sublist_cons_self ..))))
    ·have h0:p=0:=by have:=Jx h0;omega
     rw [if_pos h0] at hst2
     try dsimp only [df] at hst2
     repeat' (first|refine go ?_|refine IG a6 EV ?_|(apply bH;first|refine IJ a6 0 ID ?_|refine IJ a6 1 ID ?_|refine IJ a6 2 ID ?_|refine IJ a6 3 ID ?_|refine IK a6 0 ID ?_|refine IK a6 1 ID ?_|refine IK a6 2 ID ?_|refine IL a6 1 IB (by assumption) rfl ?_|refine IL a6 0 IB (by assumption) rfl ?_|fail)|refine bG a6 ?_|fail)
     refine IS a6 _ IC (fc (A:=[_,_,_])) (by simp;omega) (by simp;omega) rfl fun q'=>?_
     refine aK (aM (fc (A:=[_,_,_])).symm) ?_
     repeat' (first|refine go ?_|refine IG a6 EV ?_|(apply aW;refine aT ?_)|(apply aJ;first|refine IH a6 0 IE ?_|refine IH a6 1 IE ?_|refine IH a6 2 IE ?_|refine IH a6 3 IE ?_|fail))
     subst h0
     exact aB (0+1,q') rfl ⟨rfl,trivial⟩ (by dsimp only;omega) (by dsimp only;omega) (fun _ _ h=>by dsimp only;rw [hst2];dsimp only;rw [List.map_append];exact h.sublist (List.Sublist.cons_cons _ (List.Sublist.cons_cons _ (List.sublist_cons_self ..))))
   ·rw [if_neg (Jx hz)] at hst2
    try dsimp only [df] at hst2
    repeat' (first|refine go ?_|refine IG a6 EV ?_|(apply aW;refine aT ?_)|fail)
    exact aB (p+1,q) rfl ⟨by dsimp only;rw [show ((p+1:Nat):Int) - 1=(p:Int) - 1+1 by omega];rfl,trivial⟩ (by dsimp only;omega) (by dsimp only;omega) (fun _ _ h=>by dsimp only;rw [hst2];exact h)
  have hpp:p=o.1.1.length+1:=by have:=Jx h;rw [hpl] at this;omega
  subst hpp
  repeat' (first|refine go ?_|refine IG a6 EV ?_|(apply aW;refine aT ?_)|fail)
  exact aB (r+1,q) rfl ⟨by rw [Jv];rfl,trivial⟩ (by dsimp only;omega) (by dsimp only;omega) (fun _ _ h=>by dsimp only;rw [hstep];exact h)
 have hrl:r=R:=by have:=Jx h;omega
 subst hrl
 clear hstep hdl
 generalize e7:gG s o.1.1.length r an.2=de
 repeat' (first|refine go ?_|refine IG a6 EV ?_|(apply aJ;first|refine IH a6 0 IE ?_|refine IH a6 1 IE ?_|refine IH a6 2 IE ?_|refine IH a6 3 IE ?_|fail))
 refine bN (aM (L':=[eJ b s F (ip 2 de.2).2,(gb,.box (kX (dD n) (100+ad.1 * 50) mb o.1 (.imm 3 (ps.1.map ct)) (.imm 4 (an.1.map cB)) (.vec q 4 (de.1.map dm)) bO) 63)]++(tok q 89 4 (de.1.map dm).length++(tok kg 63 9 gl.length++[]))) (Jn _)) ?_
 refine bN (bC 1 rfl fun σ vs h=>cy (k:=7) (c':= .imm 4 (de.1.map dm)) h rfl fun v hv=>VR.im hv) ?_
 refine bN (bM (L':=[eJ b s F (ip 2 de.2).2,(gb,.box (kX (dD n) (100+ad.1 * 50) mb o.1 (.imm 3 (ps.1.map ct)) (.imm 4 (an.1.map cB)) (.imm 4 (de.1.map dm)) bO) 63)]++(tok kg 63 9 gl.length++[])) (List.Sublist.cons_cons _ (List.Sublist.cons_cons _ (List.sublist_append_right _ _)))) ?_
 generalize e8:(ip 2 de.2).2=w
 refine br 11 [(0,.v),(1,.v),(2,.v),(3,.l),(4,.v),(5,.v),(6,.v),(7,.v),(8,.v),(9,.l),(10,.v)] none ?_ trivial rfl (by kernel_rfl) (by kernel_rfl) (by kernel_rfl) mixed (by kernel_rfl) rfl
 repeat' (first|refine aC ?_|refine aY a6 ?_|refine dg a6 0 rfl rfl rfl rfl (by first|trivial|rfl) ?_|refine dg a6 1 rfl rfl rfl rfl (by first|trivial|rfl) ?_)
 rw [hfu]
 repeat' (first|refine aY a6 ?_|fail)
 rw [hfn,hpl]
 refine IQ [0,4,143,147,153] EV ?_
 refine uD (rE s hs F (n:=o.1.1.length) (fn:=fn) (most:=6) (by omega) (by omega) (by omega)) ?_
 generalize e9:n6 s o.1.1.length fn 6 w=hi
 unfold jE
 repeat' (first|refine go ?_|refine IG a6 EV ?_|(apply aJ;first|refine IH a6 0 IE ?_|refine IH a6 1 IE ?_|refine IH a6 2 IE ?_|refine IH a6 3 IE ?_|fail))
 refine bN (aM (L':=[eJ b s F hi.2,(gb,.box (kX (dD n) (100+ad.1 * 50) mb o.1 (.imm 3 (ps.1.map ct)) (.imm 4 (an.1.map cB)) (.imm 4 (de.1.map dm)) (.imm 2 (hi.1.map ea))) 63)]++(tok kg 63 9 gl.length++[])) (Jn _)) ?_
 refine br 9 [(0,.v),(1,.v),(2,.v),(3,.v),(4,.v),(5,.l),(6,.l),(7,.v),(8,.e)] none ?_ trivial rfl (by kernel_rfl) (by kernel_rfl) (by kernel_rfl) mixed (by kernel_rfl) rfl
 repeat' (first|refine aC ?_|refine aY a6 ?_|refine dU a6 ?_|refine dg a6 0 rfl rfl rfl rfl (by first|trivial|rfl) ?_|refine xm a6 1 rfl rfl rfl rfl (by first|trivial|rfl) ?_)
 rw [hF]
 refine eI a6 _ rfl rfl rfl rfl (fc (A:=[_,_])) (by simp;omega) (by simp;omega) (by first | trivial | rfl) fun q'=>?_
 refine IQ [156,164] EV ?_
 refine aK (aM (fc (A:=[_,_])).symm) ?_
 repeat' (first|refine go ?_|refine IG a6 EV ?_|(apply aJ;first|refine IH a6 0 IE ?_|refine IH a6 1 IE ?_|refine IH a6 2 IE ?_|refine IH a6 3 IE ?_|fail))
 have hv:km s r fn n m=(⟨dD n,100+ad.1 * 50,mb,o.1.1,o.1.2,ps.1,an.1,de.1,hi.1⟩,hi.2):=by
  unfold km cA
  rw [e1]
  try dsimp only
  rw [e2]
  try dsimp only
  rw [e3]
  try dsimp only
  rw [e4]
  try dsimp only
  rw [e5,hmk]
  try dsimp only
  rw [e6]
  try dsimp only
  rw [e7]
  try dsimp only
  rw [e8,e9]
  rfl
 rw [hv]
 exact ba (bM (L':=[eJ b s (CQ F (.vec q' 9 (gl++[bh ⟨dD n,100+ad.1 * 50,mb,o.1.1,o.1.2,ps.1,an.1,de.1,hi.1⟩]))) hi.2]++(tok q' 63 9 (gl++[bh ⟨dD n,100+ad.1 * 50,mb,o.1.1,o.1.2,ps.1,an.1,de.1,hi.1⟩]).length++[])) (List.Sublist.cons_cons _ (List.sublist_cons_self ..))) (dB rfl ⟨q',rfl⟩)
end Go.Proofs.YtjjpkibjffmceaaGreat
