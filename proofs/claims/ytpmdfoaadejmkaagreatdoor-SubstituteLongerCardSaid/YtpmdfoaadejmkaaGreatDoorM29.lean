/-
  The maker: lookups.
-/
import Derived.Test.YtpmdfoaadejmkaaGreatDoorM28
import Derived.Test.YtpmdfoaadejmkaaGreatDoorM26
namespace Go.Proofs.YtpmdfoaadejmkaaGreatDoor
open Go.RowKit
attribute [local irreducible] AT br AX AO Av Kt bb df DA cC
variable (s:List Int) (hs:s.length≤1000000) (F:MF)
include hs
theorem vz (k:Nat) (m:MS):(dX s k m).1.1.length=k∧(dX s k m).1.2.length≤k:=by
 have _:=hs
 clear hs
 induction k with
 | zero=>exact ⟨rfl,Nat.le_refl _⟩
 | succ k ih=>
  have:dX s (k+1) m=(bX (dr s 10) fun z=>bX (dr s 3) fun y=>ret ((dX s k m).1.1++[(⟨fw.getD z.toNat 0,decide (y=0),[]⟩:aL)],if fw.getD z.toNat 0≤4 then (dX s k m).1.2++[(k:Int)] else (dX s k m).1.2)) (dX s k m).2:=rfl
  rw [this]
  simp only [bX,ret]
  refine ⟨by simp [ih.1],?_⟩
  split
  ·simp;omega
  ·omega
theorem Ah (n:Int) (calls:List Int) (l:List aL) (k:Nat) (m:MS):(eX s n calls l k m).1.length=l.length∧∀j,k≤j→(eX s n calls l k m).1[j]?=l[j]?:=by
 have _:=hs
 clear hs
 induction k with
 | zero=>exact ⟨rfl,fun j _=>rfl⟩
 | succ k ih=>
  have:eX s n calls l (k+1) m=(match (eX s n calls l k m).1[k]? with
   | none=>ret (eX s n calls l k m).1
   | some q=>if q.Kind≥7 then ret (eX s n calls l k m).1 else bX (dr s 3) fun c=>bX (eL s n q.Kind calls (1+c).toNat) fun rs=>ret ((eX s n calls l k m).1.set k { q with Rules:=rs })) (eX s n calls l k m).2:=rfl
  rw [this]
  cases hq:(eX s n calls l k m).1[k]? with
  | none=>exact ⟨ih.1,fun j hj=>ih.2 j (by omega)⟩
  | some q=>
   dsimp only
   by_cases h7:q.Kind≥7
   ·rw [if_pos h7]
    exact ⟨ih.1,fun j hj=>ih.2 j (by omega)⟩
   ·rw [if_neg h7]
    simp only [bX,ret]
    refine ⟨by rw [List.length_set];exact ih.1,fun j hj=>?_⟩
    rw [List.getElem?_set_ne (by omega)]
    exact ih.2 j (by omega)
theorem w7 (n kind:Int) (calls:List Int) (k:Nat) (m:MS):(eL s n kind calls k m).1.length=k:=by
 have _:=hs
 clear hs
 induction k with
 | zero=>rfl
 | succ k ih=>
  have:eL s n kind calls (k+1) m=((eL s n kind calls k m).1++[(gp s n kind calls (eL s n kind calls k m).2).1],(gp s n kind calls (eL s n kind calls k m).2).2):=rfl
  rw [this]
  simp [ih]
abbrev gB (F:MF) (v:AV):MF:={ F with lk:=v }
set_option maxHeartbeats 16000000 in
theorem vK {kg:Option (Nat×Nat)} {gl:List (List AV)} (hF:F.gl= .vec kg 9 gl) (hl:F.lk=bF) (n:Nat) (hn:gl.length=n) (h0:0 < n∧n≤1000) (b:Nat) (m:MS):AC Tryz.prog 93 [Cm b] [dG b s F m] fun _ L=>L=[dG b s (gB F (.imm 3 ((il s n m).1.map bC))) (il s n m).2]:=by
 refine aN Tryz.func93 rfl Tryz.ntmps93 rfl fun B=>?_
 repeat' (first|refine If ?_|refine IF a5 FN ?_)
 refine cu ?_
 have hk:=cg s hs m.a (n:=7) (by omega)
 have hk:0≤(dr s 7 m).1∧(dr s 7 m).1 < 7:=hk
 generalize e1:dr s 7 m=p1 at hk ⊢
 obtain ⟨k,hkk⟩:∃k:Nat,p1.1=k:=⟨p1.1.toNat,by omega⟩
 rw [hkk]
 have hFF:F=gB F bF:=by
  cases F
  simp only at hl
  rw [hl]
 rw [hFF]
 repeat' (first|refine If ?_|refine ak ?_|refine IF a5 FN ?_)
 refine bP (bO (t:=3) (c':= .vec none 1 []) rfl fun σ v h=>cJ 1 h) ?_
 refine aO [0,2] (α:=Nat×Option (Nat×Nat)×Option (Nat×List AV×Nat)) (fun x=>[(4,aF x.1),(3,.vec x.2.1 1 (aT (dX s x.1 p1.2).1.2))]) (fun x=>x.1≤k∧wR x.1 0 (dX s x.1 p1.2).1.1 x.2.2) (fun x=>dG b s (gB F (yg x.1 x.2.2)) (dX s x.1 p1.2).2::(AU x.2.2++(tok x.2.1 3 1 (aT (dX s x.1 p1.2).1.2).length++[]))) (fun x=>k - x.1) (0,none,none) rfl ⟨rfl,rfl,trivial⟩ ⟨Nat.zero_le _,rfl⟩ (fun _ _ h=>by simpa [dX,gI,ret,tok,aT,AU,yg] using h) ?_
 rintro ⟨i,q,o⟩ ⟨hi,ho⟩
 dsimp only at hi ho ⊢
 have hln:=vz s hs i p1.2
 try dsimp only [Is,Ir,Iq,Ik]
 repeat' (first|refine If ?_|refine IF a5 FN ?_)
 refine aq rfl (fun h=>?_) (fun h=>?_)
 ·have hil:i < k:=by have:=Iy h;omega
  have hstep:dX s (i+1) p1.2=(bX (dr s 10) fun z=>bX (dr s 3) fun y=>ret ((dX s i p1.2).1.1++[(⟨fw.getD z.toNat 0,decide (y=0),[]⟩:aL)],if fw.getD z.toNat 0≤4 then (dX s i p1.2).1.2++[(i:Int)] else (dX s i p1.2).1.2)) (dX s i p1.2).2:=rfl
  generalize dX s i p1.2=st at hln ho hstep ⊢
  have hil2:(aT st.1.2).length=st.1.2.length:=aZ _
  repeat' (first|refine If ?_|refine ak ?_|refine IF a5 FN ?_|refine bG a5 ?_|fail)
  refine cu ?_
  have hz:=cg s hs st.2.a (n:=10) (by omega)
  have hz:0≤(dr s 10 st.2).1∧(dr s 10 st.2).1 < 10:=hz
  unfold bX at hstep
  generalize dr s 10 st.2=z at hz hstep ⊢
  dsimp only at hstep
  have hzk:(aT fw)[z.1.toNat]?=some [aF (fw.getD z.1.toNat 0)]:=bR (by rw [List.getD_eq_getElem?_getD,Iz (show z.1.toNat < fw.length by simp [fw];omega)];rfl)
  generalize hkd:fw.getD z.1.toNat 0=kd at hzk hstep
  repeat' (first|refine If ?_|refine IF a5 FN ?_|(apply aS;first|refine aR a5 ?_|refine aH a5 ?_)|fail)
  refine d7 [.cell (b,5,yg i o)] 13 [(0,.v),(1,.v),(2,.v),(3,.v),(4,.v),(5,.k),(6,.v),(7,.v),(8,.f),(9,.v),(10,.v),(11,.v),(12,.e)] none ?_ trivial rfl (by kernel_rfl) (by kernel_rfl) (by kernel_rfl) bT (by kernel_rfl) rfl
  repeat' (first|refine aC ?_|refine b6 a5 ?_|fail)
  refine dx a5 0 rfl rfl rfl (bD 0 rfl rfl bS) (by first | trivial | rfl) ?_
  repeat' (first|refine aC ?_|refine b6 a5 ?_|fail)
  refine er (bD 0 rfl rfl bS) ?_
  generalize dr s 3 z.2=y at hstep ⊢
  repeat' (first|refine aC ?_|refine b6 a5 ?_|refine dS a5 ?_|fail)
  have hst1:st.1.1.length=i:=hln.1
  rcases o with _ | ⟨ob,ocs,ocap⟩
  ·have hi0:i=0:=ho
   subst hi0
   refine vg a5 rfl rfl rfl rfl rfl rfl rfl (by first | trivial | rfl) fun b' cs' cap' h1 h2 h3 h4=>?_
   have hrow:wR (0+1) 0 (st.1.1++[⟨kd,decide (y.1=0),[]⟩]) (some (b',cs',cap')):=by
    refine ⟨h1,by omega,h4,?_⟩
    rw [List.eq_nil_of_length_eq_zero (by omega:st.1.1.length=0)]
    exact h2
   refine IQ [0,2,3,4,5,21,33] FN ?_
   refine aJ (aI (L':=dG b s (gB F (yg 0 none)) y.2::(AU (some (b',cs',cap'))++(tok q 3 1 (aT st.1.2).length++[]))) (List.Perm.swap _ _ _)) ?_
   repeat' (first|refine If ?_|refine IF a5 FN ?_|(apply aM;first|refine IG a5 0 ID ?_|refine IG a5 1 ID ?_|refine IG a5 2 ID ?_|refine IG a5 3 ID ?_|fail))
   refine aq rfl (fun hk4=>?_) (fun hk4=>?_)
   ·rw [if_pos (Iy hk4)] at hstep
    dsimp only [ret] at hstep
    repeat' (first|refine If ?_|refine IF a5 FN ?_|refine bG a5 ?_|fail)
    refine bJ a5 _ rfl rfl rfl rfl (ev (A:=[_,_])) (by simp [aZ];omega) (by simp [aZ];omega) rfl fun q'=>?_
    refine aJ (aI (ev (A:=[_,_])).symm) ?_
    repeat' (first|refine If ?_|refine IF a5 FN ?_|(apply aV;refine aU ?_)|fail)
    exact aD (0+1,q',some (b',cs',cap')) rfl ⟨rfl,by rw [hstep];dsimp only;rw [show aT (st.1.2++[((0:Nat):Int)])=aT st.1.2++[[aF ((0:Nat):Int)]] from List.map_append ..];rfl,trivial⟩ ⟨by dsimp only;omega,by rw [hstep];exact hrow⟩ (by dsimp only;omega) (fun _ _ h=>by dsimp only;rw [hstep];dsimp only;rw [show aT (st.1.2++[((0:Nat):Int)])=aT st.1.2++[[aF ((0:Nat):Int)]] from List.map_append ..];exact h)
   ·rw [if_neg (Ix hk4)] at hstep
    dsimp only [ret] at hstep
    repeat' (first|refine If ?_|refine IF a5 FN ?_|(apply aV;refine aU ?_)|fail)
    exact aD (0+1,q,some (b',cs',cap')) rfl ⟨rfl,by rw [hstep];rfl,trivial⟩ ⟨by dsimp only;omega,by rw [hstep];exact hrow⟩ (by dsimp only;omega) (fun _ _ h=>by dsimp only;rw [hstep];exact h)
  ·obtain ⟨ho1,ho2,ho3,ho4⟩:=ho
   refine xS a5 1 rfl rfl rfl rfl rfl rfl rfl ho1 ho2 ho3 (by unfold maxLen;omega) (by omega) (by first | trivial | rfl) fun b' cs' cap' h1 h2 h3 h4=>?_
   have hrow:wR (i+1) 0 (st.1.1++[⟨kd,decide (y.1=0),[]⟩]) (some (b',cs',cap')):=by
    refine ⟨h1,h3,h4,?_⟩
    rw [h2,ho4,wS]
    rfl
   refine IQ [0,2,3,4,5,21,33] FN ?_
   refine aJ (aI (L':=dG b s (gB F (yg i (some (ob,ocs,ocap)))) y.2::(AU (some (b',cs',cap'))++(tok q 3 1 (aT st.1.2).length++[]))) (List.Perm.swap _ _ _)) ?_
   repeat' (first|refine If ?_|refine IF a5 FN ?_|(apply aM;first|refine IG a5 0 ID ?_|refine IG a5 1 ID ?_|refine IG a5 2 ID ?_|refine IG a5 3 ID ?_|fail))
   refine aq rfl (fun hk4=>?_) (fun hk4=>?_)
   ·rw [if_pos (Iy hk4)] at hstep
    dsimp only [ret] at hstep
    repeat' (first|refine If ?_|refine IF a5 FN ?_|refine bG a5 ?_|fail)
    refine bJ a5 _ rfl rfl rfl rfl (ev (A:=[_,_])) (by simp [aZ];omega) (by simp [aZ];omega) rfl fun q'=>?_
    refine aJ (aI (ev (A:=[_,_])).symm) ?_
    repeat' (first|refine If ?_|refine IF a5 FN ?_|(apply aV;refine aU ?_)|fail)
    exact aD (i+1,q',some (b',cs',cap')) rfl ⟨by rw [Iv];rfl,by rw [hstep];dsimp only;rw [show aT (st.1.2++[(i:Int)])=aT st.1.2++[[aF (i:Int)]] from List.map_append ..];rfl,trivial⟩ ⟨by dsimp only;omega,by rw [hstep];exact hrow⟩ (by dsimp only;omega) (fun _ _ h=>by dsimp only;rw [hstep];dsimp only;rw [show aT (st.1.2++[(i:Int)])=aT st.1.2++[[aF (i:Int)]] from List.map_append ..];exact h)
   ·rw [if_neg (Ix hk4)] at hstep
    dsimp only [ret] at hstep
    repeat' (first|refine If ?_|refine IF a5 FN ?_|(apply aV;refine aU ?_)|fail)
    exact aD (i+1,q,some (b',cs',cap')) rfl ⟨by rw [Iv];rfl,by rw [hstep];rfl,trivial⟩ ⟨by dsimp only;omega,by rw [hstep];exact hrow⟩ (by dsimp only;omega) (fun _ _ h=>by dsimp only;rw [hstep];exact h)
 have hil:i=k:=by have:=Ix h;omega
 subst hil
 have hhd:=rj s i p1.2
 generalize e2:dX s i p1.2=st at hln ho hhd ⊢
 have hv:il s n m=eX s n st.1.2 st.1.1 i st.2:=by
  unfold il bX
  rw [e1]
  dsimp only
  rw [hkk,Int.toNat_natCast,e2]
 rw [hv]
 have hfi:=fun j=>Ah s hs n st.1.2 st.1.1 j st.2
 repeat' (first|refine If ?_|refine ak ?_|refine IF a5 FN ?_)
 refine bP (bM (L':=dG b s (gB F (yg i o)) st.2::(AU o++[])) (List.Sublist.cons_cons _ ((List.nil_sublist _).append_left _))) ?_
 rcases o with _ | ⟨ob,ocs,ocap⟩
 ·have hi0:i=0:=ho
  subst hi0
  refine aO [0,2,3] (α:=Unit) (fun _=>[(6,aF 0)]) (fun _=>True) (fun _=>[dG b s (gB F bF) st.2]) (fun _=>0) () rfl ⟨rfl,trivial⟩ trivial (fun _ _ h=>h) ?_
  intro _ _
  try dsimp only [Is,Ir,Iq,Ik]
  repeat' (first|refine If ?_|refine IF a5 FN ?_|refine bI rfl ?_)
  have hnil:(eX s n st.1.2 st.1.1 0 st.2).1=[]:=List.eq_nil_of_length_eq_zero (by rw [(hfi 0).1];exact hln.1)
  refine bf (bo 0 (cs':=Gz s (gB F (.imm 3 [])) st.2) rfl fun σ vs h=>cr (k:=5) (c:=bF) h rfl fun v hv=>gZ 3 hv) (cA rfl ?_)
  rw [hnil]
  rfl
 refine aO [0,2,3] (α:=Nat×List AV) (fun x=>[(6,aF x.1)]) (fun x=>x.1≤i∧wR i x.1 (eX s n st.1.2 st.1.1 x.1 st.2).1 (some (ob,x.2,ocap))) (fun x=>[dG b s (gB F (yg i (some (ob,ocs,ocap)))) (eX s n st.1.2 st.1.1 x.1 st.2).2,(ob,.box x.2 59)]) (fun x=>i - x.1) (0,ocs) rfl ⟨rfl,trivial⟩ ⟨Nat.zero_le _,ho⟩ (fun _ _ h=>h) ?_
 rintro ⟨j,cs⟩ ⟨hj,h1,h2,h3,h4⟩
 dsimp only at hj h1 h2 h3 h4 ⊢
 try dsimp only [Is,Ir,Iq,Ik]
 repeat' (first|refine If ?_|refine IF a5 FN ?_)
 refine aq rfl (fun h=>?_) (fun h=>?_)
 ·have hji:j < i:=by have:=Iy h;omega
  have hfj:=hfi j
  have hstep:eX s n st.1.2 st.1.1 (j+1) st.2=(match (eX s n st.1.2 st.1.1 j st.2).1[j]? with
   | none=>ret (eX s n st.1.2 st.1.1 j st.2).1
   | some q=>if q.Kind≥7 then ret (eX s n st.1.2 st.1.1 j st.2).1 else bX (dr s 3) fun c=>bX (eL s n q.Kind st.1.2 (1+c).toNat) fun rs=>ret ((eX s n st.1.2 st.1.1 j st.2).1.set j { q with Rules:=rs })) (eX s n st.1.2 st.1.1 j st.2).2:=rfl
  generalize eX s n st.1.2 st.1.1 j st.2=T at hfj h4 hstep ⊢
  have hTl:T.1.length=i:=by rw [hfj.1];exact hln.1
  obtain ⟨q,hq⟩:∃q,T.1[j]?=some q:=⟨_,Iz (by omega)⟩
  have hq2:st.1.1[j]?=some q:=by rw [←hfj.2 j (Nat.le_refl _)];exact hq
  have hqm:=Iw hq2
  have hqk:=hhd.kinds q hqm
  have hqn:=hhd.none q hqm
  rw [hq] at hstep
  dsimp only at hstep
  have hcell:∀c,c < 3→cs[j * 3+c]?=(fh j j q)[c]?:=fun c hc=>by
   have e:=sf j T.1 0 j c hc
   rw [hq,Option.bind_some,Nat.zero_add,←h4,List.getElem?_take,if_pos (by omega)] at e
   exact e
  have hP:∀c,0+((j:Int)).toNat * 3+c=j * 3+c:=fun c=>by rw [Int.toNat_natCast];omega
  have hc0:cs[0+((j:Int)).toNat * 3+0]?=some (aF q.Kind):=by rw [hP];exact hcell 0 (by omega)
  have hc2:cs[0+((j:Int)).toNat * 3+2]?=some bF:=by
   rw [hP,hcell 2 (by omega)]
   simp [fh]
  have hPl:0+((j:Int)).toNat * 3+2 < cs.length:=(Ip hc2).1
  repeat' (first|refine If ?_|refine ak ?_|refine IF a5 FN ?_|(apply bw;first|refine II a5 0 IC ?_|refine II a5 1 IC ?_|refine II a5 2 IC ?_|refine II a5 3 IC ?_|refine IJ a5 0 IC ?_|refine IJ a5 1 IC ?_|refine IJ a5 2 IC ?_|refine IK a5 1 IA (by assumption) rfl ?_|refine IK a5 0 IA (by assumption) rfl ?_|fail)|(apply aS;first|refine aR a5 ?_|refine aH a5 ?_)|fail)
  refine aq rfl (fun h7=>?_) (fun h7=>?_)
  ·have h7:=Iy h7
   rw [if_pos (show q.Kind≥7 from h7)] at hstep
   repeat' (first|refine If ?_|refine IF a5 FN ?_|(apply aV;refine aU ?_)|fail)
   refine bf (bo 1 (cs':=cs.set (0+((j:Int)).toNat * 3+2) (.imm 6 [])) rfl fun σ vs h=>cr h hc2 fun v hv=>gZ 6 hv) ?_
   exact aD (j+1,cs.set (0+((j:Int)).toNat * 3+2) (.imm 6 [])) rfl ⟨by rw [Iv];rfl,trivial⟩ ⟨by dsimp only;omega,by dsimp only;rw [List.length_set];exact h1,h2,h3,by rw [hstep,hP];dsimp only [ret];rw [List.take_set,h4];exact Dm hq hqn⟩ (by dsimp only;omega) (fun _ _ h=>by dsimp only;rw [hstep];exact h)
  have h7:=Ix h7
  rw [if_neg (show ¬q.Kind≥7 from h7)] at hstep
  unfold bX at hstep
  repeat' (first|refine If ?_|refine IF a5 FN ?_)
  refine cu ?_
  have hc:=cg s hs T.2.a (n:=3) (by omega)
  have hc:0≤(dr s 3 T.2).1∧(dr s 3 T.2).1 < 3:=hc
  generalize dr s 3 T.2=p2 at hc hstep ⊢
  dsimp only at hstep
  obtain ⟨c,hcc⟩:∃k:Nat,1+p2.1=k:=⟨(1+p2.1).toNat,by omega⟩
  rw [hcc,Int.toNat_natCast] at hstep
  repeat' (first|refine If ?_|refine ak ?_|refine IF a5 FN ?_|(apply aV;refine aU ?_)|fail)
  rw [hcc]
  refine bP (bo 1 (cs':=cs.set (0+((j:Int)).toNat * 3+2) (.vec none 6 [])) rfl fun σ vs h=>cr h hc2 fun v hv=>cJ 6 hv) ?_
  refine aO [0,2,3,6,7] (α:=Nat×Option (Nat×Nat)) (fun x=>[(8,aF x.1)]) (fun x=>x.1≤c) (fun x=>[dG b s (gB F (yg i (some (ob,ocs,ocap)))) (eL s n q.Kind st.1.2 x.1 p2.2).2,(ob,.box (cs.set (0+((j:Int)).toNat * 3+2) (.vec x.2 6 ((eL s n q.Kind st.1.2 x.1 p2.2).1.map bA))) 59)]++(tok x.2 79 6 ((eL s n q.Kind st.1.2 x.1 p2.2).1.map bA).length++[])) (fun x=>c - x.1) (0,none) rfl ⟨rfl,trivial⟩ (Nat.zero_le _) (fun _ _ h=>h) ?_
  rintro ⟨r,qv⟩ hr
  dsimp only at hr ⊢
  have hrl:=w7 s hs n q.Kind st.1.2 r p2.2
  have hrs:eL s n q.Kind st.1.2 (r+1) p2.2=((eL s n q.Kind st.1.2 r p2.2).1++[(gp s n q.Kind st.1.2 (eL s n q.Kind st.1.2 r p2.2).2).1],(gp s n q.Kind st.1.2 (eL s n q.Kind st.1.2 r p2.2).2).2):=rfl
  try dsimp only [Is,Ir,Iq,Ik]
  repeat' (first|refine If ?_|refine IF a5 FN ?_)
  refine aq rfl (fun h=>?_) (fun h=>?_)
  ·have hrc:r < c:=by have:=Iy h;omega
   generalize eL s n q.Kind st.1.2 r p2.2=R at hrl hrs ⊢
   have hset:(cs.set (0+((j:Int)).toNat * 3+2) (.vec qv 6 (R.1.map bA)))[0+((j:Int)).toNat * 3+2]?=some (.vec qv 6 (R.1.map bA)):=List.getElem?_set_self hPl
   have hset0:(cs.set (0+((j:Int)).toNat * 3+2) (.vec qv 6 (R.1.map bA)))[0+((j:Int)).toNat * 3+0]?=some (aF q.Kind):=by rw [List.getElem?_set_ne (by omega)];exact hc0
   have hRl:(R.1.map bA).length=R.1.length:=Iu ..
   repeat' (first|refine If ?_|refine ak ?_)
   refine d7 [.cell (b,5,yg i (some (ob,ocs,ocap))),.cell (ob,0+((j:Int)).toNat * 3+2,.vec qv 6 (R.1.map bA))] 29 [(0,.v),(1,.v),(2,.v),(3,.v),(4,.k),(5,.v),(6,.v),(7,.v),(8,.v),(9,.v),(10,.k),(11,.v),(12,.v),(13,.v),(14,.k),(15,.v),(16,.v),(17,.v),(18,.v),(19,.v),(20,.l),(21,.v),(22,.v),(23,.v),(24,.l),(25,.v),(26,.f),(27,.v),(28,.f)] none ?_ trivial rfl (by kernel_rfl) (by kernel_rfl) (by kernel_rfl) bT (by kernel_rfl) rfl
   have hkeep:∀m' Z,eB [.cell (b,5,yg i (some (ob,ocs,ocap))),.cell (ob,0+((j:Int)).toNat * 3+2,.vec qv 6 (R.1.map bA))] (dG b s (gB F (yg i (some (ob,ocs,ocap)))) m'::(ob,.box (cs.set (0+((j:Int)).toNat * 3+2) (.vec qv 6 (R.1.map bA))) 59)::Z):=fun m' Z=>bD 0 rfl rfl (bD 1 rfl hset bS)
   repeat' (first|refine aC ?_|refine b6 a5 ?_|fail)
   refine dx a5 0 rfl rfl rfl (hkeep _ _) (by first | trivial | rfl) ?_
   repeat' (first|refine aC ?_|refine b6 a5 ?_|fail)
   refine dx a5 0 rfl rfl rfl (hkeep _ _) (by first | trivial | rfl) ?_
   repeat' (first|refine aC ?_|refine b6 a5 ?_|fail)
   refine d8 a5 rfl rfl rfl (by omega) (by first | trivial | rfl) ?_
   repeat' (first|refine aC ?_|refine b6 a5 ?_|fail)
   refine dx a5 1 rfl rfl rfl (hkeep _ _) (by first | trivial | rfl) ?_
   repeat' (first|refine aC ?_|refine b6 a5 ?_|refine bZ a5 0 rfl rfl rfl rfl (by first|trivial|rfl) ?_)
   refine d8 a5 rfl rfl rfl (by omega) (by first | trivial | rfl) ?_
   repeat' (first|refine aC ?_|refine b6 a5 ?_|fail)
   refine bZ a5 1 rfl rfl rfl hset0 (by first | trivial | rfl) ?_
   repeat' (first|refine aC ?_|refine b6 a5 ?_|fail)
   refine qW (yM s hs (gB F (yg i (some (ob,ocs,ocap)))) hF n hn h0 q.Kind (by omega) st.1.2 (by omega)) (hkeep _ _) ?_
   generalize gp s n q.Kind st.1.2 R.2=y at hrs ⊢
   unfold Eu
   repeat' (first|refine aC ?_|refine dS a5 ?_|fail)
   refine xQ a5 _ rfl rfl rfl rfl (ev (A:=[_,_])) (by simp;omega) (by simp;omega) (hkeep _ _) (by first | trivial | rfl) fun q'=>?_
   refine IQ [0,2,3,6,7,8,70,71,94] FN ?_
   refine aJ (aI (ev (A:=[_,_])).symm) ?_
   repeat' (first|refine IF a5 FN ?_|(apply aS;first|refine aR a5 ?_|refine aH a5 ?_)|fail)
   refine aa a5 1 rfl rfl rfl rfl rfl rfl (by rw [Nat.ble_eq,List.length_set];exact hPl) ?_
   repeat' (first|refine If ?_|refine IF a5 FN ?_|(apply aV;refine aU ?_)|fail)
   exact aD (r+1,q') rfl ⟨by rw [Iv];rfl,trivial⟩ (by dsimp only;omega) (by dsimp only;omega) (fun _ _ h=>by dsimp only;rw [hrs];dsimp only;rw [List.map_append];simp only [f4,List.set_set] at h;exact h)
  have hrc:r=c:=by have:=Ix h;omega
  subst hrc
  generalize eL s n q.Kind st.1.2 r p2.2=R at hrl hstep ⊢
  have hset:(cs.set (0+((j:Int)).toNat * 3+2) (.vec qv 6 (R.1.map bA)))[0+((j:Int)).toNat * 3+2]?=some (.vec qv 6 (R.1.map bA)):=List.getElem?_set_self hPl
  repeat' (first|refine If ?_|refine IF a5 FN ?_|(apply aV;refine aU ?_)|fail)
  refine bf (bM (L':=[dG b s (gB F (yg i (some (ob,ocs,ocap)))) R.2,(ob,.box (cs.set (0+((j:Int)).toNat * 3+2) (.vec qv 6 (R.1.map bA))) 59)]) (List.Sublist.cons_cons _ (List.Sublist.cons_cons _ (List.nil_sublist _)))) ?_
  refine bf (bo 1 (cs':=(cs.set (0+((j:Int)).toNat * 3+2) (.vec qv 6 (R.1.map bA))).set (0+((j:Int)).toNat * 3+2) (.imm 6 (R.1.map bA))) rfl fun σ vs h=>cr h hset fun v hv=>VR.im hv) ?_
  rw [List.set_set]
  exact aD (j+1,cs.set (0+((j:Int)).toNat * 3+2) (.imm 6 (R.1.map bA))) rfl ⟨by rw [Iv];rfl,trivial⟩ ⟨by dsimp only;omega,by dsimp only;rw [List.length_set];exact h1,h2,h3,by rw [hstep,hP];dsimp only [ret];rw [List.take_set,h4];exact B3 hq⟩ (by dsimp only;omega) (fun _ _ h=>by dsimp only;rw [hstep];exact h)
 have hji:j=i:=by have:=Ix h;omega
 subst hji
 generalize hT:eX s n st.1.2 st.1.1 j st.2=T at h4 ⊢
 have hTl:T.1.length=j:=by rw [←hT,(hfi j).1];exact hln.1
 repeat' (first|refine If ?_|fail)
 refine bf (aI (List.Perm.swap _ _ _)) ?_
 refine bf (rN (k:=5) (n:=j) (cap:=ocap) (l:=T.1.map bC) rfl (by rw [h4,B0 _ _ _ (by omega)]) h1 (fun q hq=>by
  obtain ⟨x,_,rfl⟩:=List.mem_map.1 hq
  rfl) (by rw [Iu];exact hTl) h2 h3) ?_
 exact cA rfl rfl
end Go.Proofs.YtpmdfoaadejmkaaGreatDoor
namespace Go.Proofs.YtpmdfoaadejmkaaGreatDoor
variable (s:List Int)
def lq (a:dg):Int×Int:=(a.Kind,a.Class)
structure Cf (cl:Int) (mark:Bool) (l:List dg):Prop where
 sub:(l.map lq).Sublist (fX cl)
 at':∀a∈l,(0≤a.X∧a.X≤1000)∧(-200≤a.Y∧a.Y≤800)∧(a.Kind=2→mark=true)
theorem t8 {cl:Int} {i:Nat} (h:i < 5):(fX cl)[i]?=some ((fX cl).getD i (0,0)):=by
 rw [List.getD_eq_getElem?_getD,Iz (show i < (fX cl).length from h)]
 rfl
theorem t9 (mark:Bool) (cl:Int):bK (ez s mark cl 5) (Cf cl mark):=by
 refine (bK.runs (b:=[]) (fun i (l:List dg)=>(l.map lq).Sublist ((fX cl).take i)∧∀a∈l,(0≤a.X∧a.X≤1000)∧(-200≤a.Y∧a.Y≤800)∧(a.Kind=2→mark=true)) 5 ⟨List.nil_sublist _,fun a ha=>by cases ha⟩ fun i l hi ⟨h1,h2⟩=>(bK.any _).bnd fun z _=>bK.ite (fun h3=>(cH s (by omega)).bnd fun x hx=>(cH s (by omega)).bnd fun y hy=>bK.ret ⟨?_,fun a ha=>?_⟩) fun _=>bK.ret ⟨?_,h2⟩).mono fun l ⟨h1,h2⟩=>⟨h1,h2⟩
 ·rw [List.take_add_one,t8 hi,List.map_append]
  exact h1.append (List.Sublist.refl _)
 ·rcases Im ha with ha | ha
  ·exact h2 a ha
  ·rw [Il ha]
   refine ⟨by dsimp only;omega,by dsimp only;omega,fun hk=>?_⟩
   rcases h3.2 with h4 | h4
   ·exact absurd hk h4
   ·exact h4
 ·rw [List.take_add_one]
  exact h1.trans (List.sublist_append_left _ _)
def GW (a b:dw):Prop:=a.Region < b.Region∨(a.Region=b.Region∧a.Point < b.Point)
structure Ci (R pts:Nat) (l:List dw):Prop where
 up:l.Pairwise GW
 len:l.length≤R * (pts+1)
 dom:∀d∈l,(0≤d.Region∧d.Region < R)∧(-1≤d.Point∧d.Point < pts)∧(-20≤d.X∧d.X≤20)∧(-20≤d.Y∧d.Y≤20)∧(d.Point= -1→d.Y=0)
structure t0 (r p pts:Nat) (l:List dw):Prop where
 up:l.Pairwise GW
 len:l.length≤r * (pts+1)+p
 dom:∀d∈l,(0≤d.Region∧(d.Region < r∨(d.Region=r∧d.Point < (p:Int) - 1)))∧(-1≤d.Point∧d.Point < pts)∧(-20≤d.X∧d.X≤20)∧(-20≤d.Y∧d.Y≤20)∧(d.Point= -1→d.Y=0)
theorem t0.more {r p pts:Nat} {l:List dw} (h:t0 r p pts l):t0 r (p+1) pts l:=⟨h.up,by have:=h.len;omega,fun d hd=>by have:=h.dom d hd;omega⟩
theorem t0.add {r p pts:Nat} {l:List dw} (h:t0 r p pts l) {x y:Int} (hp:p≤pts) (hx: -20≤x∧x≤20) (hy: -20≤y∧y≤20) (h0:p=0→y=0):t0 r (p+1) pts (l++[⟨r,(p:Int) - 1,x,y⟩]):=by
 refine ⟨?_,by have:=h.len;simp;omega,fun d hd=>?_⟩
 ·rw [List.pairwise_append]
  refine ⟨h.up,List.pairwise_singleton ..,fun a ha b hb=>?_⟩
  rw [Il hb]
  have:=h.dom a ha
  unfold GW
  dsimp only
  omega
 ·rcases Im hd with hd | hd
  ·have:=h.dom d hd;omega
  ·rw [Il hd]
   dsimp only
   refine ⟨by omega,by omega,hx,hy,fun hq=>h0 (by omega)⟩
theorem pu (pts R:Nat):bK (fZ s pts R) (Ci R pts):=by
 refine (bK.runs (fun r l=>t0 r 0 pts l) R ⟨.nil,by simp,fun d hd=>by cases hd⟩ fun r l _ h=>?_).mono fun l h=>⟨h.up,h.len,fun d hd=>by have:=h.dom d hd;omega⟩
 refine (bK.runs (fun p l=>t0 r p pts l) (pts+1) h fun p l hp h=>(bK.any _).bnd fun z _=>bK.ite (fun _=>(cH s (by omega)).bnd fun x hx=>bK.ite (fun h0=>bK.ret ?_) fun h0=>(cH s (by omega)).bnd fun y hy=>bK.ret ?_) fun _=>bK.ret h.more).mono fun l h=>⟨h.up,by have:=h.len;rw [Nat.add_mul];omega,fun d hd=>by have:=h.dom d hd;omega⟩
 ·subst h0
  exact h.add (by omega) (by omega) (by omega) fun _=>rfl
 ·exact h.add (by omega) (by omega) (by omega) fun e=>absurd e h0
structure xm (R n:Nat) (g:bj):Prop where
 name:g.Name=cD n
 adv:100≤g.Advance∧g.Advance≤1000
 out:∃k,k≤2∧t1 k (g.Points,g.Ends)
 parts:g.Parts=[]∨(1 < n∧∃x y:Int,g.Parts=[⟨1,x,y⟩]∧(-200≤x∧x≤200)∧0≤y∧y≤200)
 anch:∃cl,(0≤cl∧cl < 2)∧Cf cl g.Mark g.Anchors
 dels:Ci R g.Points.length g.Deltas
 hint:i8 45 g.Hint
theorem y7 {R fn n:Nat} (hf:fn≤1000):bK (jH s R fn n) (xm R n):=by
 have hparts:bK (it s n) fun ps=>ps=[]∨(1 < n∧∃x y:Int,ps=[⟨1,x,y⟩]∧(-200≤x∧x≤200)∧0≤y∧y≤200):=by
  refine bK.ite (fun h1=>(bK.any _).bnd fun z _=>bK.ite (fun _=>(cH s (by omega)).bnd fun x hx=>(cH s (by omega)).bnd fun y hy=>bK.ret (.inr ⟨h1,_,_,rfl,by omega,by omega⟩)) fun _=>bK.ret (.inl rfl)) fun _=>bK.ret (.inl rfl)
 refine (cH s (by omega)).bnd fun ad had=>(bK.any _).bnd fun mk _=>(od s).bnd fun o ho=>hparts.bnd fun ps hps=>(cH s (by omega)).bnd fun cl hcl=>(t9 s _ cl).bnd fun an han=>(pu s _ R).bnd fun de hde=>(bK.any _).bnd fun _ _=>?_
 have hl:o.1.length≤10:=by obtain ⟨k,h1,h2⟩:=ho;have:=h2.len;omega
 exact (tS s (n:=o.1.length) (funcs:=fn) (most:=6) (by omega) (by omega) (by omega)).bnd fun h hh=>bK.ret ⟨rfl,by dsimp only;omega,ho,hps,⟨cl,hcl,han⟩,hde,hh⟩
def nI (t:eO):Prop:=rL 0 t=0
structure fL (f:aY):Prop where
  unit:16≤f.Unit∧f.Unit≤4096
  glyN:2≤f.Glyphs.length∧f.Glyphs.length≤10
  gly:∀(i:Nat) g,f.Glyphs[i]?=some g→xm f.Regions.length i g
  chars:f.Chars.length≤16
  charR:(f.Chars.map fV.Rune).Sublist fJ
  charG:∀c∈f.Chars,0≤c.Glyph∧c.Glyph < f.Glyphs.length
  looks:za f.Glyphs.length f.Lookups
  featN:(f.Features.map bV.Name).Sublist fI
  featL:∀t∈f.Features,t.Lookups.Pairwise (· < ·)∧t.Lookups.length≤6∧∀z∈t.Lookups,0≤z∧z < f.Lookups.length
  axes:f.Axes.length≤2
  axisN:f.Axes.map ee.Name=(List.range f.Axes.length).map (iP tl)
  axis:∀a∈f.Axes,(-200≤a.Min∧a.Min≤0)∧a.Def=0∧0≤a.Max∧a.Max≤300
  regs:f.Regions.length≤3
  reg:∀r∈f.Regions,r.length=f.Axes.length∧∀t∈r,nI t
  funcs:f.Funcs.length≤2
  func:∀c∈f.Funcs,i8 45 c
  cvt:f.Cvt.length≤3
  cvtM:∀z∈f.Cvt,-100≤z∧z < 400
theorem tO {α:Type} {l:List α} {i:Nat} (h:i < l.length) (d:α):l.getD i d∈l:=by
 rw [List.getD_eq_getElem?_getD,Iz h]
 exact List.getElem_mem h
theorem l6 {α:Type} {l:List α} {i:Nat} (h:i < l.length) (d:α):l[i]?=some (l.getD i d):=by
 rw [List.getD_eq_getElem?_getD,Iz h]
 rfl
theorem B8:bK (B7 s) fL:=by
  have hax:∀k:Nat,bK (kj s k) fun l=>l.length=k∧l.map ee.Name=(List.range k).map (iP tl)∧∀a∈l,(-200≤a.Min∧a.Min≤0)∧a.Def=0∧0≤a.Max∧a.Max≤300:=fun k=>by
    refine bK.runs (fun i (l:List ee)=>l.length=i∧l.map ee.Name=(List.range i).map (iP tl)∧∀a∈l,(-200≤a.Min∧a.Min≤0)∧a.Def=0∧0≤a.Max∧a.Max≤300) k ⟨rfl,rfl,fun a ha=>by cases ha⟩ fun i l _ ⟨h1,h2,h3⟩=>(cH s (by omega)).bnd fun a ha=>(cH s (by omega)).bnd fun b hb=>bK.ret ⟨by simp [h1],by simp [h2,List.range_succ],fun x hx=>?_⟩
    rcases Im hx with hx | hx
    · exact h3 x hx
    · rw [Il hx];dsimp only;omega
  have hrg:∀k:Nat,bK (fB s k) fun l=>l.length≤3∧∀r∈l,r.length=k∧∀t∈r,nI t:=fun k=>by
    refine bK.ite (fun _=>bK.ret ⟨Nat.zero_le _,fun r hr=>by cases hr⟩) fun _=>(cH s (by omega)).bnd fun n hn=>?_
    refine (bK.runs (fun i (l:List (List eO))=>l.length=i∧∀r∈l,r.length=k∧∀t∈r,nI t) n.toNat ⟨rfl,fun a ha=>by cases ha⟩ fun i l _ ⟨h1,h2⟩=>?_).mono fun l ⟨h1,h2⟩=>⟨by omega,h2⟩
    refine (bK.runs (fun i (r:List eO)=>r.length=i∧∀t∈r,nI t) k ⟨rfl,fun a ha=>by cases ha⟩ fun i r _ ⟨h1,h2⟩=>(cH s (by omega)).bnd fun z hz=>bK.ret ⟨by simp [h1],fun x hx=>?_⟩).bnd fun r hr=>bK.ret ⟨by simp [h1],fun x hx=>?_⟩
    · rcases Im hx with hx | hx
      · exact h2 x hx
      · rw [Il hx]
        have:∀t∈jQ,nI t:=by unfold nI;decide
        exact this _ (tO (by simp only [jQ,List.length_cons,List.length_nil];omega) _)
    · rcases Im hx with hx | hx
      · exact h2 x hx
      · rw [Il hx];exact hr
  have hfu:∀k:Nat,k≤1000→bK (ie s k) fun l=>l.length=k∧∀c∈l,i8 45 c:=fun k hk=>by
    refine bK.runs (fun i (l:List (List fS))=>l.length=i∧∀c∈l,i8 45 c) k ⟨rfl,fun a ha=>by cases ha⟩ fun i l hi ⟨h1,h2⟩=>(bK.any _).bnd fun _ _=>(tS s (by omega) (by omega) (by omega)).bnd fun h hh=>bK.ret ⟨by simp [h1],fun x hx=>?_⟩
    rcases Im hx with hx | hx
    · exact h2 x hx
    · rw [Il hx];exact hh
  have hcv:∀k:Nat,bK (pp s k) fun l=>l.length=k∧∀z∈l,-100≤z∧z < 400:=fun k=>by
    refine bK.runs (fun i (l:List Int)=>l.length=i∧∀z∈l,-100≤z∧z < 400) k ⟨rfl,fun a ha=>by cases ha⟩ fun i l hi ⟨h1,h2⟩=>(cH s (by omega)).bnd fun z hz=>bK.ret ⟨by simp [h1],fun x hx=>?_⟩
    rcases Im hx with hx | hx
    · exact h2 x hx
    · rw [Il hx];omega
  have hgl:∀R fn k:Nat,fn≤1000→bK (g8 s R fn k) fun l=>l.length=k∧∀(i:Nat) g,l[i]?=some g→xm R i g:=fun R fn k hf=>by
    refine bK.runs (fun i (l:List bj)=>l.length=i∧∀(j:Nat) g,l[j]?=some g→xm R j g) k ⟨rfl,fun j g h=>by simp at h⟩ fun i l hi ⟨h1,h2⟩=>(y7 s hf).bnd fun g hg=>bK.ret ⟨by simp [h1],fun j x hx=>?_⟩
    rcases Nat.lt_or_ge j l.length with h | h
    · rw [List.getElem?_append_left h] at hx
      exact h2 j x hx
    · have hj:=(Ip hx).1
      have:j=l.length:=by simp at hj;omega
      subst this
      rw [List.getElem?_append_right (Nat.le_refl _),Nat.sub_self] at hx
      cases hx
      rw [h1]
      exact hg
  have hch:∀n:Int,0 < n→bK (gL s n 16) fun l=>(l.map fV.Rune).Sublist fJ∧∀c∈l,0≤c.Glyph∧c.Glyph < n:=fun n hn=>by
    refine (bK.runs (b:=[]) (fun i (l:List fV)=>(l.map fV.Rune).Sublist (fJ.take i)∧∀c∈l,0≤c.Glyph∧c.Glyph < n) 16 ⟨List.nil_sublist _,fun a ha=>by cases ha⟩ fun i l hi ⟨h1,h2⟩=>(bK.any _).bnd fun z _=>bK.ite (fun _=>(cH s hn).bnd fun g hg=>bK.ret ⟨?_,fun x hx=>?_⟩) fun _=>bK.ret ⟨?_,h2⟩).mono fun l h=>h
    · rw [List.take_add_one,l6 (l:=fJ) (i:=i) hi 0,List.map_append]
      exact h1.append (List.Sublist.refl _)
    · rcases Im hx with hx | hx
      · exact h2 x hx
      · rw [Il hx];exact hg
    · rw [List.take_add_one]
      exact h1.trans (List.sublist_append_left _ _)
  have hft:∀n:Nat,n≤6→bK (gN s n 8) fun l=>(l.map bV.Name).Sublist fI∧∀t∈l,t.Lookups.Pairwise (· < ·)∧t.Lookups.length≤6∧∀z∈t.Lookups,0≤z∧z < n:=fun n hn=>by
    have hask:bK (n8 s n) fun l=>l.Pairwise (· < ·)∧l.length≤n∧∀z∈l,0≤z∧z < n:=by
      refine bK.runs (fun i (l:List Int)=>l.Pairwise (· < ·)∧l.length≤i∧∀z∈l,0≤z∧z < i) n ⟨.nil,Nat.le_refl _,fun a ha=>by cases ha⟩ fun i l hi ⟨h1,h2,h3⟩=>(bK.any _).bnd fun z _=>bK.ret ?_
      split
      · refine ⟨?_,by simp;omega,fun x hx=>?_⟩
        · rw [List.pairwise_append]
          exact ⟨h1,List.pairwise_singleton ..,fun a ha b hb=>by rw [Il hb];have:=h3 a ha;omega⟩
        · rcases Im hx with hx | hx
          · have:=h3 x hx;omega
          · rw [Il hx];omega
      · exact ⟨h1,by omega,fun x hx=>by have:=h3 x hx;omega⟩
    refine (bK.runs (b:=[]) (fun i (l:List bV)=>(l.map bV.Name).Sublist (fI.take i)∧∀t∈l,t.Lookups.Pairwise (· < ·)∧t.Lookups.length≤6∧∀z∈t.Lookups,0≤z∧z < n) 8 ⟨List.nil_sublist _,fun a ha=>by cases ha⟩ fun i l hi ⟨h1,h2⟩=>hask.bnd fun r hr=>(bK.any _).bnd fun z _=>bK.ret ?_).mono fun l h=>h
    split
    · refine ⟨?_,fun x hx=>?_⟩
      · rw [List.take_add_one,l6 (l:=fI) (i:=i) hi ByteArray.empty,List.map_append]
        exact h1.append (List.Sublist.refl _)
      · rcases Im hx with hx | hx
        · exact h2 x hx
        · rw [Il hx];exact ⟨hr.1,by have:=hr.2.1;dsimp only;omega,hr.2.2⟩
    · rw [List.take_add_one]
      exact ⟨h1.trans (List.sublist_append_left _ _),h2⟩
  refine (cH s (by omega)).bnd fun u hu=>(cH s (by omega)).bnd fun k hk=>(hax _).bnd fun ax ⟨ha1,ha2,ha3⟩=>(hrg _).bnd fun rg ⟨hr1,hr2⟩=>(cH s (by omega)).bnd fun k2 hk2=>(hfu _ (by omega)).bnd fun fu ⟨hf1,hf2⟩=>(cH s (by omega)).bnd fun k3 hk3=>(hcv _).bnd fun cv ⟨hc1,hc2⟩=>(cH s (by omega)).bnd fun k4 hk4=>(hgl _ _ _ (by omega)).bnd fun gl ⟨hg1,hg2⟩=>(hch gl.length (by omega)).bnd fun ch ⟨hh1,hh2⟩=>(o8 s (n:=gl.length) (by omega)).bnd fun lk hlk=>(hft lk.length hlk.len).bnd fun ft ⟨ht1,ht2⟩=>bK.ret ?_
  refine ⟨?_,by dsimp only;omega,hg2,?_,hh1,hh2,hlk,ht1,ht2,by dsimp only;omega,by dsimp only;rw [ha1];exact ha2,ha3,hr1,fun r hr=>⟨by dsimp only;rw [ha1];exact (hr2 r hr).1,(hr2 r hr).2⟩,by dsimp only;omega,hf2,by dsimp only;omega,hc2⟩
  · have:∀j < 4,16≤lV.getD j 0∧lV.getD j 0≤4096:=by decide
    exact this _ (by omega)
  · have:=hh1.length_le
    simpa [fJ] using this
theorem oP:fL (jY s):=B8 s ⟨0,0⟩
end Go.Proofs.YtpmdfoaadejmkaaGreatDoor
