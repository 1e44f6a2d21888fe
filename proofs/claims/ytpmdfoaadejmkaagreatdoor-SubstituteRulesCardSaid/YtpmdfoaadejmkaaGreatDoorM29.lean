/-
  The maker: lookups.
-/
import Derived.Test.YtpmdfoaadejmkaaGreatDoorM28
import Derived.Test.YtpmdfoaadejmkaaGreatDoorM27
namespace Go.Proofs.YtpmdfoaadejmkaaGreatDoor
open Go.RowKit
attribute [local irreducible] AT bJ AX AO Av Kt bi dq DA cG
variable (s:List Int) (hs:s.length≤1000000) (F:MF)
include hs
theorem xv (k:Nat) (m:MS):(eH s k m).1.1.length=k∧(eH s k m).1.2.length≤k:=by
 have _:=hs
 clear hs
 induction k with
 | zero=>exact ⟨rfl,Nat.le_refl _⟩
 | succ k ih=>
  have:eH s (k+1) m=(cn (dr s 10) fun z=>cn (dr s 3) fun y=>ret ((eH s k m).1.1++[(⟨fN.getD z.toNat 0,decide (y=0),[]⟩:aL)],if fN.getD z.toNat 0≤4 then (eH s k m).1.2++[(k:Int)] else (eH s k m).1.2)) (eH s k m).2:=rfl
  rw [this]
  simp only [cn,ret]
  refine ⟨by simp [ih.1],?_⟩
  split
  ·simp;omega
  ·omega
theorem CH (n:Int) (calls:List Int) (l:List aL) (k:Nat) (m:MS):(fy s n calls l k m).1.length=l.length∧∀j,k≤j→(fy s n calls l k m).1[j]?=l[j]?:=by
 have _:=hs
 clear hs
 induction k with
 | zero=>exact ⟨rfl,fun j _=>rfl⟩
 | succ k ih=>
  have:fy s n calls l (k+1) m=(match (fy s n calls l k m).1[k]? with
   | none=>ret (fy s n calls l k m).1
   | some q=>if q.Kind≥7 then ret (fy s n calls l k m).1 else cn (dr s 3) fun c=>cn (fi s n q.Kind calls (1+c).toNat) fun rs=>ret ((fy s n calls l k m).1.set k { q with Rules:=rs })) (fy s n calls l k m).2:=rfl
  rw [this]
  cases hq:(fy s n calls l k m).1[k]? with
  | none=>exact ⟨ih.1,fun j hj=>ih.2 j (by omega)⟩
  | some q=>
   dsimp only
   by_cases h7:q.Kind≥7
   ·rw [if_pos h7]
    exact ⟨ih.1,fun j hj=>ih.2 j (by omega)⟩
   ·rw [if_neg h7]
    simp only [cn,ret]
    refine ⟨by rw [List.length_set];exact ih.1,fun j hj=>?_⟩
    rw [List.getElem?_set_ne (by omega)]
    exact ih.2 j (by omega)
theorem y5 (n kind:Int) (calls:List Int) (k:Nat) (m:MS):(fi s n kind calls k m).1.length=k:=by
 have _:=hs
 clear hs
 induction k with
 | zero=>rfl
 | succ k ih=>
  have:fi s n kind calls (k+1) m=((fi s n kind calls k m).1++[(gP s n kind calls (fi s n kind calls k m).2).1],(gP s n kind calls (fi s n kind calls k m).2).2):=rfl
  rw [this]
  simp [ih]
abbrev i5 (F:MF) (v:AV):MF:={ F with lk:=v }
set_option maxHeartbeats 16000000 in
theorem xG {kg:Option (Nat×Nat)} {gl:List (List AV)} (hF:F.gl= .vec kg 9 gl) (hl:F.lk=bX) (n:Nat) (hn:gl.length=n) (h0:0 < n∧n≤1000) (b:Nat) (m:MS):AC Tryz.prog 93 [Eu b] [eo b s F m] fun _ L=>L=[eo b s (i5 F (.imm 3 ((j6 s n m).1.map bw))) (j6 s n m).2]:=by
 refine aN Tryz.func93 rfl Tryz.ntmps93 rfl fun B=>?_
 repeat' (first|refine L3 ?_|refine KG a4 HY ?_)
 refine cL ?_
 have hk:=cB s hs m.a (n:=7) (by omega)
 have hk:0≤(dr s 7 m).1∧(dr s 7 m).1 < 7:=hk
 generalize e1:dr s 7 m=p1 at hk ⊢
 obtain ⟨k,hkk⟩:∃k:Nat,p1.1=k:=⟨p1.1.toNat,by omega⟩
 rw [hkk]
 have hFF:F=i5 F bX:=by
  cases F
  simp only at hl
  rw [hl]
 rw [hFF]
 repeat' (first|refine L3 ?_|refine ak ?_|refine KG a4 HY ?_)
 refine c8 (bS (t:=3) (c':= .vec none 1 []) rfl fun σ v h=>d5 1 h) ?_
 refine aR [0,2] (α:=Nat×Option (Nat×Nat)×Option (Nat×List AV×Nat)) (fun x=>[(4,aF x.1),(3,.vec x.2.1 1 (aW (eH s x.1 p1.2).1.2))]) (fun x=>x.1≤k∧yT x.1 0 (eH s x.1 p1.2).1.1 x.2.2) (fun x=>eo b s (i5 F (Az x.1 x.2.2)) (eH s x.1 p1.2).2::(Db x.2.2++(tok x.2.1 3 1 (aW (eH s x.1 p1.2).1.2).length++[]))) (fun x=>k - x.1) (0,none,none) rfl ⟨rfl,rfl,trivial⟩ ⟨Nat.zero_le _,rfl⟩ (fun _ _ h=>by simpa [eH,il,ret,tok,aW,Db,Az] using h) ?_
 rintro ⟨i,q,o⟩ ⟨hi,ho⟩
 dsimp only at hi ho ⊢
 have hln:=xv s hs i p1.2
 try dsimp only [Kr,Kq,Kp,Lv]
 repeat' (first|refine L3 ?_|refine KG a4 HY ?_)
 refine aw rfl (fun h=>?_) (fun h=>?_)
 ·have hil:i < k:=by have:=Ky h;omega
  have hstep:eH s (i+1) p1.2=(cn (dr s 10) fun z=>cn (dr s 3) fun y=>ret ((eH s i p1.2).1.1++[(⟨fN.getD z.toNat 0,decide (y=0),[]⟩:aL)],if fN.getD z.toNat 0≤4 then (eH s i p1.2).1.2++[(i:Int)] else (eH s i p1.2).1.2)) (eH s i p1.2).2:=rfl
  generalize eH s i p1.2=st at hln ho hstep ⊢
  have hil2:(aW st.1.2).length=st.1.2.length:=bb _
  repeat' (first|refine L3 ?_|refine ak ?_|refine KG a4 HY ?_|refine bW a4 ?_|fail)
  refine cL ?_
  have hz:=cB s hs st.2.a (n:=10) (by omega)
  have hz:0≤(dr s 10 st.2).1∧(dr s 10 st.2).1 < 10:=hz
  unfold cn at hstep
  generalize dr s 10 st.2=z at hz hstep ⊢
  dsimp only at hstep
  have hzk:(aW fN)[z.1.toNat]?=some [aF (fN.getD z.1.toNat 0)]:=bP (by rw [List.getD_eq_getElem?_getD,Kz (show z.1.toNat < fN.length by simp [fN];omega)];rfl)
  generalize hkd:fN.getD z.1.toNat 0=kd at hzk hstep
  repeat' (first|refine L3 ?_|refine KG a4 HY ?_|(apply aQ;first|refine aO a4 ?_|refine aG a4 ?_)|fail)
  refine dC [.cell (b,5,Az i o)] 13 [(0,.v),(1,.v),(2,.v),(3,.v),(4,.v),(5,.k),(6,.v),(7,.v),(8,.f),(9,.v),(10,.v),(11,.v),(12,.e)] none ?_ trivial rfl (by kernel_rfl) (by kernel_rfl) (by kernel_rfl) bI (by kernel_rfl) rfl
  repeat' (first|refine aB ?_|refine aX a4 ?_|fail)
  refine dY a4 0 rfl rfl rfl (bR 0 rfl rfl cj) (by first | trivial | rfl) ?_
  repeat' (first|refine aB ?_|refine aX a4 ?_|fail)
  refine eT (bR 0 rfl rfl cj) ?_
  generalize dr s 3 z.2=y at hstep ⊢
  repeat' (first|refine aB ?_|refine aX a4 ?_|refine eD a4 ?_|fail)
  have hst1:st.1.1.length=i:=hln.1
  rcases o with _ | ⟨ob,ocs,ocap⟩
  ·have hi0:i=0:=ho
   subst hi0
   refine xd a4 rfl rfl rfl rfl rfl rfl rfl (by first | trivial | rfl) fun b' cs' cap' h1 h2 h3 h4=>?_
   have hrow:yT (0+1) 0 (st.1.1++[⟨kd,decide (y.1=0),[]⟩]) (some (b',cs',cap')):=by
    refine ⟨h1,by omega,h4,?_⟩
    rw [List.eq_nil_of_length_eq_zero (by omega:st.1.1.length=0)]
    exact h2
   refine KU [0,2,3,4,5,21,33] HY ?_
   refine aP (aI (L':=eo b s (i5 F (Az 0 none)) y.2::(Db (some (b',cs',cap'))++(tok q 3 1 (aW st.1.2).length++[]))) (List.Perm.swap _ _ _)) ?_
   repeat' (first|refine L3 ?_|refine KG a4 HY ?_|(apply aM;first|refine KH a4 0 KE ?_|refine KH a4 1 KE ?_|refine KH a4 2 KE ?_|refine KH a4 3 KE ?_|fail))
   refine aw rfl (fun hk4=>?_) (fun hk4=>?_)
   ·rw [if_pos (Ky hk4)] at hstep
    dsimp only [ret] at hstep
    repeat' (first|refine L3 ?_|refine KG a4 HY ?_|refine bW a4 ?_|fail)
    refine bV a4 _ rfl rfl rfl rfl (eV (A:=[_,_])) (by simp [bb];omega) (by simp [bb];omega) rfl fun q'=>?_
    refine aP (aI (eV (A:=[_,_])).symm) ?_
    repeat' (first|refine L3 ?_|refine KG a4 HY ?_|(apply aU;refine aT ?_)|fail)
    exact aD (0+1,q',some (b',cs',cap')) rfl ⟨rfl,by rw [hstep];dsimp only;rw [show aW (st.1.2++[((0:Nat):Int)])=aW st.1.2++[[aF ((0:Nat):Int)]] from List.map_append ..];rfl,trivial⟩ ⟨by dsimp only;omega,by rw [hstep];exact hrow⟩ (by dsimp only;omega) (fun _ _ h=>by dsimp only;rw [hstep];dsimp only;rw [show aW (st.1.2++[((0:Nat):Int)])=aW st.1.2++[[aF ((0:Nat):Int)]] from List.map_append ..];exact h)
   ·rw [if_neg (Kx hk4)] at hstep
    dsimp only [ret] at hstep
    repeat' (first|refine L3 ?_|refine KG a4 HY ?_|(apply aU;refine aT ?_)|fail)
    exact aD (0+1,q,some (b',cs',cap')) rfl ⟨rfl,by rw [hstep];rfl,trivial⟩ ⟨by dsimp only;omega,by rw [hstep];exact hrow⟩ (by dsimp only;omega) (fun _ _ h=>by dsimp only;rw [hstep];exact h)
  ·obtain ⟨ho1,ho2,ho3,ho4⟩:=ho
   refine A5 a4 1 rfl rfl rfl rfl rfl rfl rfl ho1 ho2 ho3 (by unfold maxLen;omega) (by omega) (by first | trivial | rfl) fun b' cs' cap' h1 h2 h3 h4=>?_
   have hrow:yT (i+1) 0 (st.1.1++[⟨kd,decide (y.1=0),[]⟩]) (some (b',cs',cap')):=by
    refine ⟨h1,h3,h4,?_⟩
    rw [h2,ho4,yU]
    rfl
   refine KU [0,2,3,4,5,21,33] HY ?_
   refine aP (aI (L':=eo b s (i5 F (Az i (some (ob,ocs,ocap)))) y.2::(Db (some (b',cs',cap'))++(tok q 3 1 (aW st.1.2).length++[]))) (List.Perm.swap _ _ _)) ?_
   repeat' (first|refine L3 ?_|refine KG a4 HY ?_|(apply aM;first|refine KH a4 0 KE ?_|refine KH a4 1 KE ?_|refine KH a4 2 KE ?_|refine KH a4 3 KE ?_|fail))
   refine aw rfl (fun hk4=>?_) (fun hk4=>?_)
   ·rw [if_pos (Ky hk4)] at hstep
    dsimp only [ret] at hstep
    repeat' (first|refine L3 ?_|refine KG a4 HY ?_|refine bW a4 ?_|fail)
    refine bV a4 _ rfl rfl rfl rfl (eV (A:=[_,_])) (by simp [bb];omega) (by simp [bb];omega) rfl fun q'=>?_
    refine aP (aI (eV (A:=[_,_])).symm) ?_
    repeat' (first|refine L3 ?_|refine KG a4 HY ?_|(apply aU;refine aT ?_)|fail)
    exact aD (i+1,q',some (b',cs',cap')) rfl ⟨by rw [Kv];rfl,by rw [hstep];dsimp only;rw [show aW (st.1.2++[(i:Int)])=aW st.1.2++[[aF (i:Int)]] from List.map_append ..];rfl,trivial⟩ ⟨by dsimp only;omega,by rw [hstep];exact hrow⟩ (by dsimp only;omega) (fun _ _ h=>by dsimp only;rw [hstep];dsimp only;rw [show aW (st.1.2++[(i:Int)])=aW st.1.2++[[aF (i:Int)]] from List.map_append ..];exact h)
   ·rw [if_neg (Kx hk4)] at hstep
    dsimp only [ret] at hstep
    repeat' (first|refine L3 ?_|refine KG a4 HY ?_|(apply aU;refine aT ?_)|fail)
    exact aD (i+1,q,some (b',cs',cap')) rfl ⟨by rw [Kv];rfl,by rw [hstep];rfl,trivial⟩ ⟨by dsimp only;omega,by rw [hstep];exact hrow⟩ (by dsimp only;omega) (fun _ _ h=>by dsimp only;rw [hstep];exact h)
 have hil:i=k:=by have:=Kx h;omega
 subst hil
 have hhd:=t4 s i p1.2
 generalize e2:eH s i p1.2=st at hln ho hhd ⊢
 have hv:j6 s n m=fy s n st.1.2 st.1.1 i st.2:=by
  unfold j6 cn
  rw [e1]
  dsimp only
  rw [hkk,Int.toNat_natCast,e2]
 rw [hv]
 have hfi:=fun j=>CH s hs n st.1.2 st.1.1 j st.2
 repeat' (first|refine L3 ?_|refine ak ?_|refine KG a4 HY ?_)
 refine c8 (c6 (L':=eo b s (i5 F (Az i o)) st.2::(Db o++[])) (List.Sublist.cons_cons _ ((List.nil_sublist _).append_left _))) ?_
 rcases o with _ | ⟨ob,ocs,ocap⟩
 ·have hi0:i=0:=ho
  subst hi0
  refine aR [0,2,3] (α:=Unit) (fun _=>[(6,aF 0)]) (fun _=>True) (fun _=>[eo b s (i5 F bX) st.2]) (fun _=>0) () rfl ⟨rfl,trivial⟩ trivial (fun _ _ h=>h) ?_
  intro _ _
  try dsimp only [Kr,Kq,Kp,Lv]
  repeat' (first|refine L3 ?_|refine KG a4 HY ?_|refine bE rfl ?_)
  have hnil:(fy s n st.1.2 st.1.1 0 st.2).1=[]:=List.eq_nil_of_length_eq_zero (by rw [(hfi 0).1];exact hln.1)
  refine bj (bG 0 (cs':=IL s (i5 F (.imm 3 [])) st.2) rfl fun σ vs h=>cI (k:=5) (c:=bX) h rfl fun v hv=>i9 3 hv) (ca rfl ?_)
  rw [hnil]
  rfl
 refine aR [0,2,3] (α:=Nat×List AV) (fun x=>[(6,aF x.1)]) (fun x=>x.1≤i∧yT i x.1 (fy s n st.1.2 st.1.1 x.1 st.2).1 (some (ob,x.2,ocap))) (fun x=>[eo b s (i5 F (Az i (some (ob,ocs,ocap)))) (fy s n st.1.2 st.1.1 x.1 st.2).2,(ob,.box x.2 59)]) (fun x=>i - x.1) (0,ocs) rfl ⟨rfl,trivial⟩ ⟨Nat.zero_le _,ho⟩ (fun _ _ h=>h) ?_
 rintro ⟨j,cs⟩ ⟨hj,h1,h2,h3,h4⟩
 dsimp only at hj h1 h2 h3 h4 ⊢
 try dsimp only [Kr,Kq,Kp,Lv]
 repeat' (first|refine L3 ?_|refine KG a4 HY ?_)
 refine aw rfl (fun h=>?_) (fun h=>?_)
 ·have hji:j < i:=by have:=Ky h;omega
  have hfj:=hfi j
  have hstep:fy s n st.1.2 st.1.1 (j+1) st.2=(match (fy s n st.1.2 st.1.1 j st.2).1[j]? with
   | none=>ret (fy s n st.1.2 st.1.1 j st.2).1
   | some q=>if q.Kind≥7 then ret (fy s n st.1.2 st.1.1 j st.2).1 else cn (dr s 3) fun c=>cn (fi s n q.Kind st.1.2 (1+c).toNat) fun rs=>ret ((fy s n st.1.2 st.1.1 j st.2).1.set j { q with Rules:=rs })) (fy s n st.1.2 st.1.1 j st.2).2:=rfl
  generalize fy s n st.1.2 st.1.1 j st.2=T at hfj h4 hstep ⊢
  have hTl:T.1.length=i:=by rw [hfj.1];exact hln.1
  obtain ⟨q,hq⟩:∃q,T.1[j]?=some q:=⟨_,Kz (by omega)⟩
  have hq2:st.1.1[j]?=some q:=by rw [←hfj.2 j (Nat.le_refl _)];exact hq
  have hqm:=Kw hq2
  have hqk:=hhd.kinds q hqm
  have hqn:=hhd.none q hqm
  rw [hq] at hstep
  dsimp only at hstep
  have hcell:∀c,c < 3→cs[j * 3+c]?=(fJ j j q)[c]?:=fun c hc=>by
   have e:=u3 j T.1 0 j c hc
   rw [hq,Option.bind_some,Nat.zero_add,←h4,List.getElem?_take,if_pos (by omega)] at e
   exact e
  have hP:∀c,0+((j:Int)).toNat * 3+c=j * 3+c:=fun c=>by rw [Int.toNat_natCast];omega
  have hc0:cs[0+((j:Int)).toNat * 3+0]?=some (aF q.Kind):=by rw [hP];exact hcell 0 (by omega)
  have hc2:cs[0+((j:Int)).toNat * 3+2]?=some bX:=by
   rw [hP,hcell 2 (by omega)]
   simp [fJ]
  have hPl:0+((j:Int)).toNat * 3+2 < cs.length:=(Ko hc2).1
  repeat' (first|refine L3 ?_|refine ak ?_|refine KG a4 HY ?_|(apply bo;first|refine KM a4 0 KC ?_|refine KM a4 1 KC ?_|refine KM a4 2 KC ?_|refine KM a4 3 KC ?_|refine KN a4 0 KC ?_|refine KN a4 1 KC ?_|refine KN a4 2 KC ?_|refine KO a4 1 KA (by assumption) rfl ?_|refine KO a4 0 KA (by assumption) rfl ?_|fail)|(apply aQ;first|refine aO a4 ?_|refine aG a4 ?_)|fail)
  refine aw rfl (fun h7=>?_) (fun h7=>?_)
  ·have h7:=Ky h7
   rw [if_pos (show q.Kind≥7 from h7)] at hstep
   repeat' (first|refine L3 ?_|refine KG a4 HY ?_|(apply aU;refine aT ?_)|fail)
   refine bj (bG 1 (cs':=cs.set (0+((j:Int)).toNat * 3+2) (.imm 6 [])) rfl fun σ vs h=>cI h hc2 fun v hv=>i9 6 hv) ?_
   exact aD (j+1,cs.set (0+((j:Int)).toNat * 3+2) (.imm 6 [])) rfl ⟨by rw [Kv];rfl,trivial⟩ ⟨by dsimp only;omega,by dsimp only;rw [List.length_set];exact h1,h2,h3,by rw [hstep,hP];dsimp only [ret];rw [List.take_set,h4];exact FD hq hqn⟩ (by dsimp only;omega) (fun _ _ h=>by dsimp only;rw [hstep];exact h)
  have h7:=Kx h7
  rw [if_neg (show ¬q.Kind≥7 from h7)] at hstep
  unfold cn at hstep
  repeat' (first|refine L3 ?_|refine KG a4 HY ?_)
  refine cL ?_
  have hc:=cB s hs T.2.a (n:=3) (by omega)
  have hc:0≤(dr s 3 T.2).1∧(dr s 3 T.2).1 < 3:=hc
  generalize dr s 3 T.2=p2 at hc hstep ⊢
  dsimp only at hstep
  obtain ⟨c,hcc⟩:∃k:Nat,1+p2.1=k:=⟨(1+p2.1).toNat,by omega⟩
  rw [hcc,Int.toNat_natCast] at hstep
  repeat' (first|refine L3 ?_|refine ak ?_|refine KG a4 HY ?_|(apply aU;refine aT ?_)|fail)
  rw [hcc]
  refine c8 (bG 1 (cs':=cs.set (0+((j:Int)).toNat * 3+2) (.vec none 6 [])) rfl fun σ vs h=>cI h hc2 fun v hv=>d5 6 hv) ?_
  refine aR [0,2,3,6,7] (α:=Nat×Option (Nat×Nat)) (fun x=>[(8,aF x.1)]) (fun x=>x.1≤c) (fun x=>[eo b s (i5 F (Az i (some (ob,ocs,ocap)))) (fi s n q.Kind st.1.2 x.1 p2.2).2,(ob,.box (cs.set (0+((j:Int)).toNat * 3+2) (.vec x.2 6 ((fi s n q.Kind st.1.2 x.1 p2.2).1.map bC))) 59)]++(tok x.2 79 6 ((fi s n q.Kind st.1.2 x.1 p2.2).1.map bC).length++[])) (fun x=>c - x.1) (0,none) rfl ⟨rfl,trivial⟩ (Nat.zero_le _) (fun _ _ h=>h) ?_
  rintro ⟨r,qv⟩ hr
  dsimp only at hr ⊢
  have hrl:=y5 s hs n q.Kind st.1.2 r p2.2
  have hrs:fi s n q.Kind st.1.2 (r+1) p2.2=((fi s n q.Kind st.1.2 r p2.2).1++[(gP s n q.Kind st.1.2 (fi s n q.Kind st.1.2 r p2.2).2).1],(gP s n q.Kind st.1.2 (fi s n q.Kind st.1.2 r p2.2).2).2):=rfl
  try dsimp only [Kr,Kq,Kp,Lv]
  repeat' (first|refine L3 ?_|refine KG a4 HY ?_)
  refine aw rfl (fun h=>?_) (fun h=>?_)
  ·have hrc:r < c:=by have:=Ky h;omega
   generalize fi s n q.Kind st.1.2 r p2.2=R at hrl hrs ⊢
   have hset:(cs.set (0+((j:Int)).toNat * 3+2) (.vec qv 6 (R.1.map bC)))[0+((j:Int)).toNat * 3+2]?=some (.vec qv 6 (R.1.map bC)):=List.getElem?_set_self hPl
   have hset0:(cs.set (0+((j:Int)).toNat * 3+2) (.vec qv 6 (R.1.map bC)))[0+((j:Int)).toNat * 3+0]?=some (aF q.Kind):=by rw [List.getElem?_set_ne (by omega)];exact hc0
   have hRl:(R.1.map bC).length=R.1.length:=Ku ..
   repeat' (first|refine L3 ?_|refine ak ?_)
   refine dC [.cell (b,5,Az i (some (ob,ocs,ocap))),.cell (ob,0+((j:Int)).toNat * 3+2,.vec qv 6 (R.1.map bC))] 29 [(0,.v),(1,.v),(2,.v),(3,.v),(4,.k),(5,.v),(6,.v),(7,.v),(8,.v),(9,.v),(10,.k),(11,.v),(12,.v),(13,.v),(14,.k),(15,.v),(16,.v),(17,.v),(18,.v),(19,.v),(20,.l),(21,.v),(22,.v),(23,.v),(24,.l),(25,.v),(26,.f),(27,.v),(28,.f)] none ?_ trivial rfl (by kernel_rfl) (by kernel_rfl) (by kernel_rfl) bI (by kernel_rfl) rfl
   have hkeep:∀m' Z,f3 [.cell (b,5,Az i (some (ob,ocs,ocap))),.cell (ob,0+((j:Int)).toNat * 3+2,.vec qv 6 (R.1.map bC))] (eo b s (i5 F (Az i (some (ob,ocs,ocap)))) m'::(ob,.box (cs.set (0+((j:Int)).toNat * 3+2) (.vec qv 6 (R.1.map bC))) 59)::Z):=fun m' Z=>bR 0 rfl rfl (bR 1 rfl hset cj)
   repeat' (first|refine aB ?_|refine aX a4 ?_|fail)
   refine dY a4 0 rfl rfl rfl (hkeep _ _) (by first | trivial | rfl) ?_
   repeat' (first|refine aB ?_|refine aX a4 ?_|fail)
   refine dY a4 0 rfl rfl rfl (hkeep _ _) (by first | trivial | rfl) ?_
   repeat' (first|refine aB ?_|refine aX a4 ?_|fail)
   refine cR a4 rfl rfl rfl (by omega) (by first | trivial | rfl) ?_
   repeat' (first|refine aB ?_|refine aX a4 ?_|fail)
   refine dY a4 1 rfl rfl rfl (hkeep _ _) (by first | trivial | rfl) ?_
   repeat' (first|refine aB ?_|refine aX a4 ?_|refine KY a4 0 KB (by first|trivial|rfl) ?_)
   refine cR a4 rfl rfl rfl (by omega) (by first | trivial | rfl) ?_
   repeat' (first|refine aB ?_|refine aX a4 ?_|fail)
   refine bN a4 1 rfl rfl rfl hset0 (by first | trivial | rfl) ?_
   repeat' (first|refine aB ?_|refine aX a4 ?_|fail)
   refine sR (Bd s hs (i5 F (Az i (some (ob,ocs,ocap)))) hF n hn h0 q.Kind (by omega) st.1.2 (by omega)) (hkeep _ _) ?_
   generalize gP s n q.Kind st.1.2 R.2=y at hrs ⊢
   unfold GI
   repeat' (first|refine aB ?_|refine eD a4 ?_|fail)
   refine A3 a4 _ rfl rfl rfl rfl (eV (A:=[_,_])) (by simp;omega) (by simp;omega) (hkeep _ _) (by first | trivial | rfl) fun q'=>?_
   refine KU [0,2,3,6,7,8,70,71,94] HY ?_
   refine aP (aI (eV (A:=[_,_])).symm) ?_
   repeat' (first|refine KG a4 HY ?_|(apply aQ;first|refine aO a4 ?_|refine aG a4 ?_)|fail)
   refine KZ a4 1 KD (by rw [Nat.ble_eq,List.length_set];exact hPl) ?_
   repeat' (first|refine L3 ?_|refine KG a4 HY ?_|(apply aU;refine aT ?_)|fail)
   exact aD (r+1,q') rfl ⟨by rw [Kv];rfl,trivial⟩ (by dsimp only;omega) (by dsimp only;omega) (fun _ _ h=>by dsimp only;rw [hrs];dsimp only;rw [List.map_append];simp only [f5,List.set_set] at h;exact h)
  have hrc:r=c:=by have:=Kx h;omega
  subst hrc
  generalize fi s n q.Kind st.1.2 r p2.2=R at hrl hstep ⊢
  have hset:(cs.set (0+((j:Int)).toNat * 3+2) (.vec qv 6 (R.1.map bC)))[0+((j:Int)).toNat * 3+2]?=some (.vec qv 6 (R.1.map bC)):=List.getElem?_set_self hPl
  repeat' (first|refine L3 ?_|refine KG a4 HY ?_|(apply aU;refine aT ?_)|fail)
  refine bj (c6 (L':=[eo b s (i5 F (Az i (some (ob,ocs,ocap)))) R.2,(ob,.box (cs.set (0+((j:Int)).toNat * 3+2) (.vec qv 6 (R.1.map bC))) 59)]) (List.Sublist.cons_cons _ (List.Sublist.cons_cons _ (List.nil_sublist _)))) ?_
  refine bj (bG 1 (cs':=(cs.set (0+((j:Int)).toNat * 3+2) (.vec qv 6 (R.1.map bC))).set (0+((j:Int)).toNat * 3+2) (.imm 6 (R.1.map bC))) rfl fun σ vs h=>cI h hset fun v hv=>VR.im hv) ?_
  rw [List.set_set]
  exact aD (j+1,cs.set (0+((j:Int)).toNat * 3+2) (.imm 6 (R.1.map bC))) rfl ⟨by rw [Kv];rfl,trivial⟩ ⟨by dsimp only;omega,by dsimp only;rw [List.length_set];exact h1,h2,h3,by rw [hstep,hP];dsimp only [ret];rw [List.take_set,h4];exact Dg hq⟩ (by dsimp only;omega) (fun _ _ h=>by dsimp only;rw [hstep];exact h)
 have hji:j=i:=by have:=Kx h;omega
 subst hji
 generalize hT:fy s n st.1.2 st.1.1 j st.2=T at h4 ⊢
 have hTl:T.1.length=j:=by rw [←hT,(hfi j).1];exact hln.1
 repeat' (first|refine L3 ?_|fail)
 refine bj (aI (List.Perm.swap _ _ _)) ?_
 refine bj (tF (k:=5) (n:=j) (cap:=ocap) (l:=T.1.map bw) rfl (by rw [h4,De _ _ _ (by omega)]) h1 (fun q hq=>by
  obtain ⟨x,_,rfl⟩:=List.mem_map.1 hq
  rfl) (by rw [Ku];exact hTl) h2 h3) ?_
 exact ca rfl rfl
end Go.Proofs.YtpmdfoaadejmkaaGreatDoor
namespace Go.Proofs.YtpmdfoaadejmkaaGreatDoor
variable (s:List Int)
def mJ (a:dO):Int×Int:=(a.Kind,a.Class)
structure Ev (cl:Int) (mark:Bool) (l:List dO):Prop where
 sub:(l.map mJ).Sublist (gw cl)
 at':∀a∈l,(0≤a.X∧a.X≤1000)∧(-200≤a.Y∧a.Y≤800)∧(a.Kind=2→mark=true)
theorem uS {cl:Int} {i:Nat} (h:i < 5):(gw cl)[i]?=some ((gw cl).getD i (0,0)):=by
 rw [List.getD_eq_getElem?_getD,Kz (show i < (gw cl).length from h)]
 rfl
theorem uT (mark:Bool) (cl:Int):c7 (eY s mark cl 5) (Ev cl mark):=by
 refine (c7.runs (b:=[]) (fun i (l:List dO)=>(l.map mJ).Sublist ((gw cl).take i)∧∀a∈l,(0≤a.X∧a.X≤1000)∧(-200≤a.Y∧a.Y≤800)∧(a.Kind=2→mark=true)) 5 ⟨List.nil_sublist _,fun a ha=>by cases ha⟩ fun i l hi ⟨h1,h2⟩=>(c7.any _).bnd fun z _=>c7.ite (fun h3=>(d3 s (by omega)).bnd fun x hx=>(d3 s (by omega)).bnd fun y hy=>c7.ret ⟨?_,fun a ha=>?_⟩) fun _=>c7.ret ⟨?_,h2⟩).mono fun l ⟨h1,h2⟩=>⟨h1,h2⟩
 ·rw [List.take_add_one,uS hi,List.map_append]
  exact h1.append (List.Sublist.refl _)
 ·rcases Ly ha with ha | ha
  ·exact h2 a ha
  ·rw [Lw ha]
   refine ⟨by dsimp only;omega,by dsimp only;omega,fun hk=>?_⟩
   rcases h3.2 with h4 | h4
   ·exact absurd hk h4
   ·exact h4
 ·rw [List.take_add_one]
  exact h1.trans (List.sublist_append_left _ _)
def Ja (a b:dW):Prop:=a.Region < b.Region∨(a.Region=b.Region∧a.Point < b.Point)
structure Ex (R pts:Nat) (l:List dW):Prop where
 up:l.Pairwise Ja
 len:l.length≤R * (pts+1)
 dom:∀d∈l,(0≤d.Region∧d.Region < R)∧(-1≤d.Point∧d.Point < pts)∧(-20≤d.X∧d.X≤20)∧(-20≤d.Y∧d.Y≤20)∧(d.Point= -1→d.Y=0)
structure uK (r p pts:Nat) (l:List dW):Prop where
 up:l.Pairwise Ja
 len:l.length≤r * (pts+1)+p
 dom:∀d∈l,(0≤d.Region∧(d.Region < r∨(d.Region=r∧d.Point < (p:Int) - 1)))∧(-1≤d.Point∧d.Point < pts)∧(-20≤d.X∧d.X≤20)∧(-20≤d.Y∧d.Y≤20)∧(d.Point= -1→d.Y=0)
theorem uK.more {r p pts:Nat} {l:List dW} (h:uK r p pts l):uK r (p+1) pts l:=⟨h.up,by have:=h.len;omega,fun d hd=>by have:=h.dom d hd;omega⟩
theorem uK.add {r p pts:Nat} {l:List dW} (h:uK r p pts l) {x y:Int} (hp:p≤pts) (hx: -20≤x∧x≤20) (hy: -20≤y∧y≤20) (h0:p=0→y=0):uK r (p+1) pts (l++[⟨r,(p:Int) - 1,x,y⟩]):=by
 refine ⟨?_,by have:=h.len;simp;omega,fun d hd=>?_⟩
 ·rw [List.pairwise_append]
  refine ⟨h.up,List.pairwise_singleton ..,fun a ha b hb=>?_⟩
  rw [Lw hb]
  have:=h.dom a ha
  unfold Ja
  dsimp only
  omega
 ·rcases Ly hd with hd | hd
  ·have:=h.dom d hd;omega
  ·rw [Lw hd]
   dsimp only
   refine ⟨by omega,by omega,hx,hy,fun hq=>h0 (by omega)⟩
theorem qV (pts R:Nat):c7 (gy s pts R) (Ex R pts):=by
 refine (c7.runs (fun r l=>uK r 0 pts l) R ⟨.nil,by simp,fun d hd=>by cases hd⟩ fun r l _ h=>?_).mono fun l h=>⟨h.up,h.len,fun d hd=>by have:=h.dom d hd;omega⟩
 refine (c7.runs (fun p l=>uK r p pts l) (pts+1) h fun p l hp h=>(c7.any _).bnd fun z _=>c7.ite (fun _=>(d3 s (by omega)).bnd fun x hx=>c7.ite (fun h0=>c7.ret ?_) fun h0=>(d3 s (by omega)).bnd fun y hy=>c7.ret ?_) fun _=>c7.ret h.more).mono fun l h=>⟨h.up,by have:=h.len;rw [Nat.add_mul];omega,fun d hd=>by have:=h.dom d hd;omega⟩
 ·subst h0
  exact h.add (by omega) (by omega) (by omega) fun _=>rfl
 ·exact h.add (by omega) (by omega) (by omega) fun e=>absurd e h0
structure zt (R n:Nat) (g:bD):Prop where
 name:g.Name=cU n
 adv:100≤g.Advance∧g.Advance≤1000
 out:∃k,k≤2∧uL k (g.Points,g.Ends)
 parts:g.Parts=[]∨(1 < n∧∃x y:Int,g.Parts=[⟨1,x,y⟩]∧(-200≤x∧x≤200)∧0≤y∧y≤200)
 anch:∃cl,(0≤cl∧cl < 2)∧Ev cl g.Mark g.Anchors
 dels:Ex R g.Points.length g.Deltas
 hint:iW 45 g.Hint
theorem Al {R fn n:Nat} (hf:fn≤1000):c7 (kO s R fn n) (zt R n):=by
 have hparts:c7 (jd s n) fun ps=>ps=[]∨(1 < n∧∃x y:Int,ps=[⟨1,x,y⟩]∧(-200≤x∧x≤200)∧0≤y∧y≤200):=by
  refine c7.ite (fun h1=>(c7.any _).bnd fun z _=>c7.ite (fun _=>(d3 s (by omega)).bnd fun x hx=>(d3 s (by omega)).bnd fun y hy=>c7.ret (.inr ⟨h1,_,_,rfl,by omega,by omega⟩)) fun _=>c7.ret (.inl rfl)) fun _=>c7.ret (.inl rfl)
 refine (d3 s (by omega)).bnd fun ad had=>(c7.any _).bnd fun mk _=>(pD s).bnd fun o ho=>hparts.bnd fun ps hps=>(d3 s (by omega)).bnd fun cl hcl=>(uT s _ cl).bnd fun an han=>(qV s _ R).bnd fun de hde=>(c7.any _).bnd fun _ _=>?_
 have hl:o.1.length≤10:=by obtain ⟨k,h1,h2⟩:=ho;have:=h2.len;omega
 exact (vC s (n:=o.1.length) (funcs:=fn) (most:=6) (by omega) (by omega) (by omega)).bnd fun h hh=>c7.ret ⟨rfl,by dsimp only;omega,ho,hps,⟨cl,hcl,han⟩,hde,hh⟩
def pa (t:fk):Prop:=tD 0 t=0
structure gg (f:aZ):Prop where
  unit:16≤f.Unit∧f.Unit≤4096
  glyN:2≤f.Glyphs.length∧f.Glyphs.length≤10
  gly:∀(i:Nat) g,f.Glyphs[i]?=some g→zt f.Regions.length i g
  chars:f.Chars.length≤16
  charR:(f.Chars.map gu.Rune).Sublist gc
  charG:∀c∈f.Chars,0≤c.Glyph∧c.Glyph < f.Glyphs.length
  looks:BG f.Glyphs.length f.Lookups
  featN:(f.Features.map ck.Name).Sublist ga
  featL:∀t∈f.Features,t.Lookups.Pairwise (· < ·)∧t.Lookups.length≤6∧∀z∈t.Lookups,0≤z∧z < f.Lookups.length
  axes:f.Axes.length≤2
  axisN:f.Axes.map eN.Name=(List.range f.Axes.length).map (jJ v7)
  axis:∀a∈f.Axes,(-200≤a.Min∧a.Min≤0)∧a.Def=0∧0≤a.Max∧a.Max≤300
  regs:f.Regions.length≤3
  reg:∀r∈f.Regions,r.length=f.Axes.length∧∀t∈r,pa t
  funcs:f.Funcs.length≤2
  func:∀c∈f.Funcs,iW 45 c
  cvt:f.Cvt.length≤3
  cvtM:∀z∈f.Cvt,-100≤z∧z < 400
theorem vy {α:Type} {l:List α} {i:Nat} (h:i < l.length) (d:α):l.getD i d∈l:=by
 rw [List.getD_eq_getElem?_getD,Kz h]
 exact List.getElem_mem h
theorem mj {α:Type} {l:List α} {i:Nat} (h:i < l.length) (d:α):l[i]?=some (l.getD i d):=by
 rw [List.getD_eq_getElem?_getD,Kz h]
 rfl
theorem Dk:c7 (Dj s) gg:=by
  have hax:∀k:Nat,c7 (lA s k) fun l=>l.length=k∧l.map eN.Name=(List.range k).map (jJ v7)∧∀a∈l,(-200≤a.Min∧a.Min≤0)∧a.Def=0∧0≤a.Max∧a.Max≤300:=fun k=>by
    refine c7.runs (fun i (l:List eN)=>l.length=i∧l.map eN.Name=(List.range i).map (jJ v7)∧∀a∈l,(-200≤a.Min∧a.Min≤0)∧a.Def=0∧0≤a.Max∧a.Max≤300) k ⟨rfl,rfl,fun a ha=>by cases ha⟩ fun i l _ ⟨h1,h2,h3⟩=>(d3 s (by omega)).bnd fun a ha=>(d3 s (by omega)).bnd fun b hb=>c7.ret ⟨by simp [h1],by simp [h2,List.range_succ],fun x hx=>?_⟩
    rcases Ly hx with hx | hx
    · exact h3 x hx
    · rw [Lw hx];dsimp only;omega
  have hrg:∀k:Nat,c7 (fR s k) fun l=>l.length≤3∧∀r∈l,r.length=k∧∀t∈r,pa t:=fun k=>by
    refine c7.ite (fun _=>c7.ret ⟨Nat.zero_le _,fun r hr=>by cases hr⟩) fun _=>(d3 s (by omega)).bnd fun n hn=>?_
    refine (c7.runs (fun i (l:List (List fk))=>l.length=i∧∀r∈l,r.length=k∧∀t∈r,pa t) n.toNat ⟨rfl,fun a ha=>by cases ha⟩ fun i l _ ⟨h1,h2⟩=>?_).mono fun l ⟨h1,h2⟩=>⟨by omega,h2⟩
    refine (c7.runs (fun i (r:List fk)=>r.length=i∧∀t∈r,pa t) k ⟨rfl,fun a ha=>by cases ha⟩ fun i r _ ⟨h1,h2⟩=>(d3 s (by omega)).bnd fun z hz=>c7.ret ⟨by simp [h1],fun x hx=>?_⟩).bnd fun r hr=>c7.ret ⟨by simp [h1],fun x hx=>?_⟩
    · rcases Ly hx with hx | hx
      · exact h2 x hx
      · rw [Lw hx]
        have:∀t∈l4,pa t:=by unfold pa;decide
        exact this _ (vy (by simp only [l4,List.length_cons,List.length_nil];omega) _)
    · rcases Ly hx with hx | hx
      · exact h2 x hx
      · rw [Lw hx];exact hr
  have hfu:∀k:Nat,k≤1000→c7 (j3 s k) fun l=>l.length=k∧∀c∈l,iW 45 c:=fun k hk=>by
    refine c7.runs (fun i (l:List (List gr))=>l.length=i∧∀c∈l,iW 45 c) k ⟨rfl,fun a ha=>by cases ha⟩ fun i l hi ⟨h1,h2⟩=>(c7.any _).bnd fun _ _=>(vC s (by omega) (by omega) (by omega)).bnd fun h hh=>c7.ret ⟨by simp [h1],fun x hx=>?_⟩
    rcases Ly hx with hx | hx
    · exact h2 x hx
    · rw [Lw hx];exact hh
  have hcv:∀k:Nat,c7 (qS s k) fun l=>l.length=k∧∀z∈l,-100≤z∧z < 400:=fun k=>by
    refine c7.runs (fun i (l:List Int)=>l.length=i∧∀z∈l,-100≤z∧z < 400) k ⟨rfl,fun a ha=>by cases ha⟩ fun i l hi ⟨h1,h2⟩=>(d3 s (by omega)).bnd fun z hz=>c7.ret ⟨by simp [h1],fun x hx=>?_⟩
    rcases Ly hx with hx | hx
    · exact h2 x hx
    · rw [Lw hx];omega
  have hgl:∀R fn k:Nat,fn≤1000→c7 (gA s R fn k) fun l=>l.length=k∧∀(i:Nat) g,l[i]?=some g→zt R i g:=fun R fn k hf=>by
    refine c7.runs (fun i (l:List bD)=>l.length=i∧∀(j:Nat) g,l[j]?=some g→zt R j g) k ⟨rfl,fun j g h=>by simp at h⟩ fun i l hi ⟨h1,h2⟩=>(Al s hf).bnd fun g hg=>c7.ret ⟨by simp [h1],fun j x hx=>?_⟩
    rcases Nat.lt_or_ge j l.length with h | h
    · rw [List.getElem?_append_left h] at hx
      exact h2 j x hx
    · have hj:=(Ko hx).1
      have:j=l.length:=by simp at hj;omega
      subst this
      rw [List.getElem?_append_right (Nat.le_refl _),Nat.sub_self] at hx
      cases hx
      rw [h1]
      exact hg
  have hch:∀n:Int,0 < n→c7 (ir s n 16) fun l=>(l.map gu.Rune).Sublist gc∧∀c∈l,0≤c.Glyph∧c.Glyph < n:=fun n hn=>by
    refine (c7.runs (b:=[]) (fun i (l:List gu)=>(l.map gu.Rune).Sublist (gc.take i)∧∀c∈l,0≤c.Glyph∧c.Glyph < n) 16 ⟨List.nil_sublist _,fun a ha=>by cases ha⟩ fun i l hi ⟨h1,h2⟩=>(c7.any _).bnd fun z _=>c7.ite (fun _=>(d3 s hn).bnd fun g hg=>c7.ret ⟨?_,fun x hx=>?_⟩) fun _=>c7.ret ⟨?_,h2⟩).mono fun l h=>h
    · rw [List.take_add_one,mj (l:=gc) (i:=i) hi 0,List.map_append]
      exact h1.append (List.Sublist.refl _)
    · rcases Ly hx with hx | hx
      · exact h2 x hx
      · rw [Lw hx];exact hg
    · rw [List.take_add_one]
      exact h1.trans (List.sublist_append_left _ _)
  have hft:∀n:Nat,n≤6→c7 (iu s n 8) fun l=>(l.map ck.Name).Sublist ga∧∀t∈l,t.Lookups.Pairwise (· < ·)∧t.Lookups.length≤6∧∀z∈t.Lookups,0≤z∧z < n:=fun n hn=>by
    have hask:c7 (oF s n) fun l=>l.Pairwise (· < ·)∧l.length≤n∧∀z∈l,0≤z∧z < n:=by
      refine c7.runs (fun i (l:List Int)=>l.Pairwise (· < ·)∧l.length≤i∧∀z∈l,0≤z∧z < i) n ⟨.nil,Nat.le_refl _,fun a ha=>by cases ha⟩ fun i l hi ⟨h1,h2,h3⟩=>(c7.any _).bnd fun z _=>c7.ret ?_
      split
      · refine ⟨?_,by simp;omega,fun x hx=>?_⟩
        · rw [List.pairwise_append]
          exact ⟨h1,List.pairwise_singleton ..,fun a ha b hb=>by rw [Lw hb];have:=h3 a ha;omega⟩
        · rcases Ly hx with hx | hx
          · have:=h3 x hx;omega
          · rw [Lw hx];omega
      · exact ⟨h1,by omega,fun x hx=>by have:=h3 x hx;omega⟩
    refine (c7.runs (b:=[]) (fun i (l:List ck)=>(l.map ck.Name).Sublist (ga.take i)∧∀t∈l,t.Lookups.Pairwise (· < ·)∧t.Lookups.length≤6∧∀z∈t.Lookups,0≤z∧z < n) 8 ⟨List.nil_sublist _,fun a ha=>by cases ha⟩ fun i l hi ⟨h1,h2⟩=>hask.bnd fun r hr=>(c7.any _).bnd fun z _=>c7.ret ?_).mono fun l h=>h
    split
    · refine ⟨?_,fun x hx=>?_⟩
      · rw [List.take_add_one,mj (l:=ga) (i:=i) hi ByteArray.empty,List.map_append]
        exact h1.append (List.Sublist.refl _)
      · rcases Ly hx with hx | hx
        · exact h2 x hx
        · rw [Lw hx];exact ⟨hr.1,by have:=hr.2.1;dsimp only;omega,hr.2.2⟩
    · rw [List.take_add_one]
      exact ⟨h1.trans (List.sublist_append_left _ _),h2⟩
  refine (d3 s (by omega)).bnd fun u hu=>(d3 s (by omega)).bnd fun k hk=>(hax _).bnd fun ax ⟨ha1,ha2,ha3⟩=>(hrg _).bnd fun rg ⟨hr1,hr2⟩=>(d3 s (by omega)).bnd fun k2 hk2=>(hfu _ (by omega)).bnd fun fu ⟨hf1,hf2⟩=>(d3 s (by omega)).bnd fun k3 hk3=>(hcv _).bnd fun cv ⟨hc1,hc2⟩=>(d3 s (by omega)).bnd fun k4 hk4=>(hgl _ _ _ (by omega)).bnd fun gl ⟨hg1,hg2⟩=>(hch gl.length (by omega)).bnd fun ch ⟨hh1,hh2⟩=>(pz s (n:=gl.length) (by omega)).bnd fun lk hlk=>(hft lk.length hlk.len).bnd fun ft ⟨ht1,ht2⟩=>c7.ret ?_
  refine ⟨?_,by dsimp only;omega,hg2,?_,hh1,hh2,hlk,ht1,ht2,by dsimp only;omega,by dsimp only;rw [ha1];exact ha2,ha3,hr1,fun r hr=>⟨by dsimp only;rw [ha1];exact (hr2 r hr).1,(hr2 r hr).2⟩,by dsimp only;omega,hf2,by dsimp only;omega,hc2⟩
  · have:∀j < 4,16≤nf.getD j 0∧nf.getD j 0≤4096:=by decide
    exact this _ (by omega)
  · have:=hh1.length_le
    simpa [gc] using this
theorem qg:gg (lg s):=Dk s ⟨0,0⟩
end Go.Proofs.YtpmdfoaadejmkaaGreatDoor
