/-
  The maker: lookups.
-/
import Derived.Test.YtpmdfoaadejmkaaGreatDoorM28
import Derived.Test.YtpmdfoaadejmkaaGreatDoorM27
namespace Go.Proofs.YtpmdfoaadejmkaaGreatDoor
open Go.RowKit
attribute [local irreducible] AT bv AX AO Av Kt b9 dh DA cE
variable (s:List Int) (hs:s.length≤1000000) (F:MF)
include hs
theorem vN (k:Nat) (m:MS):(dW s k m).1.1.length=k∧(dW s k m).1.2.length≤k:=by
 have _:=hs
 clear hs
 induction k with
 | zero=>exact ⟨rfl,Nat.le_refl _⟩
 | succ k ih=>
  have:dW s (k+1) m=(bX (dr s 10) fun z=>bX (dr s 3) fun y=>ret ((dW s k m).1.1++[(⟨fm.getD z.toNat 0,decide (y=0),[]⟩:aN)],if fm.getD z.toNat 0≤4 then (dW s k m).1.2++[(k:Int)] else (dW s k m).1.2)) (dW s k m).2:=rfl
  rw [this]
  simp only [bX,ret]
  refine ⟨by simp [ih.1],?_⟩
  split
  ·simp;omega
  ·omega
theorem AI (n:Int) (calls:List Int) (l:List aN) (k:Nat) (m:MS):(eX s n calls l k m).1.length=l.length∧∀j,k≤j→(eX s n calls l k m).1[j]?=l[j]?:=by
 have _:=hs
 clear hs
 induction k with
 | zero=>exact ⟨rfl,fun j _=>rfl⟩
 | succ k ih=>
  have:eX s n calls l (k+1) m=(match (eX s n calls l k m).1[k]? with
   | none=>ret (eX s n calls l k m).1
   | some q=>if q.Kind≥7 then ret (eX s n calls l k m).1 else bX (dr s 3) fun c=>bX (eM s n q.Kind calls (1+c).toNat) fun rs=>ret ((eX s n calls l k m).1.set k { q with Rules:=rs })) (eX s n calls l k m).2:=rfl
  rw [this]
  cases hq:(eX s n calls l k m).1[k]? with
  | none=>exact ⟨ih.1,fun j hj=>ih.2 j (by omega)⟩
  | some q=>
   dsimp only
   by_cases h7:q.Kind≥7
   ·rw [if_pos h7]
    exact ⟨ih.1,fun j hj=>ih.2 j (by omega)⟩
   ·rw [if_neg h7]
    simp only [bX,ret]
    refine ⟨by rw [List.length_set];exact ih.1,fun j hj=>?_⟩
    rw [List.getElem?_set_ne (by omega)]
    exact ih.2 j (by omega)
theorem wj (n kind:Int) (calls:List Int) (k:Nat) (m:MS):(eM s n kind calls k m).1.length=k:=by
 have _:=hs
 clear hs
 induction k with
 | zero=>rfl
 | succ k ih=>
  have:eM s n kind calls (k+1) m=((eM s n kind calls k m).1++[(gm s n kind calls (eM s n kind calls k m).2).1],(gm s n kind calls (eM s n kind calls k m).2).2):=rfl
  rw [this]
  simp [ih]
abbrev gz (F:MF) (v:AV):MF:={ F with lk:=v }
set_option maxHeartbeats 16000000 in
theorem vW {kg:Option (Nat×Nat)} {gl:List (List AV)} (hF:F.gl= .vec kg 9 gl) (hl:F.lk=bI) (n:Nat) (hn:gl.length=n) (h0:0 < n∧n≤1000) (b:Nat) (m:MS):AC Tryz.prog 93 [CJ b] [dH b s F m] fun _ L=>L=[dH b s (gz F (.imm 3 ((ip s n m).1.map bC))) (ip s n m).2]:=by
 refine aL Tryz.func93 rfl Tryz.ntmps93 rfl fun B=>?_
 repeat' (first|refine IT ?_|refine IF a5 G9 ?_)
 refine cu ?_
 have hk:=cg s hs m.a (n:=7) (by omega)
 have hk:0≤(dr s 7 m).1∧(dr s 7 m).1 < 7:=hk
 generalize e1:dr s 7 m=p1 at hk ⊢
 obtain ⟨k,hkk⟩:∃k:Nat,p1.1=k:=⟨p1.1.toNat,by omega⟩
 rw [hkk]
 have hFF:F=gz F bI:=by
  cases F
  simp only at hl
  rw [hl]
 rw [hFF]
 repeat' (first|refine IT ?_|refine am ?_|refine IF a5 G9 ?_)
 refine bP (bS (t:=3) (c':= .vec none 1 []) rfl fun σ v h=>cL 1 h) ?_
 refine aO [0,2] (α:=Nat×Option (Nat×Nat)×Option (Nat×List AV×Nat)) (fun x=>[(4,aF x.1),(3,.vec x.2.1 1 (aT (dW s x.1 p1.2).1.2))]) (fun x=>x.1≤k∧x4 x.1 0 (dW s x.1 p1.2).1.1 x.2.2) (fun x=>dH b s (gz F (yA x.1 x.2.2)) (dW s x.1 p1.2).2::(Bl x.2.2++(tok x.2.1 3 1 (aT (dW s x.1 p1.2).1.2).length++[]))) (fun x=>k - x.1) (0,none,none) rfl ⟨rfl,rfl,trivial⟩ ⟨Nat.zero_le _,rfl⟩ (fun _ _ h=>by simpa [dW,gG,ret,tok,aT,Bl,yA] using h) ?_
 rintro ⟨i,q,o⟩ ⟨hi,ho⟩
 dsimp only at hi ho ⊢
 have hln:=vN s hs i p1.2
 try dsimp only [Jx,Jw,Jv,Jq]
 repeat' (first|refine IT ?_|refine IF a5 G9 ?_)
 refine ar rfl (fun h=>?_) (fun h=>?_)
 ·have hil:i < k:=by have:=Iy h;omega
  have hstep:dW s (i+1) p1.2=(bX (dr s 10) fun z=>bX (dr s 3) fun y=>ret ((dW s i p1.2).1.1++[(⟨fm.getD z.toNat 0,decide (y=0),[]⟩:aN)],if fm.getD z.toNat 0≤4 then (dW s i p1.2).1.2++[(i:Int)] else (dW s i p1.2).1.2)) (dW s i p1.2).2:=rfl
  generalize dW s i p1.2=st at hln ho hstep ⊢
  have hil2:(aT st.1.2).length=st.1.2.length:=b6 _
  repeat' (first|refine IT ?_|refine am ?_|refine IF a5 G9 ?_|refine bH a5 ?_|fail)
  refine cu ?_
  have hz:=cg s hs st.2.a (n:=10) (by omega)
  have hz:0≤(dr s 10 st.2).1∧(dr s 10 st.2).1 < 10:=hz
  unfold bX at hstep
  generalize dr s 10 st.2=z at hz hstep ⊢
  dsimp only at hstep
  have hzk:(aT fm)[z.1.toNat]?=some [aF (fm.getD z.1.toNat 0)]:=bR (by rw [List.getD_eq_getElem?_getD,Iz (show z.1.toNat < fm.length by simp [fm];omega)];rfl)
  generalize hkd:fm.getD z.1.toNat 0=kd at hzk hstep
  repeat' (first|refine IT ?_|refine IF a5 G9 ?_|(apply aS;first|refine aQ a5 ?_|refine aG a5 ?_)|fail)
  refine d8 [.cell (b,5,yA i o)] 13 [(0,.v),(1,.v),(2,.v),(3,.v),(4,.v),(5,.k),(6,.v),(7,.v),(8,.f),(9,.v),(10,.v),(11,.v),(12,.e)] none ?_ trivial rfl (by kernel_rfl) (by kernel_rfl) (by kernel_rfl) bU (by kernel_rfl) rfl
  repeat' (first|refine aD ?_|refine b8 a5 ?_|fail)
  refine dx a5 0 rfl rfl rfl (bF 0 rfl rfl bT) (by first | trivial | rfl) ?_
  repeat' (first|refine aD ?_|refine b8 a5 ?_|fail)
  refine eu (bF 0 rfl rfl bT) ?_
  generalize dr s 3 z.2=y at hstep ⊢
  repeat' (first|refine aD ?_|refine b8 a5 ?_|refine dR a5 ?_|fail)
  have hst1:st.1.1.length=i:=hln.1
  rcases o with _ | ⟨ob,ocs,ocap⟩
  ·have hi0:i=0:=ho
   subst hi0
   refine vv a5 rfl rfl rfl rfl rfl rfl rfl (by first | trivial | rfl) fun b' cs' cap' h1 h2 h3 h4=>?_
   have hrow:x4 (0+1) 0 (st.1.1++[⟨kd,decide (y.1=0),[]⟩]) (some (b',cs',cap')):=by
    refine ⟨h1,by omega,h4,?_⟩
    rw [List.eq_nil_of_length_eq_zero (by omega:st.1.1.length=0)]
    exact h2
   refine IQ [0,2,3,4,5,21,33] G9 ?_
   refine aJ (aI (L':=dH b s (gz F (yA 0 none)) y.2::(Bl (some (b',cs',cap'))++(tok q 3 1 (aT st.1.2).length++[]))) (List.Perm.swap _ _ _)) ?_
   repeat' (first|refine IT ?_|refine IF a5 G9 ?_|(apply aK;first|refine IG a5 0 ID ?_|refine IG a5 1 ID ?_|refine IG a5 2 ID ?_|refine IG a5 3 ID ?_|fail))
   refine ar rfl (fun hk4=>?_) (fun hk4=>?_)
   ·rw [if_pos (Iy hk4)] at hstep
    dsimp only [ret] at hstep
    repeat' (first|refine IT ?_|refine IF a5 G9 ?_|refine bH a5 ?_|fail)
    refine bM a5 _ rfl rfl rfl rfl (ew (A:=[_,_])) (by simp [b6];omega) (by simp [b6];omega) rfl fun q'=>?_
    refine aJ (aI (ew (A:=[_,_])).symm) ?_
    repeat' (first|refine IT ?_|refine IF a5 G9 ?_|(apply aV;refine aU ?_)|fail)
    exact aC (0+1,q',some (b',cs',cap')) rfl ⟨rfl,by rw [hstep];dsimp only;rw [show aT (st.1.2++[((0:Nat):Int)])=aT st.1.2++[[aF ((0:Nat):Int)]] from List.map_append ..];rfl,trivial⟩ ⟨by dsimp only;omega,by rw [hstep];exact hrow⟩ (by dsimp only;omega) (fun _ _ h=>by dsimp only;rw [hstep];dsimp only;rw [show aT (st.1.2++[((0:Nat):Int)])=aT st.1.2++[[aF ((0:Nat):Int)]] from List.map_append ..];exact h)
   ·rw [if_neg (Ix hk4)] at hstep
    dsimp only [ret] at hstep
    repeat' (first|refine IT ?_|refine IF a5 G9 ?_|(apply aV;refine aU ?_)|fail)
    exact aC (0+1,q,some (b',cs',cap')) rfl ⟨rfl,by rw [hstep];rfl,trivial⟩ ⟨by dsimp only;omega,by rw [hstep];exact hrow⟩ (by dsimp only;omega) (fun _ _ h=>by dsimp only;rw [hstep];exact h)
  ·obtain ⟨ho1,ho2,ho3,ho4⟩:=ho
   refine y9 a5 1 rfl rfl rfl rfl rfl rfl rfl ho1 ho2 ho3 (by unfold maxLen;omega) (by omega) (by first | trivial | rfl) fun b' cs' cap' h1 h2 h3 h4=>?_
   have hrow:x4 (i+1) 0 (st.1.1++[⟨kd,decide (y.1=0),[]⟩]) (some (b',cs',cap')):=by
    refine ⟨h1,h3,h4,?_⟩
    rw [h2,ho4,x5]
    rfl
   refine IQ [0,2,3,4,5,21,33] G9 ?_
   refine aJ (aI (L':=dH b s (gz F (yA i (some (ob,ocs,ocap)))) y.2::(Bl (some (b',cs',cap'))++(tok q 3 1 (aT st.1.2).length++[]))) (List.Perm.swap _ _ _)) ?_
   repeat' (first|refine IT ?_|refine IF a5 G9 ?_|(apply aK;first|refine IG a5 0 ID ?_|refine IG a5 1 ID ?_|refine IG a5 2 ID ?_|refine IG a5 3 ID ?_|fail))
   refine ar rfl (fun hk4=>?_) (fun hk4=>?_)
   ·rw [if_pos (Iy hk4)] at hstep
    dsimp only [ret] at hstep
    repeat' (first|refine IT ?_|refine IF a5 G9 ?_|refine bH a5 ?_|fail)
    refine bM a5 _ rfl rfl rfl rfl (ew (A:=[_,_])) (by simp [b6];omega) (by simp [b6];omega) rfl fun q'=>?_
    refine aJ (aI (ew (A:=[_,_])).symm) ?_
    repeat' (first|refine IT ?_|refine IF a5 G9 ?_|(apply aV;refine aU ?_)|fail)
    exact aC (i+1,q',some (b',cs',cap')) rfl ⟨by rw [Iv];rfl,by rw [hstep];dsimp only;rw [show aT (st.1.2++[(i:Int)])=aT st.1.2++[[aF (i:Int)]] from List.map_append ..];rfl,trivial⟩ ⟨by dsimp only;omega,by rw [hstep];exact hrow⟩ (by dsimp only;omega) (fun _ _ h=>by dsimp only;rw [hstep];dsimp only;rw [show aT (st.1.2++[(i:Int)])=aT st.1.2++[[aF (i:Int)]] from List.map_append ..];exact h)
   ·rw [if_neg (Ix hk4)] at hstep
    dsimp only [ret] at hstep
    repeat' (first|refine IT ?_|refine IF a5 G9 ?_|(apply aV;refine aU ?_)|fail)
    exact aC (i+1,q,some (b',cs',cap')) rfl ⟨by rw [Iv];rfl,by rw [hstep];rfl,trivial⟩ ⟨by dsimp only;omega,by rw [hstep];exact hrow⟩ (by dsimp only;omega) (fun _ _ h=>by dsimp only;rw [hstep];exact h)
 have hil:i=k:=by have:=Ix h;omega
 subst hil
 have hhd:=rx s i p1.2
 generalize e2:dW s i p1.2=st at hln ho hhd ⊢
 have hv:ip s n m=eX s n st.1.2 st.1.1 i st.2:=by
  unfold ip bX
  rw [e1]
  dsimp only
  rw [hkk,Int.toNat_natCast,e2]
 rw [hv]
 have hfi:=fun j=>AI s hs n st.1.2 st.1.1 j st.2
 repeat' (first|refine IT ?_|refine am ?_|refine IF a5 G9 ?_)
 refine bP (bO (L':=dH b s (gz F (yA i o)) st.2::(Bl o++[])) (List.Sublist.cons_cons _ ((List.nil_sublist _).append_left _))) ?_
 rcases o with _ | ⟨ob,ocs,ocap⟩
 ·have hi0:i=0:=ho
  subst hi0
  refine aO [0,2,3] (α:=Unit) (fun _=>[(6,aF 0)]) (fun _=>True) (fun _=>[dH b s (gz F bI) st.2]) (fun _=>0) () rfl ⟨rfl,trivial⟩ trivial (fun _ _ h=>h) ?_
  intro _ _
  try dsimp only [Jx,Jw,Jv,Jq]
  repeat' (first|refine IT ?_|refine IF a5 G9 ?_|refine bK rfl ?_)
  have hnil:(eX s n st.1.2 st.1.1 0 st.2).1=[]:=List.eq_nil_of_length_eq_zero (by rw [(hfi 0).1];exact hln.1)
  refine bh (bq 0 (cs':=GU s (gz F (.imm 3 [])) st.2) rfl fun σ vs h=>cr (k:=5) (c:=bI) h rfl fun v hv=>gZ 3 hv) (cA rfl ?_)
  rw [hnil]
  rfl
 refine aO [0,2,3] (α:=Nat×List AV) (fun x=>[(6,aF x.1)]) (fun x=>x.1≤i∧x4 i x.1 (eX s n st.1.2 st.1.1 x.1 st.2).1 (some (ob,x.2,ocap))) (fun x=>[dH b s (gz F (yA i (some (ob,ocs,ocap)))) (eX s n st.1.2 st.1.1 x.1 st.2).2,(ob,.box x.2 59)]) (fun x=>i - x.1) (0,ocs) rfl ⟨rfl,trivial⟩ ⟨Nat.zero_le _,ho⟩ (fun _ _ h=>h) ?_
 rintro ⟨j,cs⟩ ⟨hj,h1,h2,h3,h4⟩
 dsimp only at hj h1 h2 h3 h4 ⊢
 try dsimp only [Jx,Jw,Jv,Jq]
 repeat' (first|refine IT ?_|refine IF a5 G9 ?_)
 refine ar rfl (fun h=>?_) (fun h=>?_)
 ·have hji:j < i:=by have:=Iy h;omega
  have hfj:=hfi j
  have hstep:eX s n st.1.2 st.1.1 (j+1) st.2=(match (eX s n st.1.2 st.1.1 j st.2).1[j]? with
   | none=>ret (eX s n st.1.2 st.1.1 j st.2).1
   | some q=>if q.Kind≥7 then ret (eX s n st.1.2 st.1.1 j st.2).1 else bX (dr s 3) fun c=>bX (eM s n q.Kind st.1.2 (1+c).toNat) fun rs=>ret ((eX s n st.1.2 st.1.1 j st.2).1.set j { q with Rules:=rs })) (eX s n st.1.2 st.1.1 j st.2).2:=rfl
  generalize eX s n st.1.2 st.1.1 j st.2=T at hfj h4 hstep ⊢
  have hTl:T.1.length=i:=by rw [hfj.1];exact hln.1
  obtain ⟨q,hq⟩:∃q,T.1[j]?=some q:=⟨_,Iz (by omega)⟩
  have hq2:st.1.1[j]?=some q:=by rw [←hfj.2 j (Nat.le_refl _)];exact hq
  have hqm:=Iw hq2
  have hqk:=hhd.kinds q hqm
  have hqn:=hhd.none q hqm
  rw [hq] at hstep
  dsimp only at hstep
  have hcell:∀c,c < 3→cs[j * 3+c]?=(ff j j q)[c]?:=fun c hc=>by
   have e:=sv j T.1 0 j c hc
   rw [hq,Option.bind_some,Nat.zero_add,←h4,List.getElem?_take,if_pos (by omega)] at e
   exact e
  have hP:∀c,0+((j:Int)).toNat * 3+c=j * 3+c:=fun c=>by rw [Int.toNat_natCast];omega
  have hc0:cs[0+((j:Int)).toNat * 3+0]?=some (aF q.Kind):=by rw [hP];exact hcell 0 (by omega)
  have hc2:cs[0+((j:Int)).toNat * 3+2]?=some bI:=by
   rw [hP,hcell 2 (by omega)]
   simp [ff]
  have hPl:0+((j:Int)).toNat * 3+2 < cs.length:=(Ju hc2).1
  repeat' (first|refine IT ?_|refine am ?_|refine IF a5 G9 ?_|(apply bw;first|refine II a5 0 IC ?_|refine II a5 1 IC ?_|refine II a5 2 IC ?_|refine II a5 3 IC ?_|refine IJ a5 0 IC ?_|refine IJ a5 1 IC ?_|refine IJ a5 2 IC ?_|refine IK a5 1 IA (by assumption) rfl ?_|refine IK a5 0 IA (by assumption) rfl ?_|fail)|(apply aS;first|refine aQ a5 ?_|refine aG a5 ?_)|fail)
  refine ar rfl (fun h7=>?_) (fun h7=>?_)
  ·have h7:=Iy h7
   rw [if_pos (show q.Kind≥7 from h7)] at hstep
   repeat' (first|refine IT ?_|refine IF a5 G9 ?_|(apply aV;refine aU ?_)|fail)
   refine bh (bq 1 (cs':=cs.set (0+((j:Int)).toNat * 3+2) (.imm 6 [])) rfl fun σ vs h=>cr h hc2 fun v hv=>gZ 6 hv) ?_
   exact aC (j+1,cs.set (0+((j:Int)).toNat * 3+2) (.imm 6 [])) rfl ⟨by rw [Iv];rfl,trivial⟩ ⟨by dsimp only;omega,by dsimp only;rw [List.length_set];exact h1,h2,h3,by rw [hstep,hP];dsimp only [ret];rw [List.take_set,h4];exact DL hq hqn⟩ (by dsimp only;omega) (fun _ _ h=>by dsimp only;rw [hstep];exact h)
  have h7:=Ix h7
  rw [if_neg (show ¬q.Kind≥7 from h7)] at hstep
  unfold bX at hstep
  repeat' (first|refine IT ?_|refine IF a5 G9 ?_)
  refine cu ?_
  have hc:=cg s hs T.2.a (n:=3) (by omega)
  have hc:0≤(dr s 3 T.2).1∧(dr s 3 T.2).1 < 3:=hc
  generalize dr s 3 T.2=p2 at hc hstep ⊢
  dsimp only at hstep
  obtain ⟨c,hcc⟩:∃k:Nat,1+p2.1=k:=⟨(1+p2.1).toNat,by omega⟩
  rw [hcc,Int.toNat_natCast] at hstep
  repeat' (first|refine IT ?_|refine am ?_|refine IF a5 G9 ?_|(apply aV;refine aU ?_)|fail)
  rw [hcc]
  refine bP (bq 1 (cs':=cs.set (0+((j:Int)).toNat * 3+2) (.vec none 6 [])) rfl fun σ vs h=>cr h hc2 fun v hv=>cL 6 hv) ?_
  refine aO [0,2,3,6,7] (α:=Nat×Option (Nat×Nat)) (fun x=>[(8,aF x.1)]) (fun x=>x.1≤c) (fun x=>[dH b s (gz F (yA i (some (ob,ocs,ocap)))) (eM s n q.Kind st.1.2 x.1 p2.2).2,(ob,.box (cs.set (0+((j:Int)).toNat * 3+2) (.vec x.2 6 ((eM s n q.Kind st.1.2 x.1 p2.2).1.map bB))) 59)]++(tok x.2 79 6 ((eM s n q.Kind st.1.2 x.1 p2.2).1.map bB).length++[])) (fun x=>c - x.1) (0,none) rfl ⟨rfl,trivial⟩ (Nat.zero_le _) (fun _ _ h=>h) ?_
  rintro ⟨r,qv⟩ hr
  dsimp only at hr ⊢
  have hrl:=wj s hs n q.Kind st.1.2 r p2.2
  have hrs:eM s n q.Kind st.1.2 (r+1) p2.2=((eM s n q.Kind st.1.2 r p2.2).1++[(gm s n q.Kind st.1.2 (eM s n q.Kind st.1.2 r p2.2).2).1],(gm s n q.Kind st.1.2 (eM s n q.Kind st.1.2 r p2.2).2).2):=rfl
  try dsimp only [Jx,Jw,Jv,Jq]
  repeat' (first|refine IT ?_|refine IF a5 G9 ?_)
  refine ar rfl (fun h=>?_) (fun h=>?_)
  ·have hrc:r < c:=by have:=Iy h;omega
   generalize eM s n q.Kind st.1.2 r p2.2=R at hrl hrs ⊢
   have hset:(cs.set (0+((j:Int)).toNat * 3+2) (.vec qv 6 (R.1.map bB)))[0+((j:Int)).toNat * 3+2]?=some (.vec qv 6 (R.1.map bB)):=List.getElem?_set_self hPl
   have hset0:(cs.set (0+((j:Int)).toNat * 3+2) (.vec qv 6 (R.1.map bB)))[0+((j:Int)).toNat * 3+0]?=some (aF q.Kind):=by rw [List.getElem?_set_ne (by omega)];exact hc0
   have hRl:(R.1.map bB).length=R.1.length:=Jz ..
   repeat' (first|refine IT ?_|refine am ?_)
   refine d8 [.cell (b,5,yA i (some (ob,ocs,ocap))),.cell (ob,0+((j:Int)).toNat * 3+2,.vec qv 6 (R.1.map bB))] 29 [(0,.v),(1,.v),(2,.v),(3,.v),(4,.k),(5,.v),(6,.v),(7,.v),(8,.v),(9,.v),(10,.k),(11,.v),(12,.v),(13,.v),(14,.k),(15,.v),(16,.v),(17,.v),(18,.v),(19,.v),(20,.l),(21,.v),(22,.v),(23,.v),(24,.l),(25,.v),(26,.f),(27,.v),(28,.f)] none ?_ trivial rfl (by kernel_rfl) (by kernel_rfl) (by kernel_rfl) bU (by kernel_rfl) rfl
   have hkeep:∀m' Z,eD [.cell (b,5,yA i (some (ob,ocs,ocap))),.cell (ob,0+((j:Int)).toNat * 3+2,.vec qv 6 (R.1.map bB))] (dH b s (gz F (yA i (some (ob,ocs,ocap)))) m'::(ob,.box (cs.set (0+((j:Int)).toNat * 3+2) (.vec qv 6 (R.1.map bB))) 59)::Z):=fun m' Z=>bF 0 rfl rfl (bF 1 rfl hset bT)
   repeat' (first|refine aD ?_|refine b8 a5 ?_|fail)
   refine dx a5 0 rfl rfl rfl (hkeep _ _) (by first | trivial | rfl) ?_
   repeat' (first|refine aD ?_|refine b8 a5 ?_|fail)
   refine dx a5 0 rfl rfl rfl (hkeep _ _) (by first | trivial | rfl) ?_
   repeat' (first|refine aD ?_|refine b8 a5 ?_|fail)
   refine d9 a5 rfl rfl rfl (by omega) (by first | trivial | rfl) ?_
   repeat' (first|refine aD ?_|refine b8 a5 ?_|fail)
   refine dx a5 1 rfl rfl rfl (hkeep _ _) (by first | trivial | rfl) ?_
   repeat' (first|refine aD ?_|refine b8 a5 ?_|refine bZ a5 0 rfl rfl rfl rfl (by first|trivial|rfl) ?_)
   refine d9 a5 rfl rfl rfl (by omega) (by first | trivial | rfl) ?_
   repeat' (first|refine aD ?_|refine b8 a5 ?_|fail)
   refine bZ a5 1 rfl rfl rfl hset0 (by first | trivial | rfl) ?_
   repeat' (first|refine aD ?_|refine b8 a5 ?_|fail)
   refine rc (z4 s hs (gz F (yA i (some (ob,ocs,ocap)))) hF n hn h0 q.Kind (by omega) st.1.2 (by omega)) (hkeep _ _) ?_
   generalize gm s n q.Kind st.1.2 R.2=y at hrs ⊢
   unfold EP
   repeat' (first|refine aD ?_|refine dR a5 ?_|fail)
   refine y7 a5 _ rfl rfl rfl rfl (ew (A:=[_,_])) (by simp;omega) (by simp;omega) (hkeep _ _) (by first | trivial | rfl) fun q'=>?_
   refine IQ [0,2,3,6,7,8,70,71,94] G9 ?_
   refine aJ (aI (ew (A:=[_,_])).symm) ?_
   repeat' (first|refine IF a5 G9 ?_|(apply aS;first|refine aQ a5 ?_|refine aG a5 ?_)|fail)
   refine aa a5 1 rfl rfl rfl rfl rfl rfl (by rw [Nat.ble_eq,List.length_set];exact hPl) ?_
   repeat' (first|refine IT ?_|refine IF a5 G9 ?_|(apply aV;refine aU ?_)|fail)
   exact aC (r+1,q') rfl ⟨by rw [Iv];rfl,trivial⟩ (by dsimp only;omega) (by dsimp only;omega) (fun _ _ h=>by dsimp only;rw [hrs];dsimp only;rw [List.map_append];simp only [f4,List.set_set] at h;exact h)
  have hrc:r=c:=by have:=Ix h;omega
  subst hrc
  generalize eM s n q.Kind st.1.2 r p2.2=R at hrl hstep ⊢
  have hset:(cs.set (0+((j:Int)).toNat * 3+2) (.vec qv 6 (R.1.map bB)))[0+((j:Int)).toNat * 3+2]?=some (.vec qv 6 (R.1.map bB)):=List.getElem?_set_self hPl
  repeat' (first|refine IT ?_|refine IF a5 G9 ?_|(apply aV;refine aU ?_)|fail)
  refine bh (bO (L':=[dH b s (gz F (yA i (some (ob,ocs,ocap)))) R.2,(ob,.box (cs.set (0+((j:Int)).toNat * 3+2) (.vec qv 6 (R.1.map bB))) 59)]) (List.Sublist.cons_cons _ (List.Sublist.cons_cons _ (List.nil_sublist _)))) ?_
  refine bh (bq 1 (cs':=(cs.set (0+((j:Int)).toNat * 3+2) (.vec qv 6 (R.1.map bB))).set (0+((j:Int)).toNat * 3+2) (.imm 6 (R.1.map bB))) rfl fun σ vs h=>cr h hset fun v hv=>VR.im hv) ?_
  rw [List.set_set]
  exact aC (j+1,cs.set (0+((j:Int)).toNat * 3+2) (.imm 6 (R.1.map bB))) rfl ⟨by rw [Iv];rfl,trivial⟩ ⟨by dsimp only;omega,by dsimp only;rw [List.length_set];exact h1,h2,h3,by rw [hstep,hP];dsimp only [ret];rw [List.take_set,h4];exact Bq hq⟩ (by dsimp only;omega) (fun _ _ h=>by dsimp only;rw [hstep];exact h)
 have hji:j=i:=by have:=Ix h;omega
 subst hji
 generalize hT:eX s n st.1.2 st.1.1 j st.2=T at h4 ⊢
 have hTl:T.1.length=j:=by rw [←hT,(hfi j).1];exact hln.1
 repeat' (first|refine IT ?_|fail)
 refine bh (aI (List.Perm.swap _ _ _)) ?_
 refine bh (rZ (k:=5) (n:=j) (cap:=ocap) (l:=T.1.map bC) rfl (by rw [h4,Bo _ _ _ (by omega)]) h1 (fun q hq=>by
  obtain ⟨x,_,rfl⟩:=List.mem_map.1 hq
  rfl) (by rw [Jz];exact hTl) h2 h3) ?_
 exact cA rfl rfl
end Go.Proofs.YtpmdfoaadejmkaaGreatDoor
namespace Go.Proofs.YtpmdfoaadejmkaaGreatDoor
variable (s:List Int)
def lp (a:di):Int×Int:=(a.Kind,a.Class)
structure CE (cl:Int) (mark:Bool) (l:List di):Prop where
 sub:(l.map lp).Sublist (fU cl)
 at':∀a∈l,(0≤a.X∧a.X≤1000)∧(-200≤a.Y∧a.Y≤800)∧(a.Kind=2→mark=true)
theorem tj {cl:Int} {i:Nat} (h:i < 5):(fU cl)[i]?=some ((fU cl).getD i (0,0)):=by
 rw [List.getD_eq_getElem?_getD,Iz (show i < (fU cl).length from h)]
 rfl
theorem tk (mark:Bool) (cl:Int):bL (eB s mark cl 5) (CE cl mark):=by
 refine (bL.runs (b:=[]) (fun i (l:List di)=>(l.map lp).Sublist ((fU cl).take i)∧∀a∈l,(0≤a.X∧a.X≤1000)∧(-200≤a.Y∧a.Y≤800)∧(a.Kind=2→mark=true)) 5 ⟨List.nil_sublist _,fun a ha=>by cases ha⟩ fun i l hi ⟨h1,h2⟩=>(bL.any _).bnd fun z _=>bL.ite (fun h3=>(cI s (by omega)).bnd fun x hx=>(cI s (by omega)).bnd fun y hy=>bL.ret ⟨?_,fun a ha=>?_⟩) fun _=>bL.ret ⟨?_,h2⟩).mono fun l ⟨h1,h2⟩=>⟨h1,h2⟩
 ·rw [List.take_add_one,tj hi,List.map_append]
  exact h1.append (List.Sublist.refl _)
 ·rcases Js ha with ha | ha
  ·exact h2 a ha
  ·rw [Jr ha]
   refine ⟨by dsimp only;omega,by dsimp only;omega,fun hk=>?_⟩
   rcases h3.2 with h4 | h4
   ·exact absurd hk h4
   ·exact h4
 ·rw [List.take_add_one]
  exact h1.trans (List.sublist_append_left _ _)
def Hh (a b:dw):Prop:=a.Region < b.Region∨(a.Region=b.Region∧a.Point < b.Point)
structure CF (R pts:Nat) (l:List dw):Prop where
 up:l.Pairwise Hh
 len:l.length≤R * (pts+1)
 dom:∀d∈l,(0≤d.Region∧d.Region < R)∧(-1≤d.Point∧d.Point < pts)∧(-20≤d.X∧d.X≤20)∧(-20≤d.Y∧d.Y≤20)∧(d.Point= -1→d.Y=0)
structure ta (r p pts:Nat) (l:List dw):Prop where
 up:l.Pairwise Hh
 len:l.length≤r * (pts+1)+p
 dom:∀d∈l,(0≤d.Region∧(d.Region < r∨(d.Region=r∧d.Point < (p:Int) - 1)))∧(-1≤d.Point∧d.Point < pts)∧(-20≤d.X∧d.X≤20)∧(-20≤d.Y∧d.Y≤20)∧(d.Point= -1→d.Y=0)
theorem ta.more {r p pts:Nat} {l:List dw} (h:ta r p pts l):ta r (p+1) pts l:=⟨h.up,by have:=h.len;omega,fun d hd=>by have:=h.dom d hd;omega⟩
theorem ta.add {r p pts:Nat} {l:List dw} (h:ta r p pts l) {x y:Int} (hp:p≤pts) (hx: -20≤x∧x≤20) (hy: -20≤y∧y≤20) (h0:p=0→y=0):ta r (p+1) pts (l++[⟨r,(p:Int) - 1,x,y⟩]):=by
 refine ⟨?_,by have:=h.len;simp;omega,fun d hd=>?_⟩
 ·rw [List.pairwise_append]
  refine ⟨h.up,List.pairwise_singleton ..,fun a ha b hb=>?_⟩
  rw [Jr hb]
  have:=h.dom a ha
  unfold Hh
  dsimp only
  omega
 ·rcases Js hd with hd | hd
  ·have:=h.dom d hd;omega
  ·rw [Jr hd]
   dsimp only
   refine ⟨by omega,by omega,hx,hy,fun hq=>h0 (by omega)⟩
theorem px (pts R:Nat):bL (fW s pts R) (CF R pts):=by
 refine (bL.runs (fun r l=>ta r 0 pts l) R ⟨.nil,by simp,fun d hd=>by cases hd⟩ fun r l _ h=>?_).mono fun l h=>⟨h.up,h.len,fun d hd=>by have:=h.dom d hd;omega⟩
 refine (bL.runs (fun p l=>ta r p pts l) (pts+1) h fun p l hp h=>(bL.any _).bnd fun z _=>bL.ite (fun _=>(cI s (by omega)).bnd fun x hx=>bL.ite (fun h0=>bL.ret ?_) fun h0=>(cI s (by omega)).bnd fun y hy=>bL.ret ?_) fun _=>bL.ret h.more).mono fun l h=>⟨h.up,by have:=h.len;rw [Nat.add_mul];omega,fun d hd=>by have:=h.dom d hd;omega⟩
 ·subst h0
  exact h.add (by omega) (by omega) (by omega) fun _=>rfl
 ·exact h.add (by omega) (by omega) (by omega) fun e=>absurd e h0
structure xA (R n:Nat) (g:bn):Prop where
 name:g.Name=cD n
 adv:100≤g.Advance∧g.Advance≤1000
 out:∃k,k≤2∧tc k (g.Points,g.Ends)
 parts:g.Parts=[]∨(1 < n∧∃x y:Int,g.Parts=[⟨1,x,y⟩]∧(-200≤x∧x≤200)∧0≤y∧y≤200)
 anch:∃cl,(0≤cl∧cl < 2)∧CE cl g.Mark g.Anchors
 dels:CF R g.Points.length g.Deltas
 hint:i9 45 g.Hint
theorem ym {R fn n:Nat} (hf:fn≤1000):bL (jI s R fn n) (xA R n):=by
 have hparts:bL (iw s n) fun ps=>ps=[]∨(1 < n∧∃x y:Int,ps=[⟨1,x,y⟩]∧(-200≤x∧x≤200)∧0≤y∧y≤200):=by
  refine bL.ite (fun h1=>(bL.any _).bnd fun z _=>bL.ite (fun _=>(cI s (by omega)).bnd fun x hx=>(cI s (by omega)).bnd fun y hy=>bL.ret (.inr ⟨h1,_,_,rfl,by omega,by omega⟩)) fun _=>bL.ret (.inl rfl)) fun _=>bL.ret (.inl rfl)
 refine (cI s (by omega)).bnd fun ad had=>(bL.any _).bnd fun mk _=>(og s).bnd fun o ho=>hparts.bnd fun ps hps=>(cI s (by omega)).bnd fun cl hcl=>(tk s _ cl).bnd fun an han=>(px s _ R).bnd fun de hde=>(bL.any _).bnd fun _ _=>?_
 have hl:o.1.length≤10:=by obtain ⟨k,h1,h2⟩:=ho;have:=h2.len;omega
 exact (u2 s (n:=o.1.length) (funcs:=fn) (most:=6) (by omega) (by omega) (by omega)).bnd fun h hh=>bL.ret ⟨rfl,by dsimp only;omega,ho,hps,⟨cl,hcl,han⟩,hde,hh⟩
def nK (t:eO):Prop:=rX 0 t=0
structure fG (f:aZ):Prop where
  unit:16≤f.Unit∧f.Unit≤4096
  glyN:2≤f.Glyphs.length∧f.Glyphs.length≤10
  gly:∀(i:Nat) g,f.Glyphs[i]?=some g→xA f.Regions.length i g
  chars:f.Chars.length≤16
  charR:(f.Chars.map fS.Rune).Sublist fE
  charG:∀c∈f.Chars,0≤c.Glyph∧c.Glyph < f.Glyphs.length
  looks:zy f.Glyphs.length f.Lookups
  featN:(f.Features.map bV.Name).Sublist fD
  featL:∀t∈f.Features,t.Lookups.Pairwise (· < ·)∧t.Lookups.length≤6∧∀z∈t.Lookups,0≤z∧z < f.Lookups.length
  axes:f.Axes.length≤2
  axisN:f.Axes.map eh.Name=(List.range f.Axes.length).map (iQ tz)
  axis:∀a∈f.Axes,(-200≤a.Min∧a.Min≤0)∧a.Def=0∧0≤a.Max∧a.Max≤300
  regs:f.Regions.length≤3
  reg:∀r∈f.Regions,r.length=f.Axes.length∧∀t∈r,nK t
  funcs:f.Funcs.length≤2
  func:∀c∈f.Funcs,i9 45 c
  cvt:f.Cvt.length≤3
  cvtM:∀z∈f.Cvt,-100≤z∧z < 400
theorem tY {α:Type} {l:List α} {i:Nat} (h:i < l.length) (d:α):l.getD i d∈l:=by
 rw [List.getD_eq_getElem?_getD,Iz h]
 exact List.getElem_mem h
theorem l6 {α:Type} {l:List α} {i:Nat} (h:i < l.length) (d:α):l[i]?=some (l.getD i d):=by
 rw [List.getD_eq_getElem?_getD,Iz h]
 rfl
theorem Bv:bL (Bu s) fG:=by
  have hax:∀k:Nat,bL (kp s k) fun l=>l.length=k∧l.map eh.Name=(List.range k).map (iQ tz)∧∀a∈l,(-200≤a.Min∧a.Min≤0)∧a.Def=0∧0≤a.Max∧a.Max≤300:=fun k=>by
    refine bL.runs (fun i (l:List eh)=>l.length=i∧l.map eh.Name=(List.range i).map (iQ tz)∧∀a∈l,(-200≤a.Min∧a.Min≤0)∧a.Def=0∧0≤a.Max∧a.Max≤300) k ⟨rfl,rfl,fun a ha=>by cases ha⟩ fun i l _ ⟨h1,h2,h3⟩=>(cI s (by omega)).bnd fun a ha=>(cI s (by omega)).bnd fun b hb=>bL.ret ⟨by simp [h1],by simp [h2,List.range_succ],fun x hx=>?_⟩
    rcases Js hx with hx | hx
    · exact h3 x hx
    · rw [Jr hx];dsimp only;omega
  have hrg:∀k:Nat,bL (fv s k) fun l=>l.length≤3∧∀r∈l,r.length=k∧∀t∈r,nK t:=fun k=>by
    refine bL.ite (fun _=>bL.ret ⟨Nat.zero_le _,fun r hr=>by cases hr⟩) fun _=>(cI s (by omega)).bnd fun n hn=>?_
    refine (bL.runs (fun i (l:List (List eO))=>l.length=i∧∀r∈l,r.length=k∧∀t∈r,nK t) n.toNat ⟨rfl,fun a ha=>by cases ha⟩ fun i l _ ⟨h1,h2⟩=>?_).mono fun l ⟨h1,h2⟩=>⟨by omega,h2⟩
    refine (bL.runs (fun i (r:List eO)=>r.length=i∧∀t∈r,nK t) k ⟨rfl,fun a ha=>by cases ha⟩ fun i r _ ⟨h1,h2⟩=>(cI s (by omega)).bnd fun z hz=>bL.ret ⟨by simp [h1],fun x hx=>?_⟩).bnd fun r hr=>bL.ret ⟨by simp [h1],fun x hx=>?_⟩
    · rcases Js hx with hx | hx
      · exact h2 x hx
      · rw [Jr hx]
        have:∀t∈jS,nK t:=by unfold nK;decide
        exact this _ (tY (by simp only [jS,List.length_cons,List.length_nil];omega) _)
    · rcases Js hx with hx | hx
      · exact h2 x hx
      · rw [Jr hx];exact hr
  have hfu:∀k:Nat,k≤1000→bL (ij s k) fun l=>l.length=k∧∀c∈l,i9 45 c:=fun k hk=>by
    refine bL.runs (fun i (l:List (List fP))=>l.length=i∧∀c∈l,i9 45 c) k ⟨rfl,fun a ha=>by cases ha⟩ fun i l hi ⟨h1,h2⟩=>(bL.any _).bnd fun _ _=>(u2 s (by omega) (by omega) (by omega)).bnd fun h hh=>bL.ret ⟨by simp [h1],fun x hx=>?_⟩
    rcases Js hx with hx | hx
    · exact h2 x hx
    · rw [Jr hx];exact hh
  have hcv:∀k:Nat,bL (pu s k) fun l=>l.length=k∧∀z∈l,-100≤z∧z < 400:=fun k=>by
    refine bL.runs (fun i (l:List Int)=>l.length=i∧∀z∈l,-100≤z∧z < 400) k ⟨rfl,fun a ha=>by cases ha⟩ fun i l hi ⟨h1,h2⟩=>(cI s (by omega)).bnd fun z hz=>bL.ret ⟨by simp [h1],fun x hx=>?_⟩
    rcases Js hx with hx | hx
    · exact h2 x hx
    · rw [Jr hx];omega
  have hgl:∀R fn k:Nat,fn≤1000→bL (fY s R fn k) fun l=>l.length=k∧∀(i:Nat) g,l[i]?=some g→xA R i g:=fun R fn k hf=>by
    refine bL.runs (fun i (l:List bn)=>l.length=i∧∀(j:Nat) g,l[j]?=some g→xA R j g) k ⟨rfl,fun j g h=>by simp at h⟩ fun i l hi ⟨h1,h2⟩=>(ym s hf).bnd fun g hg=>bL.ret ⟨by simp [h1],fun j x hx=>?_⟩
    rcases Nat.lt_or_ge j l.length with h | h
    · rw [List.getElem?_append_left h] at hx
      exact h2 j x hx
    · have hj:=(Ju hx).1
      have:j=l.length:=by simp at hj;omega
      subst this
      rw [List.getElem?_append_right (Nat.le_refl _),Nat.sub_self] at hx
      cases hx
      rw [h1]
      exact hg
  have hch:∀n:Int,0 < n→bL (gJ s n 16) fun l=>(l.map fS.Rune).Sublist fE∧∀c∈l,0≤c.Glyph∧c.Glyph < n:=fun n hn=>by
    refine (bL.runs (b:=[]) (fun i (l:List fS)=>(l.map fS.Rune).Sublist (fE.take i)∧∀c∈l,0≤c.Glyph∧c.Glyph < n) 16 ⟨List.nil_sublist _,fun a ha=>by cases ha⟩ fun i l hi ⟨h1,h2⟩=>(bL.any _).bnd fun z _=>bL.ite (fun _=>(cI s hn).bnd fun g hg=>bL.ret ⟨?_,fun x hx=>?_⟩) fun _=>bL.ret ⟨?_,h2⟩).mono fun l h=>h
    · rw [List.take_add_one,l6 (l:=fE) (i:=i) hi 0,List.map_append]
      exact h1.append (List.Sublist.refl _)
    · rcases Js hx with hx | hx
      · exact h2 x hx
      · rw [Jr hx];exact hg
    · rw [List.take_add_one]
      exact h1.trans (List.sublist_append_left _ _)
  have hft:∀n:Nat,n≤6→bL (gL s n 8) fun l=>(l.map bV.Name).Sublist fD∧∀t∈l,t.Lookups.Pairwise (· < ·)∧t.Lookups.length≤6∧∀z∈t.Lookups,0≤z∧z < n:=fun n hn=>by
    have hask:bL (na s n) fun l=>l.Pairwise (· < ·)∧l.length≤n∧∀z∈l,0≤z∧z < n:=by
      refine bL.runs (fun i (l:List Int)=>l.Pairwise (· < ·)∧l.length≤i∧∀z∈l,0≤z∧z < i) n ⟨.nil,Nat.le_refl _,fun a ha=>by cases ha⟩ fun i l hi ⟨h1,h2,h3⟩=>(bL.any _).bnd fun z _=>bL.ret ?_
      split
      · refine ⟨?_,by simp;omega,fun x hx=>?_⟩
        · rw [List.pairwise_append]
          exact ⟨h1,List.pairwise_singleton ..,fun a ha b hb=>by rw [Jr hb];have:=h3 a ha;omega⟩
        · rcases Js hx with hx | hx
          · have:=h3 x hx;omega
          · rw [Jr hx];omega
      · exact ⟨h1,by omega,fun x hx=>by have:=h3 x hx;omega⟩
    refine (bL.runs (b:=[]) (fun i (l:List bV)=>(l.map bV.Name).Sublist (fD.take i)∧∀t∈l,t.Lookups.Pairwise (· < ·)∧t.Lookups.length≤6∧∀z∈t.Lookups,0≤z∧z < n) 8 ⟨List.nil_sublist _,fun a ha=>by cases ha⟩ fun i l hi ⟨h1,h2⟩=>hask.bnd fun r hr=>(bL.any _).bnd fun z _=>bL.ret ?_).mono fun l h=>h
    split
    · refine ⟨?_,fun x hx=>?_⟩
      · rw [List.take_add_one,l6 (l:=fD) (i:=i) hi ByteArray.empty,List.map_append]
        exact h1.append (List.Sublist.refl _)
      · rcases Js hx with hx | hx
        · exact h2 x hx
        · rw [Jr hx];exact ⟨hr.1,by have:=hr.2.1;dsimp only;omega,hr.2.2⟩
    · rw [List.take_add_one]
      exact ⟨h1.trans (List.sublist_append_left _ _),h2⟩
  refine (cI s (by omega)).bnd fun u hu=>(cI s (by omega)).bnd fun k hk=>(hax _).bnd fun ax ⟨ha1,ha2,ha3⟩=>(hrg _).bnd fun rg ⟨hr1,hr2⟩=>(cI s (by omega)).bnd fun k2 hk2=>(hfu _ (by omega)).bnd fun fu ⟨hf1,hf2⟩=>(cI s (by omega)).bnd fun k3 hk3=>(hcv _).bnd fun cv ⟨hc1,hc2⟩=>(cI s (by omega)).bnd fun k4 hk4=>(hgl _ _ _ (by omega)).bnd fun gl ⟨hg1,hg2⟩=>(hch gl.length (by omega)).bnd fun ch ⟨hh1,hh2⟩=>(od s (n:=gl.length) (by omega)).bnd fun lk hlk=>(hft lk.length hlk.len).bnd fun ft ⟨ht1,ht2⟩=>bL.ret ?_
  refine ⟨?_,by dsimp only;omega,hg2,?_,hh1,hh2,hlk,ht1,ht2,by dsimp only;omega,by dsimp only;rw [ha1];exact ha2,ha3,hr1,fun r hr=>⟨by dsimp only;rw [ha1];exact (hr2 r hr).1,(hr2 r hr).2⟩,by dsimp only;omega,hf2,by dsimp only;omega,hc2⟩
  · have:∀j < 4,16≤lT.getD j 0∧lT.getD j 0≤4096:=by decide
    exact this _ (by omega)
  · have:=hh1.length_le
    simpa [fE] using this
theorem oS:fG (k5 s):=Bv s ⟨0,0⟩
end Go.Proofs.YtpmdfoaadejmkaaGreatDoor
