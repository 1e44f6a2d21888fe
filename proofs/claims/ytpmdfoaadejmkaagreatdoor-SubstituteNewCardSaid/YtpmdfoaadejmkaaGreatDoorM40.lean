/-
  The maker: lookups.
-/
import Derived.Test.YtpmdfoaadejmkaaGreatDoorM39
namespace Go.Proofs.YtpmdfoaadejmkaaGreatDoor
open Go.RowKit
section
attribute [local irreducible] AT bP AX AO Av Kt bb dh DA cG
variable (s:List Int) (hs:s.length≤1000000) (F:MF)
include hs
theorem yK (k:Nat) (m:MS):(eR s k m).1.1.length=k∧(eR s k m).1.2.length≤k:=by
 have _:=hs
 clear hs
 induction k with
 | zero=>exact ⟨rfl,Nat.le_refl _⟩
 | succ k ih=>
  have:eR s (k+1) m=(cm (dr s 10) fun z=>cm (dr s 3) fun y=>cQ ((eR s k m).1.1++[(⟨gq.getD z.toNat 0,decide (y=0),[]⟩:aY)],if gq.getD z.toNat 0≤4 then (eR s k m).1.2++[(k:Int)] else (eR s k m).1.2)) (eR s k m).2:=rfl
  rw [this]
  simp only [cm,cQ]
  refine ⟨by simp [ih.1],?_⟩
  split
  ·simp;omega
  ·omega
theorem EQ (n:Int) (calls:List Int) (l:List aY) (k:Nat) (m:MS):(fO s n calls l k m).1.length=l.length∧∀j,k≤j→(fO s n calls l k m).1[j]?=l[j]?:=by
 have _:=hs
 clear hs
 induction k with
 | zero=>exact ⟨rfl,fun j _=>rfl⟩
 | succ k ih=>
  have:fO s n calls l (k+1) m=(match (fO s n calls l k m).1[k]? with
   | none=>cQ (fO s n calls l k m).1
   | some q=>if q.Kind≥7 then cQ (fO s n calls l k m).1 else cm (dr s 3) fun c=>cm (fD s n q.Kind calls (1+c).toNat) fun rs=>cQ ((fO s n calls l k m).1.set k { q with Rules:=rs })) (fO s n calls l k m).2:=rfl
  rw [this]
  cases hq:(fO s n calls l k m).1[k]? with
  | none=>exact ⟨ih.1,fun j hj=>ih.2 j (by omega)⟩
  | some q=>
   dsimp only
   by_cases h7:q.Kind≥7
   ·rw [if_pos h7]
    exact ⟨ih.1,fun j hj=>ih.2 j (by omega)⟩
   ·rw [if_neg h7]
    simp only [cm,cQ]
    refine ⟨by rw [List.length_set];exact ih.1,fun j hj=>?_⟩
    rw [List.getElem?_set_ne (by omega)]
    exact ih.2 j (by omega)
theorem zu (n kind:Int) (calls:List Int) (k:Nat) (m:MS):(fD s n kind calls k m).1.length=k:=by
 have _:=hs
 clear hs
 induction k with
 | zero=>rfl
 | succ k ih=>
  have:fD s n kind calls (k+1) m=((fD s n kind calls k m).1++[(io s n kind calls (fD s n kind calls k m).2).1],(io s n kind calls (fD s n kind calls k m).2).2):=rfl
  rw [this]
  simp [ih]
abbrev iE (F:MF) (v:AV):MF:={ F with lk:=v }
set_option maxHeartbeats 16000000 in
theorem yU {kg:Option (Nat×Nat)} {gl:List (List AV)} (hF:F.gl= .vec kg 9 gl) (hl:F.lk=bZ) (n:Nat) (hn:gl.length=n) (h0:0 < n∧n≤1000) (b:Nat) (m:MS):AC Tryz.prog 93 [GP b] [eC b s F m] fun _ L=>L=[eC b s (iE F (.imm 3 ((jG s n m).1.map br))) (jG s n m).2]:=by
 refine aV Tryz.func93 rfl Tryz.ntmps93 rfl fun B=>?_
 refine W01 ?_
 refine cS ?_
 have hk:=cH s hs m.a (n:=7) (by omega)
 have hk:0≤(dr s 7 m).1∧(dr s 7 m).1 < 7:=hk
 generalize e1:dr s 7 m=p1 at hk ⊢
 obtain ⟨k,hkk⟩:∃k:Nat,p1.1=k:=⟨p1.1.toNat,by omega⟩
 rw [hkk]
 have hFF:F=iE F bZ:=by
  cases F
  simp only at hl
  rw [hl]
 rw [hFF]
 refine W03 ?_
 refine bU (bH (t:=3) (c':= .vec none 1 []) rfl fun σ v h=>cW 1 h) ?_
 refine aM [0,2] (α:=Nat×Option (Nat×Nat)×Option (Nat×List AV×Nat)) (fun x=>[(4,aK x.1),(3,.vec x.2.1 1 (aW (eR s x.1 p1.2).1.2))]) (fun x=>x.1≤k∧Ax x.1 0 (eR s x.1 p1.2).1.1 x.2.2) (fun x=>eC b s (iE F (Ct x.1 x.2.2)) (eR s x.1 p1.2).2::(Fl x.2.2++(tok x.2.1 3 1 (aW (eR s x.1 p1.2).1.2).length++[]))) (fun x=>k - x.1) (0,none,none) rfl ⟨rfl,rfl,trivial⟩ ⟨Nat.zero_le _,rfl⟩ (fun _ _ h=>by simpa [eR,iV,cQ,tok,aW,Fl,Ct] using h) ?_
 rintro ⟨i,q,o⟩ ⟨hi,ho⟩
 dsimp only at hi ho ⊢
 have hln:=yK s hs i p1.2
 try dsimp only [Ns,Nr,Nq,Nk]
 refine W01 ?_
 refine aj rfl (fun h=>?_) (fun h=>?_)
 ·have hil:i < k:=by have:=Ny h;omega
  have hstep:eR s (i+1) p1.2=(cm (dr s 10) fun z=>cm (dr s 3) fun y=>cQ ((eR s i p1.2).1.1++[(⟨gq.getD z.toNat 0,decide (y=0),[]⟩:aY)],if gq.getD z.toNat 0≤4 then (eR s i p1.2).1.2++[(i:Int)] else (eR s i p1.2).1.2)) (eR s i p1.2).2:=rfl
  generalize eR s i p1.2=st at hln ho hstep ⊢
  have hil2:(aW st.1.2).length=st.1.2.length:=aJ _
  refine W1L ?_
  refine cS ?_
  have hz:=cH s hs st.2.a (n:=10) (by omega)
  have hz:0≤(dr s 10 st.2).1∧(dr s 10 st.2).1 < 10:=hz
  unfold cm at hstep
  generalize dr s 10 st.2=z at hz hstep ⊢
  dsimp only at hstep
  have hzk:(aW gq)[z.1.toNat]?=some [aK (gq.getD z.1.toNat 0)]:=bK (by rw [List.getD_eq_getElem?_getD,Nz (show z.1.toNat < gq.length by simp [gq];omega)];rfl)
  generalize hkd:gq.getD z.1.toNat 0=kd at hzk hstep
  refine W0i ?_
  refine dM [.cell (b,5,Ct i o)] 13 [(0,.v),(1,.v),(2,.v),(3,.v),(4,.v),(5,.k),(6,.v),(7,.v),(8,.f),(9,.v),(10,.v),(11,.v),(12,.e)] none ?_ trivial rfl (by kernel_rfl) (by kernel_rfl) (by kernel_rfl) bQ (by kernel_rfl) rfl
  refine W09 ?_
  refine eo a5 0 rfl rfl rfl (c5 0 rfl rfl ci) (by first | trivial | rfl) ?_
  refine W09 ?_
  refine f8 (c5 0 rfl rfl ci) ?_
  generalize dr s 3 z.2=y at hstep ⊢
  refine W0V ?_
  have hst1:st.1.1.length=i:=hln.1
  rcases o with _ | ⟨ob,ocs,ocap⟩
  ·have hi0:i=0:=ho
   subst hi0
   refine yi a5 rfl rfl rfl rfl rfl rfl rfl (by first | trivial | rfl) fun b' cs' cap' h1 h2 h3 h4=>?_
   have hrow:Ax (0+1) 0 (st.1.1++[⟨kd,decide (y.1=0),[]⟩]) (some (b',cs',cap')):=by
    refine ⟨h1,by omega,h4,?_⟩
    rw [List.eq_nil_of_length_eq_zero (by omega:st.1.1.length=0)]
    exact h2
   refine NP [0,2,3,4,5,21,33] IG ?_
   refine aL (aQ (L':=eC b s (iE F (Ct 0 none)) y.2::(Fl (some (b',cs',cap'))++(tok q 3 1 (aW st.1.2).length++[]))) (List.Perm.swap _ _ _)) ?_
   refine W05 ?_
   refine aj rfl (fun hk4=>?_) (fun hk4=>?_)
   ·rw [if_pos (Ny hk4)] at hstep
    dsimp only [cQ] at hstep
    refine W0g ?_
    refine NS a5 _ NB (ff (A:=[_,_])) (by simp [aJ];omega) (by simp [aJ];omega) rfl fun q'=>?_
    refine aL (aQ (ff (A:=[_,_])).symm) ?_
    refine W02 ?_
    exact aC (0+1,q',some (b',cs',cap')) rfl ⟨rfl,by rw [hstep];dsimp only;rw [show aW (st.1.2++[((0:Nat):Int)])=aW st.1.2++[[aK ((0:Nat):Int)]] from List.map_append ..];rfl,trivial⟩ ⟨by dsimp only;omega,by rw [hstep];exact hrow⟩ (by dsimp only;omega) (fun _ _ h=>by dsimp only;rw [hstep];dsimp only;rw [show aW (st.1.2++[((0:Nat):Int)])=aW st.1.2++[[aK ((0:Nat):Int)]] from List.map_append ..];exact h)
   ·rw [if_neg (Nx hk4)] at hstep
    dsimp only [cQ] at hstep
    refine W02 ?_
    exact aC (0+1,q,some (b',cs',cap')) rfl ⟨rfl,by rw [hstep];rfl,trivial⟩ ⟨by dsimp only;omega,by rw [hstep];exact hrow⟩ (by dsimp only;omega) (fun _ _ h=>by dsimp only;rw [hstep];exact h)
  ·obtain ⟨ho1,ho2,ho3,ho4⟩:=ho
   refine BT a5 1 rfl rfl rfl rfl rfl rfl rfl ho1 ho2 ho3 (by unfold maxLen;omega) (by omega) (by first | trivial | rfl) fun b' cs' cap' h1 h2 h3 h4=>?_
   have hrow:Ax (i+1) 0 (st.1.1++[⟨kd,decide (y.1=0),[]⟩]) (some (b',cs',cap')):=by
    refine ⟨h1,h3,h4,?_⟩
    rw [h2,ho4,Ay]
    rfl
   refine NP [0,2,3,4,5,21,33] IG ?_
   refine aL (aQ (L':=eC b s (iE F (Ct i (some (ob,ocs,ocap)))) y.2::(Fl (some (b',cs',cap'))++(tok q 3 1 (aW st.1.2).length++[]))) (List.Perm.swap _ _ _)) ?_
   refine W05 ?_
   refine aj rfl (fun hk4=>?_) (fun hk4=>?_)
   ·rw [if_pos (Ny hk4)] at hstep
    dsimp only [cQ] at hstep
    refine W0g ?_
    refine NS a5 _ NB (ff (A:=[_,_])) (by simp [aJ];omega) (by simp [aJ];omega) rfl fun q'=>?_
    refine aL (aQ (ff (A:=[_,_])).symm) ?_
    refine W02 ?_
    exact aC (i+1,q',some (b',cs',cap')) rfl ⟨by rw [Nv];rfl,by rw [hstep];dsimp only;rw [show aW (st.1.2++[(i:Int)])=aW st.1.2++[[aK (i:Int)]] from List.map_append ..];rfl,trivial⟩ ⟨by dsimp only;omega,by rw [hstep];exact hrow⟩ (by dsimp only;omega) (fun _ _ h=>by dsimp only;rw [hstep];dsimp only;rw [show aW (st.1.2++[(i:Int)])=aW st.1.2++[[aK (i:Int)]] from List.map_append ..];exact h)
   ·rw [if_neg (Nx hk4)] at hstep
    dsimp only [cQ] at hstep
    refine W02 ?_
    exact aC (i+1,q,some (b',cs',cap')) rfl ⟨by rw [Nv];rfl,by rw [hstep];rfl,trivial⟩ ⟨by dsimp only;omega,by rw [hstep];exact hrow⟩ (by dsimp only;omega) (fun _ _ h=>by dsimp only;rw [hstep];exact h)
 have hil:i=k:=by have:=Nx h;omega
 subst hil
 have hhd:=tP s i p1.2
 generalize e2:eR s i p1.2=st at hln ho hhd ⊢
 have hv:jG s n m=fO s n st.1.2 st.1.1 i st.2:=by
  unfold jG cm
  rw [e1]
  dsimp only
  rw [hkk,Int.toNat_natCast,e2]
 rw [hv]
 have hfi:=fun j=>EQ s hs n st.1.2 st.1.1 j st.2
 refine W03 ?_
 refine bU (bF (L':=eC b s (iE F (Ct i o)) st.2::(Fl o++[])) (List.Sublist.cons_cons _ ((List.nil_sublist _).append_left _))) ?_
 rcases o with _ | ⟨ob,ocs,ocap⟩
 ·have hi0:i=0:=ho
  subst hi0
  refine aM [0,2,3] (α:=Unit) (fun _=>[(6,aK 0)]) (fun _=>True) (fun _=>[eC b s (iE F bZ) st.2]) (fun _=>0) () rfl ⟨rfl,trivial⟩ trivial (fun _ _ h=>h) ?_
  intro _ _
  try dsimp only [Ns,Nr,Nq,Nk]
  refine W0W ?_
  have hnil:(fO s n st.1.2 st.1.1 0 st.2).1=[]:=List.eq_nil_of_length_eq_zero (by rw [(hfi 0).1];exact hln.1)
  refine bf (bL 0 (cs':=Lv s (iE F (.imm 3 [])) st.2) rfl fun σ vs h=>cN (k:=5) (c:=bZ) h rfl fun v hv=>jm 3 hv) (cD rfl ?_)
  rw [hnil]
  rfl
 refine aM [0,2,3] (α:=Nat×List AV) (fun x=>[(6,aK x.1)]) (fun x=>x.1≤i∧Ax i x.1 (fO s n st.1.2 st.1.1 x.1 st.2).1 (some (ob,x.2,ocap))) (fun x=>[eC b s (iE F (Ct i (some (ob,ocs,ocap)))) (fO s n st.1.2 st.1.1 x.1 st.2).2,(ob,.box x.2 59)]) (fun x=>i - x.1) (0,ocs) rfl ⟨rfl,trivial⟩ ⟨Nat.zero_le _,ho⟩ (fun _ _ h=>h) ?_
 rintro ⟨j,cs⟩ ⟨hj,h1,h2,h3,h4⟩
 dsimp only at hj h1 h2 h3 h4 ⊢
 try dsimp only [Ns,Nr,Nq,Nk]
 refine W01 ?_
 refine aj rfl (fun h=>?_) (fun h=>?_)
 ·have hji:j < i:=by have:=Ny h;omega
  have hfj:=hfi j
  have hstep:fO s n st.1.2 st.1.1 (j+1) st.2=(match (fO s n st.1.2 st.1.1 j st.2).1[j]? with
   | none=>cQ (fO s n st.1.2 st.1.1 j st.2).1
   | some q=>if q.Kind≥7 then cQ (fO s n st.1.2 st.1.1 j st.2).1 else cm (dr s 3) fun c=>cm (fD s n q.Kind st.1.2 (1+c).toNat) fun rs=>cQ ((fO s n st.1.2 st.1.1 j st.2).1.set j { q with Rules:=rs })) (fO s n st.1.2 st.1.1 j st.2).2:=rfl
  generalize fO s n st.1.2 st.1.1 j st.2=T at hfj h4 hstep ⊢
  have hTl:T.1.length=i:=by rw [hfj.1];exact hln.1
  obtain ⟨q,hq⟩:∃q,T.1[j]?=some q:=⟨_,Nz (by omega)⟩
  have hq2:st.1.1[j]?=some q:=by rw [←hfj.2 j (Nat.le_refl _)];exact hq
  have hqm:=Nw hq2
  have hqk:=hhd.kinds q hqm
  have hqn:=hhd.none q hqm
  rw [hq] at hstep
  dsimp only at hstep
  have hcell:∀c,c < 3→cs[j * 3+c]?=(fZ j j q)[c]?:=fun c hc=>by
   have e:=uQ j T.1 0 j c hc
   rw [hq,Option.bind_some,Nat.zero_add,←h4,List.getElem?_take,if_pos (by omega)] at e
   exact e
  have hP:∀c,0+((j:Int)).toNat * 3+c=j * 3+c:=fun c=>by rw [Int.toNat_natCast];omega
  have hc0:cs[0+((j:Int)).toNat * 3+0]?=some (aK q.Kind):=by rw [hP];exact hcell 0 (by omega)
  have hc2:cs[0+((j:Int)).toNat * 3+2]?=some bZ:=by
   rw [hP,hcell 2 (by omega)]
   simp [fZ]
  have hPl:0+((j:Int)).toNat * 3+2 < cs.length:=(Np hc2).1
  refine W0L ?_
  refine aj rfl (fun h7=>?_) (fun h7=>?_)
  ·have h7:=Ny h7
   rw [if_pos (show q.Kind≥7 from h7)] at hstep
   refine W02 ?_
   refine bf (bL 1 (cs':=cs.set (0+((j:Int)).toNat * 3+2) (.imm 6 [])) rfl fun σ vs h=>cN h hc2 fun v hv=>jm 6 hv) ?_
   exact aC (j+1,cs.set (0+((j:Int)).toNat * 3+2) (.imm 6 [])) rfl ⟨by rw [Nv];rfl,trivial⟩ ⟨by dsimp only;omega,by dsimp only;rw [List.length_set];exact h1,h2,h3,by rw [hstep,hP];dsimp only [cQ];rw [List.take_set,h4];exact HU hq hqn⟩ (by dsimp only;omega) (fun _ _ h=>by dsimp only;rw [hstep];exact h)
  have h7:=Nx h7
  rw [if_neg (show ¬q.Kind≥7 from h7)] at hstep
  unfold cm at hstep
  refine W01 ?_
  refine cS ?_
  have hc:=cH s hs T.2.a (n:=3) (by omega)
  have hc:0≤(dr s 3 T.2).1∧(dr s 3 T.2).1 < 3:=hc
  generalize dr s 3 T.2=p2 at hc hstep ⊢
  dsimp only at hstep
  obtain ⟨c,hcc⟩:∃k:Nat,1+p2.1=k:=⟨(1+p2.1).toNat,by omega⟩
  rw [hcc,Int.toNat_natCast] at hstep
  refine W0B ?_
  rw [hcc]
  refine bU (bL 1 (cs':=cs.set (0+((j:Int)).toNat * 3+2) (.vec none 6 [])) rfl fun σ vs h=>cN h hc2 fun v hv=>cW 6 hv) ?_
  refine aM [0,2,3,6,7] (α:=Nat×Option (Nat×Nat)) (fun x=>[(8,aK x.1)]) (fun x=>x.1≤c) (fun x=>[eC b s (iE F (Ct i (some (ob,ocs,ocap)))) (fD s n q.Kind st.1.2 x.1 p2.2).2,(ob,.box (cs.set (0+((j:Int)).toNat * 3+2) (.vec x.2 6 ((fD s n q.Kind st.1.2 x.1 p2.2).1.map bI))) 59)]++(tok x.2 79 6 ((fD s n q.Kind st.1.2 x.1 p2.2).1.map bI).length++[])) (fun x=>c - x.1) (0,none) rfl ⟨rfl,trivial⟩ (Nat.zero_le _) (fun _ _ h=>h) ?_
  rintro ⟨r,qv⟩ hr
  dsimp only at hr ⊢
  have hrl:=zu s hs n q.Kind st.1.2 r p2.2
  have hrs:fD s n q.Kind st.1.2 (r+1) p2.2=((fD s n q.Kind st.1.2 r p2.2).1++[(io s n q.Kind st.1.2 (fD s n q.Kind st.1.2 r p2.2).2).1],(io s n q.Kind st.1.2 (fD s n q.Kind st.1.2 r p2.2).2).2):=rfl
  try dsimp only [Ns,Nr,Nq,Nk]
  refine W01 ?_
  refine aj rfl (fun h=>?_) (fun h=>?_)
  ·have hrc:r < c:=by have:=Ny h;omega
   generalize fD s n q.Kind st.1.2 r p2.2=R at hrl hrs ⊢
   have hset:(cs.set (0+((j:Int)).toNat * 3+2) (.vec qv 6 (R.1.map bI)))[0+((j:Int)).toNat * 3+2]?=some (.vec qv 6 (R.1.map bI)):=List.getElem?_set_self hPl
   have hset0:(cs.set (0+((j:Int)).toNat * 3+2) (.vec qv 6 (R.1.map bI)))[0+((j:Int)).toNat * 3+0]?=some (aK q.Kind):=by rw [List.getElem?_set_ne (by omega)];exact hc0
   have hRl:(R.1.map bI).length=R.1.length:=Nu ..
   refine W0n ?_
   refine dM [.cell (b,5,Ct i (some (ob,ocs,ocap))),.cell (ob,0+((j:Int)).toNat * 3+2,.vec qv 6 (R.1.map bI))] 29 [(0,.v),(1,.v),(2,.v),(3,.v),(4,.k),(5,.v),(6,.v),(7,.v),(8,.v),(9,.v),(10,.k),(11,.v),(12,.v),(13,.v),(14,.k),(15,.v),(16,.v),(17,.v),(18,.v),(19,.v),(20,.l),(21,.v),(22,.v),(23,.v),(24,.l),(25,.v),(26,.f),(27,.v),(28,.f)] none ?_ trivial rfl (by kernel_rfl) (by kernel_rfl) (by kernel_rfl) bQ (by kernel_rfl) rfl
   have hkeep:∀m' Z,fm [.cell (b,5,Ct i (some (ob,ocs,ocap))),.cell (ob,0+((j:Int)).toNat * 3+2,.vec qv 6 (R.1.map bI))] (eC b s (iE F (Ct i (some (ob,ocs,ocap)))) m'::(ob,.box (cs.set (0+((j:Int)).toNat * 3+2) (.vec qv 6 (R.1.map bI))) 59)::Z):=fun m' Z=>c5 0 rfl rfl (c5 1 rfl hset ci)
   refine W09 ?_
   refine eo a5 0 rfl rfl rfl (hkeep _ _) (by first | trivial | rfl) ?_
   refine W09 ?_
   refine eo a5 0 rfl rfl rfl (hkeep _ _) (by first | trivial | rfl) ?_
   refine W09 ?_
   refine du a5 rfl rfl rfl (by omega) (by first | trivial | rfl) ?_
   refine W09 ?_
   refine eo a5 1 rfl rfl rfl (hkeep _ _) (by first | trivial | rfl) ?_
   refine W0m ?_
   refine du a5 rfl rfl rfl (by omega) (by first | trivial | rfl) ?_
   refine W09 ?_
   refine ce a5 1 rfl rfl rfl hset0 (by first | trivial | rfl) ?_
   refine W09 ?_
   refine tr (D5 s hs (iE F (Ct i (some (ob,ocs,ocap)))) hF n hn h0 q.Kind (by omega) st.1.2 (by omega)) (hkeep _ _) ?_
   generalize io s n q.Kind st.1.2 R.2=y at hrs ⊢
   unfold J5
   refine W0M ?_
   refine BR a5 _ rfl rfl rfl rfl (ff (A:=[_,_])) (by simp;omega) (by simp;omega) (hkeep _ _) (by first | trivial | rfl) fun q'=>?_
   refine NP [0,2,3,6,7,8,70,71,94] IG ?_
   refine aL (aQ (ff (A:=[_,_])).symm) ?_
   refine W0r ?_
   refine NV a5 1 ND (by rw [Nat.ble_eq,List.length_set];exact hPl) ?_
   refine W02 ?_
   exact aC (r+1,q') rfl ⟨by rw [Nv];rfl,trivial⟩ (by dsimp only;omega) (by dsimp only;omega) (fun _ _ h=>by dsimp only;rw [hrs];dsimp only;rw [List.map_append];simp only [fS,List.set_set] at h;exact h)
  have hrc:r=c:=by have:=Nx h;omega
  subst hrc
  generalize fD s n q.Kind st.1.2 r p2.2=R at hrl hstep ⊢
  have hset:(cs.set (0+((j:Int)).toNat * 3+2) (.vec qv 6 (R.1.map bI)))[0+((j:Int)).toNat * 3+2]?=some (.vec qv 6 (R.1.map bI)):=List.getElem?_set_self hPl
  refine W02 ?_
  refine bf (bF (L':=[eC b s (iE F (Ct i (some (ob,ocs,ocap)))) R.2,(ob,.box (cs.set (0+((j:Int)).toNat * 3+2) (.vec qv 6 (R.1.map bI))) 59)]) (List.Sublist.cons_cons _ (List.Sublist.cons_cons _ (List.nil_sublist _)))) ?_
  refine bf (bL 1 (cs':=(cs.set (0+((j:Int)).toNat * 3+2) (.vec qv 6 (R.1.map bI))).set (0+((j:Int)).toNat * 3+2) (.imm 6 (R.1.map bI))) rfl fun σ vs h=>cN h hset fun v hv=>VR.im hv) ?_
  rw [List.set_set]
  exact aC (j+1,cs.set (0+((j:Int)).toNat * 3+2) (.imm 6 (R.1.map bI))) rfl ⟨by rw [Nv];rfl,trivial⟩ ⟨by dsimp only;omega,by dsimp only;rw [List.length_set];exact h1,h2,h3,by rw [hstep,hP];dsimp only [cQ];rw [List.take_set,h4];exact Fq hq⟩ (by dsimp only;omega) (fun _ _ h=>by dsimp only;rw [hstep];exact h)
 have hji:j=i:=by have:=Nx h;omega
 subst hji
 generalize hT:fO s n st.1.2 st.1.1 j st.2=T at h4 ⊢
 have hTl:T.1.length=j:=by rw [←hT,(hfi j).1];exact hln.1
 repeat' (first|refine Ng ?_|fail)
 refine bf (aQ (List.Perm.swap _ _ _)) ?_
 refine bf (n4 (k:=5) (n:=j) (cap:=ocap) (l:=T.1.map br) rfl (by rw [h4,Fo _ _ _ (by omega)]) h1 (fun q hq=>by
  obtain ⟨x,_,rfl⟩:=List.mem_map.1 hq
  rfl) (by rw [Nu];exact hTl) h2 h3) ?_
 exact cD rfl rfl
end
section
attribute [local irreducible] AT bP AX AO Av Kt bb dh DA cG
variable (s:List Int) (hs:s.length≤1000000) (F:MF)
theorem BG (a c:UInt8):(⟨#[a]⟩:ByteArray)++(⟨#[c]⟩:ByteArray)=bytes [a,c]:=by
 apply ByteArray.ext
 simp [bytes]
theorem BH (a b c:UInt8):(⟨#[a,b]⟩:ByteArray)++(⟨#[c]⟩:ByteArray)=bytes [a,b,c]:=by
 apply ByteArray.ext
 simp [bytes]
theorem LO {z:Int} (h:0≤z∧z < 256):IntKind.wrap .u8 z=z:=by
 unfold IntKind.wrap
 simp [IntKind.signed,IntKind.bits]
 try omega
theorem wJ (n:Nat) (h:n < 100):IntKind.wrap .u8 (97+(n:Int))=97+(n:Int):=LO (by omega)
theorem Aw (n:Nat) (h:n < 100):UInt8.ofNat (97+(n:Int)).toNat=(97+n).toUInt8:=by
 rw [show ((97+(n:Int))).toNat=97+n by omega]
theorem LC {a c:Nat×AB} {T:AL}:(a::(T++[])++[c]).Perm ([a,c]++(T++[])):=List.Perm.cons a (List.perm_append_comm (l₁:=T++[]))
def mg (nm:ByteArray) (ad:Int) (mk:Bool) (o:List eO×List Int) (ps an de hi:AV):List AV:=[vE nm,aK ad,dy mk,.imm 3 (o.1.map dl),.imm 1 (aW o.2),ps,an,de,hi]
theorem Bt (mark:Bool) (cl:Int) (m:MS) (k:Nat):(fi s mark cl k m).1.length≤k:=by
 refine (c9.runs (fun i (l:List d9)=>l.length≤i) k (Nat.le_refl _) fun i l _ h=>(c9.any _).bnd fun z _=>c9.ite (fun _=>(c9.any _).bnd fun x _=>(c9.any _).bnd fun y _=>c9.ret (by simp;omega)) fun _=>c9.ret (by omega)) m
theorem yk (r:Nat) (l:List dk) (m:MS) (k:Nat):(iZ s r l k m).1.length≤l.length+k:=by
 refine (c9.runs (fun i (q:List dk)=>q.length≤l.length+i) k (Nat.le_refl _) fun i q _ h=>(c9.any _).bnd fun z _=>c9.ite (fun _=>(c9.any _).bnd fun x _=>c9.ite (fun _=>c9.ret (by simp;omega)) fun _=>(c9.any _).bnd fun y _=>c9.ret (by simp;omega)) fun _=>c9.ret (by omega)) m
def kC (cl:Int):List (List AV):=(iJ cl).map fun p=>[aK p.1,aK p.2]
abbrev GH (F:MF) (v:AV):MF:={ F with gl:=v }
include hs
set_option maxHeartbeats 16000000 in
theorem F9 {kg:Option (Nat×Nat)} {gl rg fu:List (List AV)} (hF:F.gl= .vec kg 9 gl) (hrg:F.rg= .imm 1 rg) (hfu:F.fu= .imm 1 fu) (R fn n:Nat) (hR:rg.length=R) (hfn:fu.length=fn) (hg:gl.length≤1000) (hRl:R≤1000) (hfl:fn≤1000) (hn:n < 100) (b:Nat) (m:MS):AC Tryz.prog 91 [GP b,aK n] ([eC b s F m]++(tok kg 76 9 gl.length++[])) fun _ L=>∃kg',L=[eC b s (GH F (.vec kg' 9 (gl++[bD (la s R fn n m).1]))) (la s R fn n m).2]++(tok kg' 76 9 (gl++[bD (la s R fn n m).1]).length++[]):=by
 refine aV Tryz.func91 rfl Tryz.ntmps91 rfl fun B=>?_
 repeat' (first|refine Ng ?_|fail)
 refine bv 15 [(0,.v),(1,.v),(2,.v),(3,.v),(4,.v),(5,.v),(6,.v),(10,.v),(7,.e),(8,.v),(9,.v),(11,.e),(12,.v),(13,.v)] (some (14,.box _ 76)) ?_ ⟨_,rfl,rfl,fun _ _ _=>kq (dX a5 rfl) rfl⟩ rfl (by kernel_rfl) (by kernel_rfl) (by kernel_rfl) bQ (by kernel_rfl) rfl
 refine W0x ?_
 refine Ey a5 ?_
 rw [wJ n hn]
 refine W0M ?_
 refine Ad a5 ?_
 rw [Aw n hn]
 repeat' (first|refine aD ?_|fail)
 refine IW (hs:=Nat.le_of_ble_eq_true rfl) ?_
 rw [BG]
 refine W09 ?_
 refine uH ?_
 have had:=cH s hs m.a (n:=19) (by omega)
 have had:0≤(dr s 19 m).1∧(dr s 19 m).1 < 19:=had
 generalize e1:dr s 19 m=ad at had ⊢
 refine W1j ?_
 refine uH ?_
 generalize e2:dr s 4 ad.2=mk
 refine W09 ?_
 refine r7 [0,1,4,23] (fun _=>_) (fun _=>rfl) rfl fun _=>?_
 rename_i gb
 refine aL (aQ (L':=[eC b s F mk.2,(gb,.box [.sc (.string ⟨#[]⟩),aK 0,dy false,bZ,bZ,bZ,bZ,bZ,bZ] 76)]++(tok kg 76 9 gl.length++[])) LC) ?_
 refine W05 ?_
 refine uD [0,1,4] ([eC b s F mk.2,(gb,.box [vE (di n),aK (100+ad.1 * 50),dy (decide (mk.1=0) && decide (n≠0)),bZ,bZ,.vec none 3 [],.vec none 4 [],.vec none 4 [],bZ] 76)]++(tok kg 76 9 gl.length++[])) rfl (fun Q' K=>?_) ?_
 ·refine aj rfl (fun h=>?_) (fun h=>?_)
  ·have h:n=0:=by have:=Ny h;omega
   have hm:(decide (mk.1=0) && decide (n≠0))=false:=by simp [h]
   have hgn:di n=FT:=if_pos h
   rw [hm,hgn] at K
   refine W05 ?_
   refine bf (bL 1 rfl fun σ vs h=>cN (k:=5) (c':= .vec none 3 []) (cN (k:=6) (c':= .vec none 4 []) (cN (k:=7) (c':= .vec none 4 []) h rfl fun v hv=>cW 4 hv) rfl fun v hv=>cW 4 hv) rfl fun v hv=>cW 3 hv) ?_
   exact K _ rfl
  ·have h:¬n=0:=by have:=Nx h;omega
   have hm:(decide (mk.1=0) && decide (n≠0))=decide (mk.1=0):=by simp [h]
   have hgn:di n=mp ML n:=if_neg h
   rw [hm,hgn] at K
   repeat' (first|refine Ng ?_|fail)
   refine bf (bL 1 rfl fun σ vs h=>cN (k:=5) (c':= .vec none 3 []) (cN (k:=6) (c':= .vec none 4 []) (cN (k:=7) (c':= .vec none 4 []) h rfl fun v hv=>cW 4 hv) rfl fun v hv=>cW 4 hv) rfl fun v hv=>cW 3 hv) ?_
   exact K _ rfl
 generalize hmk:(decide (mk.1=0) && decide (n≠0))=mb
 refine W01 ?_
 refine wX (vg s hs F) ?_
 have ho:=qF s mk.2
 generalize e3:kG s mk.2=o at ho ⊢
 obtain ⟨ko,hko,hoo⟩:=ho
 have hol:=hoo.len
 unfold Lz
 refine NG a5 IG ?_
 (apply aI;refine NH a5 1 NE ?_)
 refine a7 ?_
 refine a6 ?_
 refine a9 ?_
 refine uD [0,4] ([eC b s F (jL s n o.2).2,(gb,.box (mg (di n) (100+ad.1 * 50) mb o.1 (.imm 3 ((jL s n o.2).1.map dJ)) (.vec none 4 []) (.vec none 4 []) bZ) 76)]++(tok kg 76 9 gl.length++[])) rfl (fun Q' K=>?_) ?_
 ·refine W01 ?_
  by_cases hn1:1 < n
  ·rw [decide_eq_true (show (1:Int) < (n:Int) by omega)]
   refine W0J ?_
   refine cS ?_
   generalize e4:dr s 4 o.2=z
   refine W0I ?_
   refine aj rfl (fun h=>?_) (fun h=>?_)
   ·have h:=Ny h
    refine dM [.cell (gb,5,.vec none 3 [])] 11 [(0,.v),(1,.k),(2,.v),(6,.v),(3,.f),(4,.v),(5,.v),(7,.f),(8,.v),(9,.v),(10,.v)] none ?_ trivial rfl (by kernel_rfl) (by kernel_rfl) (by kernel_rfl) bQ (by kernel_rfl) rfl
    refine W09 ?_
    refine eo a5 0 rfl rfl rfl (c5 1 rfl rfl ci) (by first | trivial | rfl) ?_
    refine W09 ?_
    refine f8 (c5 1 rfl rfl ci) ?_
    have hx:=cH s hs z.2.a (n:=9) (by omega)
    have hx:0≤(dr s 9 z.2).1∧(dr s 9 z.2).1 < 9:=hx
    generalize e5:dr s 9 z.2=x at hx ⊢
    refine W1j ?_
    refine f8 (c5 1 rfl rfl ci) ?_
    have hy:=cH s hs x.2.a (n:=5) (by omega)
    have hy:0≤(dr s 5 x.2).1∧(dr s 5 x.2).1 < 5:=hy
    generalize e6:dr s 5 x.2=y at hy ⊢
    refine W1J ?_
    refine NP [0,4,39,48] IG ?_
    refine NS a5 _ NB (Nn _) (by simp) (by simp) rfl fun q'=>?_
    refine aL (bF (List.sublist_append_right _ _)) ?_
    refine W05 ?_
    have hv:jL s n o.2=([⟨1,x.1 * 50 - 200,y.1 * 50⟩],y.2):=by simp [jL,cm,cQ,hn1,e4,e5,e6,h]
    rw [hv] at K
    refine bf (bL 1 rfl fun σ vs h=>cN (k:=5) (c':= .imm 3 ([(⟨1,x.1 * 50 - 200,y.1 * 50⟩:cA)].map dJ)) h rfl fun v hv=>VR.im hv) ?_
    exact K _ rfl
   ·have h:=Nx h
    repeat' (first|refine Ng ?_|fail)
    have hv:jL s n o.2=([],z.2):=by simp [jL,cm,cQ,hn1,e4,h]
    rw [hv] at K
    refine bf (bL 1 rfl fun σ vs h=>cN (k:=5) (c':= .imm 3 []) h rfl fun v hv=>VR.im hv) ?_
    exact K _ rfl
  ·rw [decide_eq_false (show ¬(1:Int) < (n:Int) by omega)]
   refine W1g ?_
   have hv:jL s n o.2=([],o.2):=by simp [jL,cQ,hn1]
   rw [hv] at K
   refine bf (bL 1 rfl fun σ vs h=>cN (k:=5) (c':= .imm 3 []) h rfl fun v hv=>VR.im hv) ?_
   exact K _ rfl
 generalize e4:jL s n o.2=ps
 refine W01 ?_
 refine cS ?_
 have hcl:=cH s hs ps.2.a (n:=2) (by omega)
 have hcl:0≤(dr s 2 ps.2).1∧(dr s 2 ps.2).1 < 2:=hcl
 generalize e5:dr s 2 ps.2=cl at hcl ⊢
 refine W1L ?_
 refine aM [0,4,5] (α:=Nat×Option (Nat×Nat)) (fun x=>[(6,aK x.1),(5,.imm 2 (kC cl.1))]) (fun x=>x.1≤5) (fun x=>[eC b s F (fi s mb cl.1 x.1 cl.2).2,(gb,.box (mg (di n) (100+ad.1 * 50) mb o.1 (.imm 3 (ps.1.map dJ)) (.vec x.2 4 ((fi s mb cl.1 x.1 cl.2).1.map da)) (.vec none 4 []) bZ) 76)]++(tok x.2 113 4 ((fi s mb cl.1 x.1 cl.2).1.map da).length++(tok kg 76 9 gl.length++[]))) (fun x=>5 - x.1) (0,none) rfl ⟨rfl,rfl,trivial⟩ (Nat.zero_le _) (fun _ _ h=>h) ?_
 rintro ⟨i,q⟩ hi
 dsimp only at hi ⊢
 have hal:=Bt s mb cl.1 cl.2 i
 have hstep:fi s mb cl.1 (i+1) cl.2=(cm (dr s 3) fun z=>if z=0∧(((iJ cl.1).getD i (0,0)).1≠2∨mb=true) then cm (dr s 21) fun x=>cm (dr s 21) fun y=>cQ ((fi s mb cl.1 i cl.2).1++[(⟨((iJ cl.1).getD i (0,0)).1,((iJ cl.1).getD i (0,0)).2,x * 50,y * 50 - 200⟩:d9)]) else cQ (fi s mb cl.1 i cl.2).1) (fi s mb cl.1 i cl.2).2:=rfl
 try dsimp only [Ns,Nr,Nq,Nk]
 refine W01 ?_
 refine aj rfl (fun h=>?_) (fun h=>?_)
 ·have hil:i < 5:=by have:=Ny h;omega
  have hka:(kC cl.1)[i]?=some [aK ((iJ cl.1).getD i (0,0)).1,aK ((iJ cl.1).getD i (0,0)).2]:=by
   unfold kC
   rw [List.getElem?_map,vT hil]
   rfl
  generalize fi s mb cl.1 i cl.2=st at hal hstep ⊢
  have halm:(st.1.map da).length=st.1.length:=Nu ..
  generalize (iJ cl.1).getD i (0,0)=pr at hka hstep
  refine W03 ?_
  refine cS ?_
  unfold cm at hstep
  generalize dr s 3 st.2=z at hstep ⊢
  dsimp only at hstep
  repeat' (first|refine NG a5 IG ?_)
  refine bY (t:=77) [0,4,5,6] (z.1=0∧(pr.1≠2∨mb=true)) rfl (fun Q' K=>?_) ?_
  ·by_cases hz:z.1=0
   ·rw [decide_eq_true hz]
    refine W1C ?_
    refine wU a5 0 ?_
    refine W0J ?_
    by_cases h2:pr.1≠2
    ·rw [decide_eq_true h2]
     repeat' (first|refine Ng ?_|refine NG a5 IG ?_|refine NN IG ?_|refine NO NB ?_)
     exact K _ _ rfl rfl (by simp [hz,h2])
    ·rw [decide_eq_false h2]
     refine W0p ?_
     exact K _ _ rfl rfl (by simp only [ne_eq,Decidable.not_not] at h2;simp [hz,h2])
   ·rw [decide_eq_false hz]
    repeat' (first|refine Ng ?_|refine NG a5 IG ?_|refine NO NB ?_|refine cq rfl rfl rfl ?_)
    exact K _ _ rfl rfl (by simp [hz])
  repeat' (first|refine Ng ?_|fail)
  refine aj rfl (fun h=>?_) (fun h=>?_)
  ·have h:=Ny h
   rw [if_pos h] at hstep
   refine dM [.cell (gb,6,.vec q 4 (st.1.map da))] 21 [(0,.v),(1,.k),(2,.v),(3,.v),(4,.v),(5,.v),(6,.v),(7,.v),(8,.v),(9,.v),(10,.v),(11,.v),(12,.v),(15,.v),(13,.f),(14,.v),(16,.f),(17,.v),(18,.v),(19,.v),(20,.v)] none ?_ trivial rfl (by kernel_rfl) (by kernel_rfl) (by kernel_rfl) bQ (by kernel_rfl) rfl
   refine W09 ?_
   refine eo a5 0 rfl rfl rfl (c5 1 rfl rfl ci) (by first | trivial | rfl) ?_
   refine W0b ?_
   refine IV a5 0 ?_
   refine W0b ?_
   refine IV a5 1 ?_
   refine W09 ?_
   refine f8 (c5 1 rfl rfl ci) ?_
   have hx:=cH s hs z.2.a (n:=21) (by omega)
   have hx:0≤(dr s 21 z.2).1∧(dr s 21 z.2).1 < 21:=hx
   generalize dr s 21 z.2=x at hx hstep ⊢
   try dsimp only at hstep
   refine W1j ?_
   refine f8 (c5 1 rfl rfl ci) ?_
   have hy:=cH s hs x.2.a (n:=21) (by omega)
   have hy:0≤(dr s 21 x.2).1∧(dr s 21 x.2).1 < 21:=hy
   generalize dr s 21 x.2=y at hy hstep ⊢
   try dsimp only [cQ] at hstep
   refine W1J ?_
   refine NP [0,4,5,6,79,98] IG ?_
   refine NS a5 _ NB (ff (A:=[_,_])) (by simp;omega) (by simp;omega) rfl fun q'=>?_
   refine aL (aQ (ff (A:=[_,_])).symm) ?_
   refine W0f ?_
   exact aC (i+1,q') rfl ⟨by rw [Nv];rfl,rfl,trivial⟩ (by dsimp only;omega) (by dsimp only;omega) (fun _ _ h=>by dsimp only;rw [hstep];dsimp only;rw [List.map_append];exact h)
  ·have h:=Nx h
   rw [if_neg h] at hstep
   dsimp only [cQ] at hstep
   refine W02 ?_
   exact aC (i+1,q) rfl ⟨by rw [Nv];rfl,rfl,trivial⟩ (by dsimp only;omega) (by dsimp only;omega) (fun _ _ h=>by dsimp only;rw [hstep];exact h)
 have hil:i=5:=by have:=Nx h;omega
 subst hil
 clear hstep hal
 generalize e6:fi s mb cl.1 5 cl.2=an
 refine bU (bL 1 rfl fun σ vs h=>cN (k:=6) (c':= .imm 4 (an.1.map da)) h rfl fun v hv=>VR.im hv) ?_
 refine bU (bF (L':=[eC b s F an.2,(gb,.box (mg (di n) (100+ad.1 * 50) mb o.1 (.imm 3 (ps.1.map dJ)) (.imm 4 (an.1.map da)) (.vec none 4 []) bZ) 76)]++(tok kg 76 9 gl.length++[])) (List.Sublist.cons_cons _ (List.Sublist.cons_cons _ (List.sublist_append_right _ _)))) ?_
 have hpl:(o.1.1.map dl).length=o.1.1.length:=Nu ..
 refine W03 ?_
 refine aM [0,4] (α:=Nat×Option (Nat×Nat)) (fun x=>[(7,aK x.1)]) (fun x=>x.1≤R) (fun x=>[eC b s F (gY s o.1.1.length x.1 an.2).2,(gb,.box (mg (di n) (100+ad.1 * 50) mb o.1 (.imm 3 (ps.1.map dJ)) (.imm 4 (an.1.map da)) (.vec x.2 4 ((gY s o.1.1.length x.1 an.2).1.map dY)) bZ) 76)]++(tok x.2 115 4 ((gY s o.1.1.length x.1 an.2).1.map dY).length++(tok kg 76 9 gl.length++[]))) (fun x=>R - x.1) (0,none) rfl ⟨rfl,trivial⟩ (Nat.zero_le _) (fun _ _ h=>h) ?_
 rintro ⟨r,q⟩ hr
 dsimp only at hr ⊢
 have hdl:=(rM s o.1.1.length r an.2).len
 have hdl:(gY s o.1.1.length r an.2).1.length≤11000:=Nat.le_trans hdl (Nat.le_trans (Nat.mul_le_mul (show r≤1000 by omega) (show o.1.1.length+1≤11 by omega)) (by omega))
 have hstep:gY s o.1.1.length (r+1) an.2=iZ s r (gY s o.1.1.length r an.2).1 (o.1.1.length+1) (gY s o.1.1.length r an.2).2:=rfl
 try dsimp only [Ns,Nr,Nq,Nk]
 refine W04 ?_
 rw [hrg]
 refine W01 ?_
 rw [hR]
 refine aj rfl (fun h=>?_) (fun h=>?_)
 ·have hrl:r < R:=by have:=Ny h;omega
  generalize gY s o.1.1.length r an.2=D at hdl hstep ⊢
  refine W03 ?_
  refine aM [0,4,7] (α:=Nat×Option (Nat×Nat)) (fun x=>[(8,aK ((x.1:Int) - 1))]) (fun x=>x.1≤o.1.1.length+1) (fun x=>[eC b s F (iZ s r D.1 x.1 D.2).2,(gb,.box (mg (di n) (100+ad.1 * 50) mb o.1 (.imm 3 (ps.1.map dJ)) (.imm 4 (an.1.map da)) (.vec x.2 4 ((iZ s r D.1 x.1 D.2).1.map dY)) bZ) 76)]++(tok x.2 115 4 ((iZ s r D.1 x.1 D.2).1.map dY).length++(tok kg 76 9 gl.length++[]))) (fun x=>o.1.1.length+1 - x.1) (0,q) rfl ⟨rfl,trivial⟩ (Nat.zero_le _) (fun _ _ h=>h) ?_
  rintro ⟨p,q⟩ hp
  dsimp only at hp ⊢
  have hel:=yk s r D.1 D.2 p
  have hst2:iZ s r D.1 (p+1) D.2=(cm (dr s 3) fun z=>if z=0 then cm (dr s 41) fun x=>if p=0 then cQ ((iZ s r D.1 p D.2).1++[(⟨r,-1,x - 20,0⟩:dk)]) else cm (dr s 41) fun y=>cQ ((iZ s r D.1 p D.2).1++[(⟨r,(p:Int) - 1,x - 20,y - 20⟩:dk)]) else cQ (iZ s r D.1 p D.2).1) (iZ s r D.1 p D.2).2:=rfl
  try dsimp only [Ns,Nr,Nq,Nk]
  refine W04 ?_
  refine aj rfl (fun h=>?_) (fun h=>?_)
  ·have hpp:p < o.1.1.length+1:=by have:=Ny h;rw [hpl] at this;omega
   generalize iZ s r D.1 p D.2=E at hel hst2 ⊢
   have hElm:(E.1.map dY).length=E.1.length:=Nu ..
   refine W03 ?_
   refine cS ?_
   unfold cm at hst2
   generalize dr s 3 E.2=z at hst2 ⊢
   dsimp only at hst2
   refine W01 ?_
   refine aj rfl (fun hz=>?_) (fun hz=>?_)
   ·rw [if_pos (Ny hz)] at hst2
    refine W01 ?_
    refine cS ?_
    have hx:=cH s hs z.2.a (n:=41) (by omega)
    have hx:0≤(dr s 41 z.2).1∧(dr s 41 z.2).1 < 41:=hx
    generalize dr s 41 z.2=x at hx hst2 ⊢
    try dsimp only at hst2
    repeat' (first|refine Ng ?_|refine NG a5 IG ?_|(apply aS;refine aR ?_)|(apply aI;first|refine NH a5 0 NE ?_|refine NH a5 1 NE ?_|refine NH a5 2 NE ?_|refine NH a5 3 NE ?_|fail)|refine bn a5 fun _=>?_|fail)
    refine bU (aQ (List.perm_middle (l₁:=[_,_])).symm) ?_
    refine aj rfl (fun h0=>?_) (fun h0=>?_)
    ·have h0:¬p=0:=by have:=Ny h0;omega
     rw [if_neg h0] at hst2
     refine W01 ?_
     refine cS ?_
     have hy:=cH s hs x.2.a (n:=41) (by omega)
     have hy:0≤(dr s 41 x.2).1∧(dr s 41 x.2).1 < 41:=hy
     generalize dr s 41 x.2=y at hy hst2 ⊢
     try dsimp only [cQ] at hst2
     repeat' (first|refine Ng ?_|refine NG a5 IG ?_|(apply bz;first|refine NJ a5 0 NC ?_|refine NJ a5 1 NC ?_|refine NJ a5 2 NC ?_|refine NJ a5 3 NC ?_|refine NK a5 0 NC ?_|refine NK a5 1 NC ?_|refine NK a5 2 NC ?_|refine NL a5 1 NA (by assumption) rfl ?_|refine NL a5 0 NA (by assumption) rfl ?_|fail)|(apply aS;refine aR ?_)|(apply aI;first|refine NH a5 0 NE ?_|refine NH a5 1 NE ?_|refine NH a5 2 NE ?_|refine NH a5 3 NE ?_|fail)|refine bM a5 ?_|fail)
     refine NS a5 _ NB (ff (A:=[_,_,_])) (by simp;omega) (by simp;omega) rfl fun q'=>?_
     refine aL (aQ (ff (A:=[_,_,_])).symm) ?_
     refine W0f ?_
     exact aC (p+1,q') rfl ⟨by dsimp only;rw [show ((p+1:Nat):Int) - 1=(p:Int) - 1+1 by omega];rfl,trivial⟩ (by dsimp only;omega) (by dsimp only;omega) (fun _ _ h=>by dsimp only;rw [hst2];dsimp only;rw [List.map_append];exact h.sublist (List.Sublist.cons_cons _ (List.Sublist.cons_cons _ (List.sublist_cons_self ..))))
    ·have h0:p=0:=by have:=Nx h0;omega
     rw [if_pos h0] at hst2
     try dsimp only [cQ] at hst2
     refine W0d ?_
     refine NS a5 _ NB (ff (A:=[_,_,_])) (by simp;omega) (by simp;omega) rfl fun q'=>?_
     refine aL (aQ (ff (A:=[_,_,_])).symm) ?_
     refine W0f ?_
     subst h0
     exact aC (0+1,q') rfl ⟨rfl,trivial⟩ (by dsimp only;omega) (by dsimp only;omega) (fun _ _ h=>by dsimp only;rw [hst2];dsimp only;rw [List.map_append];exact h.sublist (List.Sublist.cons_cons _ (List.Sublist.cons_cons _ (List.sublist_cons_self ..))))
   ·rw [if_neg (Nx hz)] at hst2
    try dsimp only [cQ] at hst2
    refine W02 ?_
    exact aC (p+1,q) rfl ⟨by dsimp only;rw [show ((p+1:Nat):Int) - 1=(p:Int) - 1+1 by omega];rfl,trivial⟩ (by dsimp only;omega) (by dsimp only;omega) (fun _ _ h=>by dsimp only;rw [hst2];exact h)
  have hpp:p=o.1.1.length+1:=by have:=Nx h;rw [hpl] at this;omega
  subst hpp
  refine W02 ?_
  exact aC (r+1,q) rfl ⟨by rw [Nv];rfl,trivial⟩ (by dsimp only;omega) (by dsimp only;omega) (fun _ _ h=>by dsimp only;rw [hstep];exact h)
 have hrl:r=R:=by have:=Nx h;omega
 subst hrl
 clear hstep hdl
 generalize e7:gY s o.1.1.length r an.2=de
 refine W05 ?_
 refine bU (aQ (L':=[eC b s F (iO 2 de.2).2,(gb,.box (mg (di n) (100+ad.1 * 50) mb o.1 (.imm 3 (ps.1.map dJ)) (.imm 4 (an.1.map da)) (.vec q 4 (de.1.map dY)) bZ) 76)]++(tok q 115 4 (de.1.map dY).length++(tok kg 76 9 gl.length++[]))) (Nn _)) ?_
 refine bU (bL 1 rfl fun σ vs h=>cN (k:=7) (c':= .imm 4 (de.1.map dY)) h rfl fun v hv=>VR.im hv) ?_
 refine bU (bF (L':=[eC b s F (iO 2 de.2).2,(gb,.box (mg (di n) (100+ad.1 * 50) mb o.1 (.imm 3 (ps.1.map dJ)) (.imm 4 (an.1.map da)) (.imm 4 (de.1.map dY)) bZ) 76)]++(tok kg 76 9 gl.length++[])) (List.Sublist.cons_cons _ (List.Sublist.cons_cons _ (List.sublist_append_right _ _)))) ?_
 generalize e8:(iO 2 de.2).2=w
 refine bv 11 [(0,.v),(1,.v),(2,.v),(3,.l),(4,.v),(5,.v),(6,.v),(7,.v),(8,.v),(9,.l),(10,.v)] none ?_ trivial rfl (by kernel_rfl) (by kernel_rfl) (by kernel_rfl) bQ (by kernel_rfl) rfl
 repeat' (first|refine aD ?_|refine aZ a5 ?_|refine ce a5 0 rfl rfl rfl rfl (by first|trivial|rfl) ?_|refine ce a5 1 rfl rfl rfl rfl (by first|trivial|rfl) ?_)
 rw [hfu]
 repeat' (first|refine aZ a5 ?_|fail)
 rw [hfn,hpl]
 refine NP [0,4,143,147,153] IG ?_
 refine wX (tQ s hs F (n:=o.1.1.length) (fn:=fn) (most:=6) (by omega) (by omega) (by omega)) ?_
 generalize e9:oB s o.1.1.length fn 6 w=hi
 unfold ky
 refine W05 ?_
 refine bU (aQ (L':=[eC b s F hi.2,(gb,.box (mg (di n) (100+ad.1 * 50) mb o.1 (.imm 3 (ps.1.map dJ)) (.imm 4 (an.1.map da)) (.imm 4 (de.1.map dY)) (.imm 2 (hi.1.map eS))) 76)]++(tok kg 76 9 gl.length++[])) (Nn _)) ?_
 refine bv 9 [(0,.v),(1,.v),(2,.v),(3,.v),(4,.v),(5,.l),(6,.l),(7,.v),(8,.e)] none ?_ trivial rfl (by kernel_rfl) (by kernel_rfl) (by kernel_rfl) bQ (by kernel_rfl) rfl
 repeat' (first|refine aD ?_|refine aZ a5 ?_|refine dQ a5 ?_|refine ce a5 0 rfl rfl rfl rfl (by first|trivial|rfl) ?_|refine r5 a5 1 rfl rfl rfl rfl (by first|trivial|rfl) ?_)
 rw [hF]
 refine dP a5 _ rfl rfl rfl rfl (ff (A:=[_,_])) (by simp;omega) (by simp;omega) (by first | trivial | rfl) fun q'=>?_
 refine NP [156,164] IG ?_
 refine aL (aQ (ff (A:=[_,_])).symm) ?_
 refine W05 ?_
 have hv:la s r fn n m=(⟨di n,100+ad.1 * 50,mb,o.1.1,o.1.2,ps.1,an.1,de.1,hi.1⟩,hi.2):=by
  unfold la cm
  rw [e1]
  try dsimp only
  rw [e2]
  try dsimp only
  rw [e3]
  try dsimp only
  rw [e4]
  try dsimp only
  rw [e5,hmk]
  try dsimp only
  rw [e6]
  try dsimp only
  rw [e7]
  try dsimp only
  rw [e8,e9]
  rfl
 rw [hv]
 exact bf (bF (L':=[eC b s (GH F (.vec q' 9 (gl++[bD ⟨di n,100+ad.1 * 50,mb,o.1.1,o.1.2,ps.1,an.1,de.1,hi.1⟩]))) hi.2]++(tok q' 76 9 (gl++[bD ⟨di n,100+ad.1 * 50,mb,o.1.1,o.1.2,ps.1,an.1,de.1,hi.1⟩]).length++[])) (List.Sublist.cons_cons _ (List.sublist_cons_self ..))) (cD rfl ⟨q',rfl⟩)
end
end Go.Proofs.YtpmdfoaadejmkaaGreatDoor
