/-
  The maker: lookups, told as rows of its own.
-/
import Derived.Test.YtpmdfoaadejmkaaGreatDoorM27
import Derived.Test.YtpmdfoaadejmkaaGreatDoorM30
namespace Go.Proofs.YtpmdfoaadejmkaaGreatDoor
open Go.RowKit
attribute [local irreducible] AT br AX AO Av Kt b7 dm DA cA
theorem tA {σ τ:Mem} (h:σ.le τ) (r:b8):iS (co (bG τ) r) (co (bG σ) r):=⟨iQ r.Back σ τ h,d6.rows (sz:=1) (r:=fun σ s=>[.new (bG σ) 1 (aQ s)]) (fun _ _ s h=>iS.newQ h s) r.In σ τ h,iQ r.Ahead σ τ h,d6.new 1 (aQ r.Out) σ τ h,d6.new 2 (r.Calls.map dC) σ τ h,c6.refl _,trivial⟩
theorem AU (r:b8):d6 fun σ=> .agg (co (bG σ) r):=fun _ _ h=>c6.agg (tA h r)
theorem ww {σ τ:Mem} (h:σ.le τ) (l:aO):iS (cU (bG τ) l) (cU (bG σ) l):=⟨c6.refl _,c6.refl _,d6.rows (sz:=6) (r:=fun σ r=>co (bG σ) r) (fun _ _ r h=>tA h r) l.Rules σ τ h,trivial⟩
variable (s:List Int) (hs:s.length≤1000000) (F:MF)
include hs
set_option maxHeartbeats 16000000 in
theorem vV {kg:Option (Nat×Nat)} {gl:List (List AV)} (hF:F.gl= .vec kg 9 gl) (hl:F.lk=bO) (n:Nat) (hn:gl.length=n) (h0:0 < n∧n≤1000) (b:Nat) (m:MS):ES Tryz.prog 93 [yk b] [dA b s F m] fun σ _ L=>L=[dA b s (hZ F (.new (bG σ) 3 ((ij s n m).1.map (cU (bG σ))))) (ij s n m).2]:=by
 refine iU Tryz.func93 rfl Tryz.ntmps93 rfl fun B hBX hBq=>?_
 refine W0k ?_
 refine cF ?_
 have hk:=cq s hs m.a (n:=7) (by omega)
 have hk:0≤(dr s 7 m).1∧(dr s 7 m).1 < 7:=hk
 generalize e1:dr s 7 m=p1 at hk ⊢
 obtain ⟨k,hkk⟩:∃k:Nat,p1.1=k:=⟨p1.1.toNat,by omega⟩
 rw [hkk]
 have hFF:F=hZ F bO:=by
  cases F
  simp only at hl
  rw [hl]
 rw [hFF]
 refine W04 ?_
 refine bM (bA (t:=3) (c':= .vec none 1 []) rfl fun σ v h=>cC 1 h) ?_
 refine aN [0,2] (α:=Nat×Option (Nat×Nat)×Option (Nat×List AV×Nat)) (fun x=>[(4,aI x.1),(3,.vec x.2.1 1 (aQ (eJ s x.1 p1.2).1.2))]) (fun x=>x.1≤k∧tV (bG B.σ) x.1 0 (eJ s x.1 p1.2).1.1 x.2.2) (fun x=>dA b s (hZ F (AN x.1 x.2.2)) (eJ s x.1 p1.2).2::(Dv x.2.2++(tok x.2.1 3 1 (aQ (eJ s x.1 p1.2).1.2).length++[]))) (fun x=>k - x.1) (0,none,none) rfl ⟨rfl,rfl,trivial⟩ ⟨Nat.zero_le _,rfl⟩ (fun _ _ h=>by simpa [eJ,iq,ret,tok,aQ,Dv,AN] using h) ?_
 rintro ⟨i,q,o⟩ ⟨hi,ho⟩
 dsimp only at hi ho ⊢
 have hln:=xv s hs i p1.2
 try dsimp only [Lr,Lq,Lp,Li]
 refine W01 ?_
 refine ar rfl (fun h=>?_) (fun h=>?_)
 ·have hil:i < k:=by have:=Lz h;omega
  have hstep:eJ s (i+1) p1.2=(cg (dr s 10) fun z=>cg (dr s 3) fun y=>ret ((eJ s i p1.2).1.1++[(⟨fT.getD z.toNat 0,decide (y=0),[]⟩:aO)],if fT.getD z.toNat 0≤4 then (eJ s i p1.2).1.2++[(i:Int)] else (eJ s i p1.2).1.2)) (eJ s i p1.2).2:=rfl
  generalize eJ s i p1.2=st at hln ho hstep ⊢
  have hil2:(aQ st.1.2).length=st.1.2.length:=aX _
  repeat' (first|refine a9 ?_|refine a4 ?_|refine ai ?_|refine aj ?_|refine a6 ?_|refine LG a5 KZ ?_|refine bQ a5 ?_|fail)
  refine cF ?_
  have hz:=cq s hs st.2.a (n:=10) (by omega)
  have hz:0≤(dr s 10 st.2).1∧(dr s 10 st.2).1 < 10:=hz
  unfold cg at hstep
  generalize dr s 10 st.2=z at hz hstep ⊢
  dsimp only at hstep
  have hzk:(aQ fT)[z.1.toNat]?=some [aI (fT.getD z.1.toNat 0)]:=bW (by rw [List.getD_eq_getElem?_getD,Iy (show z.1.toNat < fT.length by simp [fT];omega)];rfl)
  generalize hkd:fT.getD z.1.toNat 0=kd at hzk hstep
  repeat' (first|refine a9 ?_|refine a6 ?_|refine a7 ?_|refine LG a5 KZ ?_|(apply aL;first|refine aJ a5 ?_|refine aF a5 ?_)|fail)
  refine dx [.cell (b,5,AN i o)] 13 [(0,.v),(1,.v),(2,.v),(3,.v),(4,.v),(5,.k),(6,.v),(7,.v),(8,.f),(9,.v),(10,.v),(11,.v),(12,.e)] none ?_ trivial rfl (by kernel_rfl) (by kernel_rfl) (by kernel_rfl) bX (by kernel_rfl) rfl
  refine W0a ?_
  refine dP a5 0 rfl rfl rfl (bL 0 rfl rfl c8) (by first | trivial | rfl) ?_
  refine W0a ?_
  refine f4 (bL 0 rfl rfl c8) ?_
  generalize dr s 3 z.2=y at hstep ⊢
  refine W1E ?_
  have hst1:st.1.1.length=i:=hln.1
  rcases o with _ | ⟨ob,ocs,ocap⟩
  ·have hi0:i=0:=ho
   subst hi0
   refine xd a5 rfl rfl rfl rfl rfl rfl rfl (by first | trivial | rfl) fun b' cs' cap' h1 h2 h3 h4=>?_
   have hrow:tV (bG B.σ) (0+1) 0 (st.1.1++[⟨kd,decide (y.1=0),[]⟩]) (some (b',cs',cap')):=by
    refine ⟨h1,by omega,h4,?_⟩
    rw [List.eq_nil_of_length_eq_zero (by omega:st.1.1.length=0)]
    exact h2
   refine LQ [0,2,3,4,5,21,33] KZ ?_
   refine aE (aH (L':=dA b s (hZ F (AN 0 none)) y.2::(Dv (some (b',cs',cap'))++(tok q 3 1 (aQ st.1.2).length++[]))) (List.Perm.swap _ _ _)) ?_
   refine W0p ?_
   refine ar rfl (fun hk4=>?_) (fun hk4=>?_)
   ·rw [if_pos (Lz hk4)] at hstep
    dsimp only [ret] at hstep
    refine W1W ?_
    refine bE a5 _ rfl rfl rfl rfl (eK (A:=[_,_])) (by simp [aX];omega) (by simp [aX];omega) rfl fun q'=>?_
    refine aE (aH (eK (A:=[_,_])).symm) ?_
    refine W05 ?_
    exact aC (0+1,q',some (b',cs',cap')) rfl ⟨rfl,by rw [hstep];dsimp only;rw [show aQ (st.1.2++[((0:Nat):Int)])=aQ st.1.2++[[aI ((0:Nat):Int)]] from List.map_append ..];rfl,trivial⟩ ⟨by dsimp only;omega,by rw [hstep];exact hrow⟩ (by dsimp only;omega) (fun _ _ h=>by dsimp only;rw [hstep];dsimp only;rw [show aQ (st.1.2++[((0:Nat):Int)])=aQ st.1.2++[[aI ((0:Nat):Int)]] from List.map_append ..];exact h)
   ·rw [if_neg (Ly hk4)] at hstep
    dsimp only [ret] at hstep
    refine W06 ?_
    exact aC (0+1,q,some (b',cs',cap')) rfl ⟨rfl,by rw [hstep];rfl,trivial⟩ ⟨by dsimp only;omega,by rw [hstep];exact hrow⟩ (by dsimp only;omega) (fun _ _ h=>by dsimp only;rw [hstep];exact h)
  ·obtain ⟨ho1,ho2,ho3,ho4⟩:=ho
   refine Ah a5 1 rfl rfl rfl rfl rfl rfl rfl ho1 ho2 ho3 (by unfold maxLen;omega) (by omega) (by first | trivial | rfl) fun b' cs' cap' h1 h2 h3 h4=>?_
   have hrow:tV (bG B.σ) (i+1) 0 (st.1.1++[⟨kd,decide (y.1=0),[]⟩]) (some (b',cs',cap')):=by
    refine ⟨h1,h3,h4,?_⟩
    rw [h2,ho4,vT (bG B.σ)]
    rfl
   refine LQ [0,2,3,4,5,21,33] KZ ?_
   refine aE (aH (L':=dA b s (hZ F (AN i (some (ob,ocs,ocap)))) y.2::(Dv (some (b',cs',cap'))++(tok q 3 1 (aQ st.1.2).length++[]))) (List.Perm.swap _ _ _)) ?_
   refine W0p ?_
   refine ar rfl (fun hk4=>?_) (fun hk4=>?_)
   ·rw [if_pos (Lz hk4)] at hstep
    dsimp only [ret] at hstep
    refine W1W ?_
    refine bE a5 _ rfl rfl rfl rfl (eK (A:=[_,_])) (by simp [aX];omega) (by simp [aX];omega) rfl fun q'=>?_
    refine aE (aH (eK (A:=[_,_])).symm) ?_
    refine W05 ?_
    exact aC (i+1,q',some (b',cs',cap')) rfl ⟨by rw [Lv];rfl,by rw [hstep];dsimp only;rw [show aQ (st.1.2++[(i:Int)])=aQ st.1.2++[[aI (i:Int)]] from List.map_append ..];rfl,trivial⟩ ⟨by dsimp only;omega,by rw [hstep];exact hrow⟩ (by dsimp only;omega) (fun _ _ h=>by dsimp only;rw [hstep];dsimp only;rw [show aQ (st.1.2++[(i:Int)])=aQ st.1.2++[[aI (i:Int)]] from List.map_append ..];exact h)
   ·rw [if_neg (Ly hk4)] at hstep
    dsimp only [ret] at hstep
    refine W06 ?_
    exact aC (i+1,q,some (b',cs',cap')) rfl ⟨by rw [Lv];rfl,by rw [hstep];rfl,trivial⟩ ⟨by dsimp only;omega,by rw [hstep];exact hrow⟩ (by dsimp only;omega) (fun _ _ h=>by dsimp only;rw [hstep];exact h)
 have hil:i=k:=by have:=Ly h;omega
 subst hil
 have hhd:=sV s i p1.2
 generalize e2:eJ s i p1.2=st at hln ho hhd ⊢
 have hv:ij s n m=fB s n st.1.2 st.1.1 i st.2:=by
  unfold ij cg
  rw [e1]
  dsimp only
  rw [hkk,Int.toNat_natCast,e2]
 rw [hv]
 have hfi:=fun j=>D3 s hs n st.1.2 st.1.1 j st.2
 refine W0w ?_
 refine bM (bP (L':=dA b s (hZ F (AN i o)) st.2::(Dv o++[])) (List.Sublist.cons_cons _ ((List.nil_sublist _).append_left _))) ?_
 rcases o with _ | ⟨ob,ocs,ocap⟩
 ·have hi0:i=0:=ho
  subst hi0
  refine aN [0,2,3] (α:=Unit) (fun _=>[(6,aI 0)]) (fun _=>True) (fun _=>[dA b s (hZ F bO) st.2]) (fun _=>0) () rfl ⟨rfl,trivial⟩ trivial (fun _ _ h=>h) ?_
  intro _ _
  try dsimp only [Lr,Lq,Lp,Li]
  refine W1J ?_
  have hnil:(fB s n st.1.2 st.1.1 0 st.2).1=[]:=List.eq_nil_of_length_eq_zero (by rw [(hfi 0).1];exact hln.1)
  refine bc (bC 0 (cs':=Jg s (hZ F (.new (bG B.σ) 3 [])) st.2) rfl fun σ vs h=>cz (k:=5) (c:=bO) h rfl fun v hv=>of _ 3 hv) (cJ rfl ?_)
  rw [hnil]
  rfl
 refine aN [0,2,3] (α:=Nat×List AV) (fun x=>[(6,aI x.1)]) (fun x=>x.1≤i∧tV (bG B.σ) i x.1 (fB s n st.1.2 st.1.1 x.1 st.2).1 (some (ob,x.2,ocap))) (fun x=>[dA b s (hZ F (AN i (some (ob,ocs,ocap)))) (fB s n st.1.2 st.1.1 x.1 st.2).2,(ob,.box x.2 59)]) (fun x=>i - x.1) (0,ocs) rfl ⟨rfl,trivial⟩ ⟨Nat.zero_le _,ho⟩ (fun _ _ h=>h) ?_
 rintro ⟨j,cs⟩ ⟨hj,h1,h2,h3,h4⟩
 dsimp only at hj h1 h2 h3 h4 ⊢
 try dsimp only [Lr,Lq,Lp,Li]
 refine W01 ?_
 refine ar rfl (fun h=>?_) (fun h=>?_)
 ·have hji:j < i:=by have:=Lz h;omega
  have hfj:=hfi j
  have hstep:fB s n st.1.2 st.1.1 (j+1) st.2=(match (fB s n st.1.2 st.1.1 j st.2).1[j]? with
   | none=>ret (fB s n st.1.2 st.1.1 j st.2).1
   | some q=>if q.Kind≥7 then ret (fB s n st.1.2 st.1.1 j st.2).1 else cg (dr s 3) fun c=>cg (fp s n q.Kind st.1.2 (1+c).toNat) fun rs=>ret ((fB s n st.1.2 st.1.1 j st.2).1.set j { q with Rules:=rs })) (fB s n st.1.2 st.1.1 j st.2).2:=rfl
  generalize fB s n st.1.2 st.1.1 j st.2=T at hfj h4 hstep ⊢
  have hTl:T.1.length=i:=by rw [hfj.1];exact hln.1
  obtain ⟨q,hq⟩:∃q,T.1[j]?=some q:=⟨_,Iy (by omega)⟩
  have hq2:st.1.1[j]?=some q:=by rw [←hfj.2 j (Nat.le_refl _)];exact hq
  have hqm:=Lw hq2
  have hqk:=hhd.kinds q hqm
  have hqn:=hhd.none q hqm
  rw [hq] at hstep
  dsimp only at hstep
  have hcell:∀c,c < 3→cs[j * 3+c]?=(eW (bG B.σ) j j q)[c]?:=fun c hc=>by
   have e:=q9 (bG B.σ) j T.1 0 j c hc
   rw [hq,Option.bind_some,Nat.zero_add,←h4,List.getElem?_take,if_pos (by omega)] at e
   exact e
  have hP:∀c,0+((j:Int)).toNat * 3+c=j * 3+c:=fun c=>by rw [Int.toNat_natCast];omega
  have hc0:cs[0+((j:Int)).toNat * 3+0]?=some (aI q.Kind):=by rw [hP];exact hcell 0 (by omega)
  have hc2:cs[0+((j:Int)).toNat * 3+2]?=some bO:=by
   rw [hP,hcell 2 (by omega)]
   simp [eW]
  have hPl:0+((j:Int)).toNat * 3+2 < cs.length:=(Ln hc2).1
  refine W0A ?_
  refine ar rfl (fun h7=>?_) (fun h7=>?_)
  ·have h7:=Lz h7
   rw [if_pos (show q.Kind≥7 from h7)] at hstep
   refine W1g ?_
   refine bc (bC 1 (cs':=cs.set (0+((j:Int)).toNat * 3+2) (.new (bG B.σ) 6 [])) rfl fun σ vs h=>cz h hc2 fun v hv=>of _ 6 hv) ?_
   exact aC (j+1,cs.set (0+((j:Int)).toNat * 3+2) (.new (bG B.σ) 6 [])) rfl ⟨by rw [Lv];rfl,trivial⟩ ⟨by dsimp only;omega,by dsimp only;rw [List.length_set];exact h1,h2,h3,by rw [hstep,hP];dsimp only [ret];rw [List.take_set,h4];exact DB (bG B.σ) hq hqn⟩ (by dsimp only;omega) (fun _ _ h=>by dsimp only;rw [hstep];exact h)
  have h7:=Ly h7
  rw [if_neg (show ¬q.Kind≥7 from h7)] at hstep
  unfold cg at hstep
  refine W0e ?_
  refine cF ?_
  have hc:=cq s hs T.2.a (n:=3) (by omega)
  have hc:0≤(dr s 3 T.2).1∧(dr s 3 T.2).1 < 3:=hc
  generalize dr s 3 T.2=p2 at hc hstep ⊢
  dsimp only at hstep
  obtain ⟨c,hcc⟩:∃k:Nat,1+p2.1=k:=⟨(1+p2.1).toNat,by omega⟩
  rw [hcc,Int.toNat_natCast] at hstep
  refine W1c ?_
  rw [hcc]
  refine bM (bC 1 (cs':=cs.set (0+((j:Int)).toNat * 3+2) (.vec none 6 [])) rfl fun σ vs h=>cz h hc2 fun v hv=>cC 6 hv) ?_
  refine aN [0,2,3,6,7] (α:=Nat×Option (Nat×Nat)) (fun x=>[(8,aI x.1)]) (fun x=>x.1≤c) (fun x=>[dA b s (hZ F (AN i (some (ob,ocs,ocap)))) (fp s n q.Kind st.1.2 x.1 p2.2).2,(ob,.box (cs.set (0+((j:Int)).toNat * 3+2) (.vec x.2 6 ((fp s n q.Kind st.1.2 x.1 p2.2).1.map (co (bG B.σ))))) 59)]++(tok x.2 79 6 ((fp s n q.Kind st.1.2 x.1 p2.2).1.map (co (bG B.σ))).length++[])) (fun x=>c - x.1) (0,none) rfl ⟨rfl,trivial⟩ (Nat.zero_le _) (fun _ _ h=>h) ?_
  rintro ⟨r,qv⟩ hr
  dsimp only at hr ⊢
  have hrl:=y4 s hs n q.Kind st.1.2 r p2.2
  have hrs:fp s n q.Kind st.1.2 (r+1) p2.2=((fp s n q.Kind st.1.2 r p2.2).1++[(gR s n q.Kind st.1.2 (fp s n q.Kind st.1.2 r p2.2).2).1],(gR s n q.Kind st.1.2 (fp s n q.Kind st.1.2 r p2.2).2).2):=rfl
  try dsimp only [Lr,Lq,Lp,Li]
  refine W01 ?_
  refine ar rfl (fun h=>?_) (fun h=>?_)
  ·have hrc:r < c:=by have:=Lz h;omega
   generalize fp s n q.Kind st.1.2 r p2.2=R at hrl hrs ⊢
   have hset:(cs.set (0+((j:Int)).toNat * 3+2) (.vec qv 6 (R.1.map (co (bG B.σ)))))[0+((j:Int)).toNat * 3+2]?=some (.vec qv 6 (R.1.map (co (bG B.σ)))):=List.getElem?_set_self hPl
   have hset0:(cs.set (0+((j:Int)).toNat * 3+2) (.vec qv 6 (R.1.map (co (bG B.σ)))))[0+((j:Int)).toNat * 3+0]?=some (aI q.Kind):=by rw [List.getElem?_set_ne (by omega)];exact hc0
   have hRl:(R.1.map (co (bG B.σ))).length=R.1.length:=Lu ..
   refine W0K ?_
   refine dx [.cell (b,5,AN i (some (ob,ocs,ocap))),.cell (ob,0+((j:Int)).toNat * 3+2,.vec qv 6 (R.1.map (co (bG B.σ))))] 29 [(0,.v),(1,.v),(2,.v),(3,.v),(4,.k),(5,.v),(6,.v),(7,.v),(8,.v),(9,.v),(10,.k),(11,.v),(12,.v),(13,.v),(14,.k),(15,.v),(16,.v),(17,.v),(18,.v),(19,.v),(20,.l),(21,.v),(22,.v),(23,.v),(24,.l),(25,.v),(26,.f),(27,.v),(28,.f)] none ?_ trivial rfl (by kernel_rfl) (by kernel_rfl) (by kernel_rfl) bX (by kernel_rfl) rfl
   have hkeep:∀m' Z,eC [.cell (b,5,AN i (some (ob,ocs,ocap))),.cell (ob,0+((j:Int)).toNat * 3+2,.vec qv 6 (R.1.map (co (bG B.σ))))] (dA b s (hZ F (AN i (some (ob,ocs,ocap)))) m'::(ob,.box (cs.set (0+((j:Int)).toNat * 3+2) (.vec qv 6 (R.1.map (co (bG B.σ))))) 59)::Z):=fun m' Z=>bL 0 rfl rfl (bL 1 rfl hset c8)
   refine W0a ?_
   refine dP a5 0 rfl rfl rfl (hkeep _ _) (by first | trivial | rfl) ?_
   refine W0a ?_
   refine dP a5 0 rfl rfl rfl (hkeep _ _) (by first | trivial | rfl) ?_
   refine W0a ?_
   refine d8 a5 rfl rfl rfl (by omega) (by first | trivial | rfl) ?_
   refine W0a ?_
   refine dP a5 1 rfl rfl rfl (hkeep _ _) (by first | trivial | rfl) ?_
   refine W0t ?_
   refine d8 a5 rfl rfl rfl (by omega) (by first | trivial | rfl) ?_
   refine W0a ?_
   refine cf a5 1 rfl rfl rfl hset0 (by first | trivial | rfl) ?_
   refine W0a ?_
   refine tK (Eo s hs (hZ F (AN i (some (ob,ocs,ocap)))) hF n hn h0 q.Kind (by omega) st.1.2 (by omega)) (fun r=>AU r) (hkeep _ _) ?_
   generalize gR s n q.Kind st.1.2 R.2=y at hrs ⊢
   refine W1e ?_
   refine Ad a5 _ rfl rfl rfl rfl (eK (A:=[_,_])) (by simp;omega) (by simp;omega) (hkeep _ _) (by first | trivial | rfl) fun q'=>?_
   refine LQ [0,2,3,6,7,8,70,71,94] KZ ?_
   refine aE (aH (eK (A:=[_,_])).symm) ?_
   refine W0X ?_
   refine LU a5 1 LD (by rw [Nat.ble_eq,List.length_set];exact hPl) ?_
   refine W05 ?_
   exact aC (r+1,q') rfl ⟨by rw [Lv];rfl,trivial⟩ (by dsimp only;omega) (by dsimp only;omega) (fun _ _ h=>by dsimp only;rw [hrs];dsimp only;rw [List.map_append];simp only [fx,List.set_set] at h;exact h)
  have hrc:r=c:=by have:=Ly h;omega
  subst hrc
  generalize fp s n q.Kind st.1.2 r p2.2=R at hrl hstep ⊢
  have hset:(cs.set (0+((j:Int)).toNat * 3+2) (.vec qv 6 (R.1.map (co (bG B.σ)))))[0+((j:Int)).toNat * 3+2]?=some (.vec qv 6 (R.1.map (co (bG B.σ)))):=List.getElem?_set_self hPl
  refine W0y ?_
  refine bc (eE 1 (cs':=(cs.set (0+((j:Int)).toNat * 3+2) (.vec qv 6 (R.1.map (co (bG B.σ))))).set (0+((j:Int)).toNat * 3+2) (.new (bG B.σ) 6 (R.1.map (co (bG B.σ))))) rfl fun σ w vs hw h=>cz h hset fun v hv=>jm (A:=[_,_]) hw (by exact AE hBX) hBq hv) ?_
  refine bc (bP (L':=[dA b s (hZ F (AN i (some (ob,ocs,ocap)))) R.2,(ob,.box ((cs.set (0+((j:Int)).toNat * 3+2) (.vec qv 6 (R.1.map (co (bG B.σ))))).set (0+((j:Int)).toNat * 3+2) (.new (bG B.σ) 6 (R.1.map (co (bG B.σ))))) 59)]) (List.Sublist.cons_cons _ (List.Sublist.cons_cons _ (List.nil_sublist _)))) ?_
  rw [List.set_set]
  exact aC (j+1,cs.set (0+((j:Int)).toNat * 3+2) (.new (bG B.σ) 6 (R.1.map (co (bG B.σ))))) rfl ⟨by rw [Lv];rfl,trivial⟩ ⟨by dsimp only;omega,by dsimp only;rw [List.length_set];exact h1,h2,h3,by rw [hstep,hP];dsimp only [ret];rw [List.take_set,h4];exact z3 (bG B.σ) hq⟩ (by dsimp only;omega) (fun _ _ h=>by dsimp only;rw [hstep];exact h)
 have hji:j=i:=by have:=Ly h;omega
 subst hji
 generalize hT:fB s n st.1.2 st.1.1 j st.2=T at h4 ⊢
 have hTl:T.1.length=j:=by rw [←hT,(hfi j).1];exact hln.1
 refine W19 ?_
 refine bc (aH (List.Perm.swap _ _ _)) ?_
 refine bc (yf (q:=(bG B.σ)) (by exact AE hBX) hBq (k:=5) (n:=j) (cap:=ocap) (l:=T.1.map (cU (bG B.σ))) rfl (by rw [h4,yY (bG B.σ) _ _ _ (by omega)]) h1 (fun q hq=>by
  obtain ⟨x,_,rfl⟩:=List.mem_map.1 hq
  rfl) (by rw [Lu];exact hTl) h2 h3) ?_
 exact cJ rfl rfl
end Go.Proofs.YtpmdfoaadejmkaaGreatDoor
