/-
  The maker: lookups.
-/
import Derived.Test.YtamjlkdanllgjaaGreatDoorM27
import Derived.Test.YtamjlkdanllgjaaGreatDoorM26
namespace Go.Proofs.YtamjlkdanllgjaaGreatDoor
open Go.RowKit
attribute [local irreducible] AT bF AX AO Av Kt b8 d9 DA cu
set_option maxRecDepth 8000
variable (s:List Int) (hs:s.length≤1000000) (F:MF)
include hs
theorem y8 (k:Nat) (m:MS):(eD s k m).1.1.length=k∧(eD s k m).1.2.length≤k:=by
 have _:=hs
 clear hs
 induction k with
 | zero=>exact ⟨rfl,Nat.le_refl _⟩
 | succ k ih=>
  have:eD s (k+1) m=(c8 (dr s 10) fun z=>c8 (dr s 3) fun y=>cK ((eD s k m).1.1++[(⟨fM.getD z.toNat 0,decide (y=0),[]⟩:bf)],if fM.getD z.toNat 0≤4 then (eD s k m).1.2++[(k:Int)] else (eD s k m).1.2)) (eD s k m).2:=rfl
  rw [this]
  simp only [c8,cK]
  refine ⟨by simp [ih.1],?_⟩
  split
  ·simp;omega
  ·omega
theorem E4 (n:Int) (calls:List Int) (l:List bf) (k:Nat) (m:MS):(fk s n calls l k m).1.length=l.length∧∀j,k≤j→(fk s n calls l k m).1[j]?=l[j]?:=by
 have _:=hs
 clear hs
 induction k with
 | zero=>exact ⟨rfl,fun j _=>rfl⟩
 | succ k ih=>
  have:fk s n calls l (k+1) m=(match (fk s n calls l k m).1[k]? with
   | none=>cK (fk s n calls l k m).1
   | some q=>if q.Kind≥7 then cK (fk s n calls l k m).1 else c8 (dr s 3) fun c=>c8 (f6 s n q.Kind calls (1+c).toNat) fun rs=>cK ((fk s n calls l k m).1.set k { q with Rules:=rs })) (fk s n calls l k m).2:=rfl
  rw [this]
  cases hq:(fk s n calls l k m).1[k]? with
  | none=>exact ⟨ih.1,fun j hj=>ih.2 j (by omega)⟩
  | some q=>
   dsimp only
   by_cases h7:q.Kind≥7
   ·rw [if_pos h7]
    exact ⟨ih.1,fun j hj=>ih.2 j (by omega)⟩
   ·rw [if_neg h7]
    simp only [c8,cK]
    refine ⟨by rw [List.length_set];exact ih.1,fun j hj=>?_⟩
    rw [List.getElem?_set_ne (by omega)]
    exact ih.2 j (by omega)
theorem yJ (n kind:Int) (calls:List Int) (k:Nat) (m:MS):(f6 s n kind calls k m).1.length=k:=by
 have _:=hs
 clear hs
 induction k with
 | zero=>rfl
 | succ k ih=>
  have:f6 s n kind calls (k+1) m=((f6 s n kind calls k m).1++[(gI s n kind calls (f6 s n kind calls k m).2).1],(gI s n kind calls (f6 s n kind calls k m).2).2):=rfl
  rw [this]
  simp [ih]
abbrev gW (F:MF) (v:AV):MF:={ F with lk:=v }
set_option maxHeartbeats 16000000 in
theorem yg {kg:Option (Nat×Nat)} {gl:List (List AV)} (hF:F.gl= .vec kg 9 gl) (hl:F.lk=bV) (n:Nat) (hn:gl.length=n) (h0:0 < n∧n≤1000) (b:Nat) (m:MS):AC Tryz.prog 54 [Gf b] [ee b s F m] fun _ L=>L=[ee b s (gW F (.imm 3 ((iT s n m).1.map bC))) (iT s n m).2]:=by
 refine aQ Tryz.func54 rfl Tryz.ntmps54 rfl fun B=>?_
 refine W01 ?_
 refine cL ?_
 have hk:=co s hs m.a (n:=7) (by omega)
 have hk:0≤(dr s 7 m).1∧(dr s 7 m).1 < 7:=hk
 generalize e1:dr s 7 m=p1 at hk ⊢
 obtain ⟨k,hkk⟩:∃k:Nat,p1.1=k:=⟨p1.1.toNat,by omega⟩
 rw [hkk]
 have hFF:F=gW F bV:=by
  cases F
  simp only at hl
  rw [hl]
 rw [hFF]
 refine W03 ?_
 refine bM (bq (t:=3) (c':= .vec none 1 []) rfl fun σ v h=>cM 1 h) ?_
 refine aJ [0,2] (α:=Nat×Option (Nat×Nat)×Option (Nat×List AV×Nat)) (fun x=>[(4,aG x.1),(3,.vec x.2.1 1 (aL (eD s x.1 p1.2).1.2))]) (fun x=>x.1≤k∧zT x.1 0 (eD s x.1 p1.2).1.1 x.2.2) (fun x=>ee b s (gW F (BW x.1 x.2.2)) (eD s x.1 p1.2).2::(Ey x.2.2++(tok x.2.1 3 1 (aL (eD s x.1 p1.2).1.2).length++[]))) (fun x=>k - x.1) (0,none,none) rfl ⟨rfl,rfl,trivial⟩ ⟨Nat.zero_le _,rfl⟩ (fun _ _ h=>by simpa [eD,i7,cK,tok,aL,Ey,BW] using h) ?_
 rintro ⟨i,q,o⟩ ⟨hi,ho⟩
 dsimp only at hi ho ⊢
 have hln:=y8 s hs i p1.2
 try dsimp only [Oq,Oo,Om,Oh]
 refine W01 ?_
 refine aw rfl (fun h=>?_) (fun h=>?_)
 ·have hil:i < k:=by have:=Oy h;omega
  have hstep:eD s (i+1) p1.2=(c8 (dr s 10) fun z=>c8 (dr s 3) fun y=>cK ((eD s i p1.2).1.1++[(⟨fM.getD z.toNat 0,decide (y=0),[]⟩:bf)],if fM.getD z.toNat 0≤4 then (eD s i p1.2).1.2++[(i:Int)] else (eD s i p1.2).1.2)) (eD s i p1.2).2:=rfl
  generalize eD s i p1.2=st at hln ho hstep ⊢
  have hil2:(aL st.1.2).length=st.1.2.length:=aP _
  refine W1b ?_
  refine cL ?_
  have hz:=co s hs st.2.a (n:=10) (by omega)
  have hz:0≤(dr s 10 st.2).1∧(dr s 10 st.2).1 < 10:=hz
  unfold c8 at hstep
  generalize dr s 10 st.2=z at hz hstep ⊢
  dsimp only at hstep
  have hzk:(aL fM)[z.1.toNat]?=some [aG (fM.getD z.1.toNat 0)]:=bD (by rw [List.getD_eq_getElem?_getD,Oz (show z.1.toNat < fM.length by simp [fM];omega)];rfl)
  generalize hkd:fM.getD z.1.toNat 0=kd at hzk hstep
  refine W0o ?_
  refine dE [.cell (b,5,BW i o)] 13 [(0,.v),(1,.v),(2,.v),(3,.v),(4,.v),(5,.k),(6,.v),(7,.v),(8,.f),(9,.v),(10,.v),(11,.v),(12,.e)] none ?_ trivial rfl (by kernel_rfl) (by kernel_rfl) (by kernel_rfl) mixed (by kernel_rfl) rfl
  refine W06 ?_
  refine dU a7 0 rfl rfl rfl (bR 0 rfl rfl c6) (by first | trivial | rfl) ?_
  refine W06 ?_
  refine eO (bR 0 rfl rfl c6) ?_
  generalize dr s 3 z.2=y at hstep ⊢
  refine W0R ?_
  have hst1:st.1.1.length=i:=hln.1
  rcases o with _ | ⟨ob,ocs,ocap⟩
  ·have hi0:i=0:=ho
   subst hi0
   refine xK a7 rfl rfl rfl rfl rfl rfl rfl (by first | trivial | rfl) fun b' cs' cap' h1 h2 h3 h4=>?_
   have hrow:zT (0+1) 0 (st.1.1++[⟨kd,decide (y.1=0),[]⟩]) (some (b',cs',cap')):=by
    refine ⟨h1,by omega,h4,?_⟩
    rw [List.eq_nil_of_length_eq_zero (by omega:st.1.1.length=0)]
    exact h2
   refine OO [0,2,3,4,5,21,33] KN ?_
   refine aX (aW (L':=ee b s (gW F (BW 0 none)) y.2::(Ey (some (b',cs',cap'))++(tok q 3 1 (aL st.1.2).length++[]))) (List.Perm.swap _ _ _)) ?_
   refine W09 ?_
   refine aw rfl (fun hk4=>?_) (fun hk4=>?_)
   ·rw [if_pos (Oy hk4)] at hstep
    dsimp only [cK] at hstep
    refine W0f ?_
    refine bA a7 _ rfl rfl rfl rfl (eQ (A:=[_,_])) (by simp [aP];omega) (by simp [aP];omega) rfl fun q'=>?_
    refine aX (aW (eQ (A:=[_,_])).symm) ?_
    refine W02 ?_
    exact aD (0+1,q',some (b',cs',cap')) rfl ⟨rfl,by rw [hstep];dsimp only;rw [show aL (st.1.2++[((0:Nat):Int)])=aL st.1.2++[[aG ((0:Nat):Int)]] from List.map_append ..];rfl,trivial⟩ ⟨by dsimp only;omega,by rw [hstep];exact hrow⟩ (by dsimp only;omega) (fun _ _ h=>by dsimp only;rw [hstep];dsimp only;rw [show aL (st.1.2++[((0:Nat):Int)])=aL st.1.2++[[aG ((0:Nat):Int)]] from List.map_append ..];exact h)
   ·rw [if_neg (Ox hk4)] at hstep
    dsimp only [cK] at hstep
    refine W02 ?_
    exact aD (0+1,q,some (b',cs',cap')) rfl ⟨rfl,by rw [hstep];rfl,trivial⟩ ⟨by dsimp only;omega,by rw [hstep];exact hrow⟩ (by dsimp only;omega) (fun _ _ h=>by dsimp only;rw [hstep];exact h)
  ·obtain ⟨ho1,ho2,ho3,ho4⟩:=ho
   refine Bu a7 1 rfl rfl rfl rfl rfl rfl rfl ho1 ho2 ho3 (by unfold maxLen;omega) (by omega) (by first | trivial | rfl) fun b' cs' cap' h1 h2 h3 h4=>?_
   have hrow:zT (i+1) 0 (st.1.1++[⟨kd,decide (y.1=0),[]⟩]) (some (b',cs',cap')):=by
    refine ⟨h1,h3,h4,?_⟩
    rw [h2,ho4,zU]
    rfl
   refine OO [0,2,3,4,5,21,33] KN ?_
   refine aX (aW (L':=ee b s (gW F (BW i (some (ob,ocs,ocap)))) y.2::(Ey (some (b',cs',cap'))++(tok q 3 1 (aL st.1.2).length++[]))) (List.Perm.swap _ _ _)) ?_
   refine W09 ?_
   refine aw rfl (fun hk4=>?_) (fun hk4=>?_)
   ·rw [if_pos (Oy hk4)] at hstep
    dsimp only [cK] at hstep
    refine W0f ?_
    refine bA a7 _ rfl rfl rfl rfl (eQ (A:=[_,_])) (by simp [aP];omega) (by simp [aP];omega) rfl fun q'=>?_
    refine aX (aW (eQ (A:=[_,_])).symm) ?_
    refine W02 ?_
    exact aD (i+1,q',some (b',cs',cap')) rfl ⟨by rw [Ov];rfl,by rw [hstep];dsimp only;rw [show aL (st.1.2++[(i:Int)])=aL st.1.2++[[aG (i:Int)]] from List.map_append ..];rfl,trivial⟩ ⟨by dsimp only;omega,by rw [hstep];exact hrow⟩ (by dsimp only;omega) (fun _ _ h=>by dsimp only;rw [hstep];dsimp only;rw [show aL (st.1.2++[(i:Int)])=aL st.1.2++[[aG (i:Int)]] from List.map_append ..];exact h)
   ·rw [if_neg (Ox hk4)] at hstep
    dsimp only [cK] at hstep
    refine W02 ?_
    exact aD (i+1,q,some (b',cs',cap')) rfl ⟨by rw [Ov];rfl,by rw [hstep];rfl,trivial⟩ ⟨by dsimp only;omega,by rw [hstep];exact hrow⟩ (by dsimp only;omega) (fun _ _ h=>by dsimp only;rw [hstep];exact h)
 have hil:i=k:=by have:=Ox h;omega
 subst hil
 have hhd:=tv s i p1.2
 generalize e2:eD s i p1.2=st at hln ho hhd ⊢
 have hv:iT s n m=fk s n st.1.2 st.1.1 i st.2:=by
  unfold iT c8
  rw [e1]
  dsimp only
  rw [hkk,Int.toNat_natCast,e2]
 rw [hv]
 have hfi:=fun j=>E4 s hs n st.1.2 st.1.1 j st.2
 refine W03 ?_
 refine bM (bS (L':=ee b s (gW F (BW i o)) st.2::(Ey o++[])) (List.Sublist.cons_cons _ ((List.nil_sublist _).append_left _))) ?_
 rcases o with _ | ⟨ob,ocs,ocap⟩
 ·have hi0:i=0:=ho
  subst hi0
  refine aJ [0,2,3] (α:=Unit) (fun _=>[(6,aG 0)]) (fun _=>True) (fun _=>[ee b s (gW F bV) st.2]) (fun _=>0) () rfl ⟨rfl,trivial⟩ trivial (fun _ _ h=>h) ?_
  intro _ _
  try dsimp only [Oq,Oo,Om,Oh]
  refine W0m ?_
  have hnil:(fk s n st.1.2 st.1.1 0 st.2).1=[]:=List.eq_nil_of_length_eq_zero (by rw [(hfi 0).1];exact hln.1)
  refine b7 (bB 0 (cs':=LW s (gW F (.imm 3 [])) st.2) rfl fun σ vs h=>cJ (k:=5) (c:=bV) h rfl fun v hv=>dV 3 hv) (cN rfl ?_)
  rw [hnil]
  rfl
 refine aJ [0,2,3] (α:=Nat×List AV) (fun x=>[(6,aG x.1)]) (fun x=>x.1≤i∧zT i x.1 (fk s n st.1.2 st.1.1 x.1 st.2).1 (some (ob,x.2,ocap))) (fun x=>[ee b s (gW F (BW i (some (ob,ocs,ocap)))) (fk s n st.1.2 st.1.1 x.1 st.2).2,(ob,.box x.2 76)]) (fun x=>i - x.1) (0,ocs) rfl ⟨rfl,trivial⟩ ⟨Nat.zero_le _,ho⟩ (fun _ _ h=>h) ?_
 rintro ⟨j,cs⟩ ⟨hj,h1,h2,h3,h4⟩
 dsimp only at hj h1 h2 h3 h4 ⊢
 try dsimp only [Oq,Oo,Om,Oh]
 refine W01 ?_
 refine aw rfl (fun h=>?_) (fun h=>?_)
 ·have hji:j < i:=by have:=Oy h;omega
  have hfj:=hfi j
  have hstep:fk s n st.1.2 st.1.1 (j+1) st.2=(match (fk s n st.1.2 st.1.1 j st.2).1[j]? with
   | none=>cK (fk s n st.1.2 st.1.1 j st.2).1
   | some q=>if q.Kind≥7 then cK (fk s n st.1.2 st.1.1 j st.2).1 else c8 (dr s 3) fun c=>c8 (f6 s n q.Kind st.1.2 (1+c).toNat) fun rs=>cK ((fk s n st.1.2 st.1.1 j st.2).1.set j { q with Rules:=rs })) (fk s n st.1.2 st.1.1 j st.2).2:=rfl
  generalize fk s n st.1.2 st.1.1 j st.2=T at hfj h4 hstep ⊢
  have hTl:T.1.length=i:=by rw [hfj.1];exact hln.1
  obtain ⟨q,hq⟩:∃q,T.1[j]?=some q:=⟨_,Oz (by omega)⟩
  have hq2:st.1.1[j]?=some q:=by rw [←hfj.2 j (Nat.le_refl _)];exact hq
  have hqm:=Ow hq2
  have hqk:=hhd.kinds q hqm
  have hqn:=hhd.none q hqm
  rw [hq] at hstep
  dsimp only at hstep
  have hcell:∀c,c < 3→cs[j * 3+c]?=(fF j j q)[c]?:=fun c hc=>by
   have e:=uu j T.1 0 j c hc
   rw [hq,Option.bind_some,Nat.zero_add,←h4,List.getElem?_take,if_pos (by omega)] at e
   exact e
  have hP:∀c,0+((j:Int)).toNat * 3+c=j * 3+c:=fun c=>by rw [Int.toNat_natCast];omega
  have hc0:cs[0+((j:Int)).toNat * 3+0]?=some (aG q.Kind):=by rw [hP];exact hcell 0 (by omega)
  have hc2:cs[0+((j:Int)).toNat * 3+2]?=some bV:=by
   rw [hP,hcell 2 (by omega)]
   simp [fF]
  have hPl:0+((j:Int)).toNat * 3+2 < cs.length:=(Ol hc2).1
  refine W0n ?_
  refine aw rfl (fun h7=>?_) (fun h7=>?_)
  ·have h7:=Oy h7
   rw [if_pos (show q.Kind≥7 from h7)] at hstep
   refine W02 ?_
   refine b7 (bB 1 (cs':=cs.set (0+((j:Int)).toNat * 3+2) (.imm 6 [])) rfl fun σ vs h=>cJ h hc2 fun v hv=>dV 6 hv) ?_
   exact aD (j+1,cs.set (0+((j:Int)).toNat * 3+2) (.imm 6 [])) rfl ⟨by rw [Ov];rfl,trivial⟩ ⟨by dsimp only;omega,by dsimp only;rw [List.length_set];exact h1,h2,h3,by rw [hstep,hP];dsimp only [cK];rw [List.take_set,h4];exact HA hq hqn⟩ (by dsimp only;omega) (fun _ _ h=>by dsimp only;rw [hstep];exact h)
  have h7:=Ox h7
  rw [if_neg (show ¬q.Kind≥7 from h7)] at hstep
  unfold c8 at hstep
  refine W01 ?_
  refine cL ?_
  have hc:=co s hs T.2.a (n:=3) (by omega)
  have hc:0≤(dr s 3 T.2).1∧(dr s 3 T.2).1 < 3:=hc
  generalize dr s 3 T.2=p2 at hc hstep ⊢
  dsimp only at hstep
  obtain ⟨c,hcc⟩:∃k:Nat,1+p2.1=k:=⟨(1+p2.1).toNat,by omega⟩
  rw [hcc,Int.toNat_natCast] at hstep
  refine W0c ?_
  rw [hcc]
  refine bM (bB 1 (cs':=cs.set (0+((j:Int)).toNat * 3+2) (.vec none 6 [])) rfl fun σ vs h=>cJ h hc2 fun v hv=>cM 6 hv) ?_
  refine aJ [0,2,3,6,7] (α:=Nat×Option (Nat×Nat)) (fun x=>[(8,aG x.1)]) (fun x=>x.1≤c) (fun x=>[ee b s (gW F (BW i (some (ob,ocs,ocap)))) (f6 s n q.Kind st.1.2 x.1 p2.2).2,(ob,.box (cs.set (0+((j:Int)).toNat * 3+2) (.vec x.2 6 ((f6 s n q.Kind st.1.2 x.1 p2.2).1.map bN))) 76)]++(tok x.2 73 6 ((f6 s n q.Kind st.1.2 x.1 p2.2).1.map bN).length++[])) (fun x=>c - x.1) (0,none) rfl ⟨rfl,trivial⟩ (Nat.zero_le _) (fun _ _ h=>h) ?_
  rintro ⟨r,qv⟩ hr
  dsimp only at hr ⊢
  have hrl:=yJ s hs n q.Kind st.1.2 r p2.2
  have hrs:f6 s n q.Kind st.1.2 (r+1) p2.2=((f6 s n q.Kind st.1.2 r p2.2).1++[(gI s n q.Kind st.1.2 (f6 s n q.Kind st.1.2 r p2.2).2).1],(gI s n q.Kind st.1.2 (f6 s n q.Kind st.1.2 r p2.2).2).2):=rfl
  try dsimp only [Oq,Oo,Om,Oh]
  refine W01 ?_
  refine aw rfl (fun h=>?_) (fun h=>?_)
  ·have hrc:r < c:=by have:=Oy h;omega
   generalize f6 s n q.Kind st.1.2 r p2.2=R at hrl hrs ⊢
   have hset:(cs.set (0+((j:Int)).toNat * 3+2) (.vec qv 6 (R.1.map bN)))[0+((j:Int)).toNat * 3+2]?=some (.vec qv 6 (R.1.map bN)):=List.getElem?_set_self hPl
   have hset0:(cs.set (0+((j:Int)).toNat * 3+2) (.vec qv 6 (R.1.map bN)))[0+((j:Int)).toNat * 3+0]?=some (aG q.Kind):=by rw [List.getElem?_set_ne (by omega)];exact hc0
   have hRl:(R.1.map bN).length=R.1.length:=Ou ..
   refine W0z ?_
   refine dE [.cell (b,5,BW i (some (ob,ocs,ocap))),.cell (ob,0+((j:Int)).toNat * 3+2,.vec qv 6 (R.1.map bN))] 29 [(0,.v),(1,.v),(2,.v),(3,.v),(4,.k),(5,.v),(6,.v),(7,.v),(8,.v),(9,.v),(10,.k),(11,.v),(12,.v),(13,.v),(14,.k),(15,.v),(16,.v),(17,.v),(18,.v),(19,.v),(20,.l),(21,.v),(22,.v),(23,.v),(24,.l),(25,.v),(26,.f),(27,.v),(28,.f)] none ?_ trivial rfl (by kernel_rfl) (by kernel_rfl) (by kernel_rfl) mixed (by kernel_rfl) rfl
   have hkeep:∀m' Z,fc [.cell (b,5,BW i (some (ob,ocs,ocap))),.cell (ob,0+((j:Int)).toNat * 3+2,.vec qv 6 (R.1.map bN))] (ee b s (gW F (BW i (some (ob,ocs,ocap)))) m'::(ob,.box (cs.set (0+((j:Int)).toNat * 3+2) (.vec qv 6 (R.1.map bN))) 76)::Z):=fun m' Z=>bR 0 rfl rfl (bR 1 rfl hset c6)
   refine W06 ?_
   refine dU a7 0 rfl rfl rfl (hkeep _ _) (by first | trivial | rfl) ?_
   refine W06 ?_
   refine dU a7 0 rfl rfl rfl (hkeep _ _) (by first | trivial | rfl) ?_
   refine W06 ?_
   refine c5 a7 rfl rfl rfl (by omega) (by first | trivial | rfl) ?_
   refine W06 ?_
   refine dU a7 1 rfl rfl rfl (hkeep _ _) (by first | trivial | rfl) ?_
   refine W0t ?_
   refine c5 a7 rfl rfl rfl (by omega) (by first | trivial | rfl) ?_
   refine W06 ?_
   refine cW a7 1 rfl rfl rfl hset0 (by first | trivial | rfl) ?_
   refine W06 ?_
   refine t2 (Cy s hs (gW F (BW i (some (ob,ocs,ocap)))) hF n hn h0 q.Kind (by omega) st.1.2 (by omega)) (hkeep _ _) ?_
   generalize gI s n q.Kind st.1.2 R.2=y at hrs ⊢
   unfold J4
   refine W0K ?_
   refine Br a7 _ rfl rfl rfl rfl (eQ (A:=[_,_])) (by simp;omega) (by simp;omega) (hkeep _ _) (by first | trivial | rfl) fun q'=>?_
   refine OO [0,2,3,6,7,8,70,71,94] KN ?_
   refine aX (aW (eQ (A:=[_,_])).symm) ?_
   refine W0V ?_
   refine ai a7 1 rfl rfl rfl rfl rfl rfl (by rw [Nat.ble_eq,List.length_set];exact hPl) ?_
   refine W02 ?_
   exact aD (r+1,q') rfl ⟨by rw [Ov];rfl,trivial⟩ (by dsimp only;omega) (by dsimp only;omega) (fun _ _ h=>by dsimp only;rw [hrs];dsimp only;rw [List.map_append];simp only [eR,List.set_set] at h;exact h)
  have hrc:r=c:=by have:=Ox h;omega
  subst hrc
  generalize f6 s n q.Kind st.1.2 r p2.2=R at hrl hstep ⊢
  have hset:(cs.set (0+((j:Int)).toNat * 3+2) (.vec qv 6 (R.1.map bN)))[0+((j:Int)).toNat * 3+2]?=some (.vec qv 6 (R.1.map bN)):=List.getElem?_set_self hPl
  refine W02 ?_
  refine b7 (bS (L':=[ee b s (gW F (BW i (some (ob,ocs,ocap)))) R.2,(ob,.box (cs.set (0+((j:Int)).toNat * 3+2) (.vec qv 6 (R.1.map bN))) 76)]) (List.Sublist.cons_cons _ (List.Sublist.cons_cons _ (List.nil_sublist _)))) ?_
  refine b7 (bB 1 (cs':=(cs.set (0+((j:Int)).toNat * 3+2) (.vec qv 6 (R.1.map bN))).set (0+((j:Int)).toNat * 3+2) (.imm 6 (R.1.map bN))) rfl fun σ vs h=>cJ h hset fun v hv=>VR.im hv) ?_
  rw [List.set_set]
  exact aD (j+1,cs.set (0+((j:Int)).toNat * 3+2) (.imm 6 (R.1.map bN))) rfl ⟨by rw [Ov];rfl,trivial⟩ ⟨by dsimp only;omega,by dsimp only;rw [List.length_set];exact h1,h2,h3,by rw [hstep,hP];dsimp only [cK];rw [List.take_set,h4];exact ED hq⟩ (by dsimp only;omega) (fun _ _ h=>by dsimp only;rw [hstep];exact h)
 have hji:j=i:=by have:=Ox h;omega
 subst hji
 generalize hT:fk s n st.1.2 st.1.1 j st.2=T at h4 ⊢
 have hTl:T.1.length=j:=by rw [←hT,(hfi j).1];exact hln.1
 repeat' (first|refine O1 ?_|fail)
 refine b7 (aW (List.Perm.swap _ _ _)) ?_
 refine b7 (p9 (k:=5) (n:=j) (cap:=ocap) (l:=T.1.map bC) rfl (by rw [h4,EB _ _ _ (by omega)]) h1 (fun q hq=>by
  obtain ⟨x,_,rfl⟩:=List.mem_map.1 hq
  rfl) (by rw [Ou];exact hTl) h2 h3) ?_
 exact cN rfl rfl
end Go.Proofs.YtamjlkdanllgjaaGreatDoor
namespace Go.Proofs.YtamjlkdanllgjaaGreatDoor
variable (s:List Int)
def IZ (a:dN):Int×Int:=(a.Kind,a.Class)
structure KR (cl:Int) (mark:Bool) (l:List dN):Prop where
 sub:(l.map IZ).Sublist (ij cl)
 at':∀a∈l,(0≤a.X∧a.X≤1000)∧(-200≤a.Y∧a.Y≤800)∧(a.Kind=2→mark=true)
theorem vw {cl:Int} {i:Nat} (h:i < 5):(ij cl)[i]?=some ((ij cl).getD i (0,0)):=by
 rw [List.getD_eq_getElem?_getD,Oz (show i < (ij cl).length from h)]
 rfl
theorem vx (mark:Bool) (cl:Int):bX (eX s mark cl 5) (KR cl mark):=by
 refine (bX.runs (b:=[]) (fun i (l:List dN)=>(l.map IZ).Sublist ((ij cl).take i)∧∀a∈l,(0≤a.X∧a.X≤1000)∧(-200≤a.Y∧a.Y≤800)∧(a.Kind=2→mark=true)) 5 ⟨List.nil_sublist _,fun a ha=>by cases ha⟩ fun i l hi ⟨h1,h2⟩=>(bX.any _).bnd fun z _=>bX.ite (fun h3=>(d3 s (by omega)).bnd fun x hx=>(d3 s (by omega)).bnd fun y hy=>bX.ret ⟨?_,fun a ha=>?_⟩) fun _=>bX.ret ⟨?_,h2⟩).mono fun l ⟨h1,h2⟩=>⟨h1,h2⟩
 ·rw [List.take_add_one,vw hi,List.map_append]
  exact h1.append (List.Sublist.refl _)
 ·rcases Oj ha with ha | ha
  ·exact h2 a ha
  ·rw [Oi ha]
   refine ⟨by dsimp only;omega,by dsimp only;omega,fun hk=>?_⟩
   rcases h3.2 with h4 | h4
   ·exact absurd hk h4
   ·exact h4
 ·rw [List.take_add_one]
  exact h1.trans (List.sublist_append_left _ _)
def MW (a b:dT):Prop:=a.Region < b.Region∨(a.Region=b.Region∧a.Point < b.Point)
structure KV (R pts:Nat) (l:List dT):Prop where
 up:l.Pairwise MW
 len:l.length≤R * (pts+1)
 dom:∀d∈l,(0≤d.Region∧d.Region < R)∧(-1≤d.Point∧d.Point < pts)∧(-20≤d.X∧d.X≤20)∧(-20≤d.Y∧d.Y≤20)∧(d.Point= -1→d.Y=0)
structure vj (r p pts:Nat) (l:List dT):Prop where
 up:l.Pairwise MW
 len:l.length≤r * (pts+1)+p
 dom:∀d∈l,(0≤d.Region∧(d.Region < r∨(d.Region=r∧d.Point < (p:Int) - 1)))∧(-1≤d.Point∧d.Point < pts)∧(-20≤d.X∧d.X≤20)∧(-20≤d.Y∧d.Y≤20)∧(d.Point= -1→d.Y=0)
theorem vj.more {r p pts:Nat} {l:List dT} (h:vj r p pts l):vj r (p+1) pts l:=⟨h.up,by have:=h.len;omega,fun d hd=>by have:=h.dom d hd;omega⟩
theorem vj.add {r p pts:Nat} {l:List dT} (h:vj r p pts l) {x y:Int} (hp:p≤pts) (hx: -20≤x∧x≤20) (hy: -20≤y∧y≤20) (h0:p=0→y=0):vj r (p+1) pts (l++[⟨r,(p:Int) - 1,x,y⟩]):=by
 refine ⟨?_,by have:=h.len;simp;omega,fun d hd=>?_⟩
 ·rw [List.pairwise_append]
  refine ⟨h.up,List.pairwise_singleton ..,fun a ha b hb=>?_⟩
  rw [Oi hb]
  have:=h.dom a ha
  unfold MW
  dsimp only
  omega
 ·rcases Oj hd with hd | hd
  ·have:=h.dom d hd;omega
  ·rw [Oi hd]
   dsimp only
   refine ⟨by omega,by omega,hx,hy,fun hq=>h0 (by omega)⟩
theorem ri (pts R:Nat):bX (gj s pts R) (KV R pts):=by
 refine (bX.runs (fun r l=>vj r 0 pts l) R ⟨.nil,by simp,fun d hd=>by cases hd⟩ fun r l _ h=>?_).mono fun l h=>⟨h.up,h.len,fun d hd=>by have:=h.dom d hd;omega⟩
 refine (bX.runs (fun p l=>vj r p pts l) (pts+1) h fun p l hp h=>(bX.any _).bnd fun z _=>bX.ite (fun _=>(d3 s (by omega)).bnd fun x hx=>bX.ite (fun h0=>bX.ret ?_) fun h0=>(d3 s (by omega)).bnd fun y hy=>bX.ret ?_) fun _=>bX.ret h.more).mono fun l h=>⟨h.up,by have:=h.len;rw [Nat.add_mul];omega,fun d hd=>by have:=h.dom d hd;omega⟩
 ·subst h0
  exact h.add (by omega) (by omega) (by omega) fun _=>rfl
 ·exact h.add (by omega) (by omega) (by omega) fun e=>absurd e h0
structure Ga (R n:Nat) (g:bn):Prop where
 name:g.Name=d7 n
 adv:100≤g.Advance∧g.Advance≤1000
 out:∃k,k≤2∧vl k (g.Points,g.Ends)
 parts:g.Parts=[]∨(1 < n∧∃x y:Int,g.Parts=[⟨1,x,y⟩]∧(-200≤x∧x≤200)∧0≤y∧y≤200)
 anch:∃cl,(0≤cl∧cl < 2)∧KR cl g.Mark g.Anchors
 dels:KV R g.Points.length g.Deltas
 hint:ke 45 g.Hint
theorem BK {R fn n:Nat} (hf:fn≤1000):bX (ku s R fn n) (Ga R n):=by
 have hparts:bX (iX s n) fun ps=>ps=[]∨(1 < n∧∃x y:Int,ps=[⟨1,x,y⟩]∧(-200≤x∧x≤200)∧0≤y∧y≤200):=by
  refine bX.ite (fun h1=>(bX.any _).bnd fun z _=>bX.ite (fun _=>(d3 s (by omega)).bnd fun x hx=>(d3 s (by omega)).bnd fun y hy=>bX.ret (.inr ⟨h1,_,_,rfl,by omega,by omega⟩)) fun _=>bX.ret (.inl rfl)) fun _=>bX.ret (.inl rfl)
 refine (d3 s (by omega)).bnd fun ad had=>(bX.any _).bnd fun mk _=>(pN s).bnd fun o ho=>hparts.bnd fun ps hps=>(d3 s (by omega)).bnd fun cl hcl=>(vx s _ cl).bnd fun an han=>(ri s _ R).bnd fun de hde=>(bX.any _).bnd fun _ _=>?_
 have hl:o.1.length≤10:=by obtain ⟨k,h1,h2⟩:=ho;have:=h2.len;omega
 exact (w6 s (n:=o.1.length) (funcs:=fn) (most:=6) (by omega) (by omega) (by omega)).bnd fun h hh=>bX.ret ⟨rfl,by dsimp only;omega,ho,hps,⟨cl,hcl,han⟩,hde,hh⟩
def p7 (t:f9):Prop:=tT 0 t=0
structure pg (f:aY):Prop where
  unit:16≤f.Unit∧f.Unit≤4096
  glyN:2≤f.Glyphs.length∧f.Glyphs.length≤10
  gly:∀(i:Nat) g,f.Glyphs[i]?=some g→Ga f.Regions.length i g
  chars:f.Chars.length≤16
  charR:(f.Chars.map dt.Rune).Sublist fB
  charG:∀c∈f.Chars,0≤c.Glyph∧c.Glyph < f.Glyphs.length
  looks:D1 f.Glyphs.length f.Lookups
  featN:(f.Features.map bz.Name).Sublist gR
  featL:∀t∈f.Features,t.Lookups.Pairwise (· < ·)∧t.Lookups.length≤6∧∀z∈t.Lookups,0≤z∧z < f.Lookups.length
  axes:f.Axes.length≤2
  axisN:f.Axes.map eI.Name=(List.range f.Axes.length).map (mE Dz)
  axis:∀a∈f.Axes,(-200≤a.Min∧a.Min≤0)∧a.Def=0∧0≤a.Max∧a.Max≤300
  regs:f.Regions.length≤3
  reg:∀r∈f.Regions,r.length=f.Axes.length∧∀t∈r,p7 t
  funcs:f.Funcs.length≤2
  func:∀c∈f.Funcs,ke 45 c
  cvt:f.Cvt.length≤3
  cvtM:∀z∈f.Cvt,-100≤z∧z < 400
theorem Ei {α:Type} {l:List α} {i:Nat} (h:i < l.length) (d:α):l.getD i d∈l:=by
 rw [List.getD_eq_getElem?_getD,Oz h]
 exact List.getElem_mem h
theorem kr {α:Type} {l:List α} {i:Nat} (h:i < l.length) (d:α):l[i]?=some (l.getD i d):=by
 rw [List.getD_eq_getElem?_getD,Oz h]
 rfl
theorem EH:bX (EG s) pg:=by
  have hax:∀k:Nat,bX (l9 s k) fun l=>l.length=k∧l.map eI.Name=(List.range k).map (mE Dz)∧∀a∈l,(-200≤a.Min∧a.Min≤0)∧a.Def=0∧0≤a.Max∧a.Max≤300:=fun k=>by
    refine bX.runs (fun i (l:List eI)=>l.length=i∧l.map eI.Name=(List.range i).map (mE Dz)∧∀a∈l,(-200≤a.Min∧a.Min≤0)∧a.Def=0∧0≤a.Max∧a.Max≤300) k ⟨rfl,rfl,fun a ha=>by cases ha⟩ fun i l _ ⟨h1,h2,h3⟩=>(d3 s (by omega)).bnd fun a ha=>(d3 s (by omega)).bnd fun b hb=>bX.ret ⟨by simp [h1],by simp [h2,List.range_succ],fun x hx=>?_⟩
    rcases Oj hx with hx | hx
    · exact h3 x hx
    · rw [Oi hx];dsimp only;omega
  have hrg:∀k:Nat,bX (fP s k) fun l=>l.length≤3∧∀r∈l,r.length=k∧∀t∈r,p7 t:=fun k=>by
    refine bX.ite (fun _=>bX.ret ⟨Nat.zero_le _,fun r hr=>by cases hr⟩) fun _=>(d3 s (by omega)).bnd fun n hn=>?_
    refine (bX.runs (fun i (l:List (List f9))=>l.length=i∧∀r∈l,r.length=k∧∀t∈r,p7 t) n.toNat ⟨rfl,fun a ha=>by cases ha⟩ fun i l _ ⟨h1,h2⟩=>?_).mono fun l ⟨h1,h2⟩=>⟨by omega,h2⟩
    refine (bX.runs (fun i (r:List f9)=>r.length=i∧∀t∈r,p7 t) k ⟨rfl,fun a ha=>by cases ha⟩ fun i r _ ⟨h1,h2⟩=>(d3 s (by omega)).bnd fun z hz=>bX.ret ⟨by simp [h1],fun x hx=>?_⟩).bnd fun r hr=>bX.ret ⟨by simp [h1],fun x hx=>?_⟩
    · rcases Oj hx with hx | hx
      · exact h2 x hx
      · rw [Oi hx]
        have:∀t∈kJ,p7 t:=by unfold p7;decide
        exact this _ (Ei (by simp only [kJ,List.length_cons,List.length_nil];omega) _)
    · rcases Oj hx with hx | hx
      · exact h2 x hx
      · rw [Oi hx];exact hr
  have hfu:∀k:Nat,k≤1000→bX (iQ s k) fun l=>l.length=k∧∀c∈l,ke 45 c:=fun k hk=>by
    refine bX.runs (fun i (l:List (List eW))=>l.length=i∧∀c∈l,ke 45 c) k ⟨rfl,fun a ha=>by cases ha⟩ fun i l hi ⟨h1,h2⟩=>(bX.any _).bnd fun _ _=>(w6 s (by omega) (by omega) (by omega)).bnd fun h hh=>bX.ret ⟨by simp [h1],fun x hx=>?_⟩
    rcases Oj hx with hx | hx
    · exact h2 x hx
    · rw [Oi hx];exact hh
  have hcv:∀k:Nat,bX (rh s k) fun l=>l.length=k∧∀z∈l,-100≤z∧z < 400:=fun k=>by
    refine bX.runs (fun i (l:List Int)=>l.length=i∧∀z∈l,-100≤z∧z < 400) k ⟨rfl,fun a ha=>by cases ha⟩ fun i l hi ⟨h1,h2⟩=>(d3 s (by omega)).bnd fun z hz=>bX.ret ⟨by simp [h1],fun x hx=>?_⟩
    rcases Oj hx with hx | hx
    · exact h2 x hx
    · rw [Oi hx];omega
  have hgl:∀R fn k:Nat,fn≤1000→bX (gp s R fn k) fun l=>l.length=k∧∀(i:Nat) g,l[i]?=some g→Ga R i g:=fun R fn k hf=>by
    refine bX.runs (fun i (l:List bn)=>l.length=i∧∀(j:Nat) g,l[j]?=some g→Ga R j g) k ⟨rfl,fun j g h=>by simp at h⟩ fun i l hi ⟨h1,h2⟩=>(BK s hf).bnd fun g hg=>bX.ret ⟨by simp [h1],fun j x hx=>?_⟩
    rcases Nat.lt_or_ge j l.length with h | h
    · rw [List.getElem?_append_left h] at hx
      exact h2 j x hx
    · have hj:=(Ol hx).1
      have:j=l.length:=by simp at hj;omega
      subst this
      rw [List.getElem?_append_right (Nat.le_refl _),Nat.sub_self] at hx
      cases hx
      rw [h1]
      exact hg
  have hch:∀n:Int,0 < n→bX (ia s n 16) fun l=>(l.map dt.Rune).Sublist fB∧∀c∈l,0≤c.Glyph∧c.Glyph < n:=fun n hn=>by
    refine (bX.runs (b:=[]) (fun i (l:List dt)=>(l.map dt.Rune).Sublist (fB.take i)∧∀c∈l,0≤c.Glyph∧c.Glyph < n) 16 ⟨List.nil_sublist _,fun a ha=>by cases ha⟩ fun i l hi ⟨h1,h2⟩=>(bX.any _).bnd fun z _=>bX.ite (fun _=>(d3 s hn).bnd fun g hg=>bX.ret ⟨?_,fun x hx=>?_⟩) fun _=>bX.ret ⟨?_,h2⟩).mono fun l h=>h
    · rw [List.take_add_one,kr (l:=fB) (i:=i) hi 0,List.map_append]
      exact h1.append (List.Sublist.refl _)
    · rcases Oj hx with hx | hx
      · exact h2 x hx
      · rw [Oi hx];exact hg
    · rw [List.take_add_one]
      exact h1.trans (List.sublist_append_left _ _)
  have hft:∀n:Nat,n≤6→bX (ic s n 8) fun l=>(l.map bz.Name).Sublist gR∧∀t∈l,t.Lookups.Pairwise (· < ·)∧t.Lookups.length≤6∧∀z∈t.Lookups,0≤z∧z < n:=fun n hn=>by
    have hask:bX (ou s n) fun l=>l.Pairwise (· < ·)∧l.length≤n∧∀z∈l,0≤z∧z < n:=by
      refine bX.runs (fun i (l:List Int)=>l.Pairwise (· < ·)∧l.length≤i∧∀z∈l,0≤z∧z < i) n ⟨.nil,Nat.le_refl _,fun a ha=>by cases ha⟩ fun i l hi ⟨h1,h2,h3⟩=>(bX.any _).bnd fun z _=>bX.ret ?_
      split
      · refine ⟨?_,by simp;omega,fun x hx=>?_⟩
        · rw [List.pairwise_append]
          exact ⟨h1,List.pairwise_singleton ..,fun a ha b hb=>by rw [Oi hb];have:=h3 a ha;omega⟩
        · rcases Oj hx with hx | hx
          · have:=h3 x hx;omega
          · rw [Oi hx];omega
      · exact ⟨h1,by omega,fun x hx=>by have:=h3 x hx;omega⟩
    refine (bX.runs (b:=[]) (fun i (l:List bz)=>(l.map bz.Name).Sublist (gR.take i)∧∀t∈l,t.Lookups.Pairwise (· < ·)∧t.Lookups.length≤6∧∀z∈t.Lookups,0≤z∧z < n) 8 ⟨List.nil_sublist _,fun a ha=>by cases ha⟩ fun i l hi ⟨h1,h2⟩=>hask.bnd fun r hr=>(bX.any _).bnd fun z _=>bX.ret ?_).mono fun l h=>h
    split
    · refine ⟨?_,fun x hx=>?_⟩
      · rw [List.take_add_one,kr (l:=gR) (i:=i) hi ByteArray.empty,List.map_append]
        exact h1.append (List.Sublist.refl _)
      · rcases Oj hx with hx | hx
        · exact h2 x hx
        · rw [Oi hx];exact ⟨hr.1,by have:=hr.2.1;dsimp only;omega,hr.2.2⟩
    · rw [List.take_add_one]
      exact ⟨h1.trans (List.sublist_append_left _ _),h2⟩
  refine (d3 s (by omega)).bnd fun u hu=>(d3 s (by omega)).bnd fun k hk=>(hax _).bnd fun ax ⟨ha1,ha2,ha3⟩=>(hrg _).bnd fun rg ⟨hr1,hr2⟩=>(d3 s (by omega)).bnd fun k2 hk2=>(hfu _ (by omega)).bnd fun fu ⟨hf1,hf2⟩=>(d3 s (by omega)).bnd fun k3 hk3=>(hcv _).bnd fun cv ⟨hc1,hc2⟩=>(d3 s (by omega)).bnd fun k4 hk4=>(hgl _ _ _ (by omega)).bnd fun gl ⟨hg1,hg2⟩=>(hch gl.length (by omega)).bnd fun ch ⟨hh1,hh2⟩=>(pI s (n:=gl.length) (by omega)).bnd fun lk hlk=>(hft lk.length hlk.len).bnd fun ft ⟨ht1,ht2⟩=>bX.ret ?_
  refine ⟨?_,by dsimp only;omega,hg2,?_,hh1,hh2,hlk,ht1,ht2,by dsimp only;omega,by dsimp only;rw [ha1];exact ha2,ha3,hr1,fun r hr=>⟨by dsimp only;rw [ha1];exact (hr2 r hr).1,(hr2 r hr).2⟩,by dsimp only;omega,hf2,by dsimp only;omega,hc2⟩
  · have:∀j < 4,16≤mS.getD j 0∧mS.getD j 0≤4096:=by decide
    exact this _ (by omega)
  · have:=hh1.length_le
    simpa [fB] using this
theorem HE:pg (pJ s):=EH s ⟨0,0⟩
end Go.Proofs.YtamjlkdanllgjaaGreatDoor
