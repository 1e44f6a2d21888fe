/-
  The order in which runes are shown.
-/
import Derived.Test.YtamjlkdanllgjaaGreatDoorM18
import Derived.Test.YtamjlkdanllgjaaGreatDoorM21
import Derived.Test.YtamjlkdanllgjaaGreatDoorM15
import Derived.Test.YtamjlkdanllgjaaGreatDoorM11
import Derived.Test.YtamjlkdanllgjaaGreatDoorM05
import Derived.Laws.Small
namespace Go.Proofs.YtamjlkdanllgjaaGreatDoor
open Go.RowKit
attribute [local irreducible] AT bF AX AO Av Kt b8 d9 DA cu
set_option maxRecDepth 8000
def qG (rs:List Int):Prop:=∀g∈dJ rs,G7 rs g≤39
theorem EN (rs:List Int) (g:Nat×Nat):G7 rs g≤g.2 - g.1:=by unfold G7;split <;> omega
theorem tq {rs:List Int} (h:rs.length≤39):qG rs:=fun g hg=>by
 have:=EN rs g
 have:=n9 (fE rs) g hg
 omega
theorem BN {rs:List Int} (h:rs.length≤20):qG rs:=tq (by omega)
theorem wj (rs:List Int):G7 rs (0,0)≤39:=by have:=EN rs (0,0);dsimp only at this;omega
abbrev ME:=List AV×List Nat×(Nat×Nat)
def HO (gb sb b n:Nat) (x:ME):AL:=(sb,.box [aG x.2.2.1,aG x.2.2.2] 103)::(gb,.box [.sc (.slice (some ⟨b,0,none⟩) x.2.1.length n)] 22)::[(b,.box x.1 3)]
theorem C6 (o:List Nat):di o=(aL (o.map fun (n:Nat)=>(n:Int))).flatten:=by
 rw [←rM,List.map_map]
 rfl
section
variable {nt:Nat} {D:List Deferred} {fr:bZ} {B:Bs} {L:AL}
theorem AG {t b:Nat} {e:TypeId} {o:List Nat} {cs:List AV} (i:Nat) (hl:ce fr t=some (.sc (.slice (some ⟨b,0,none⟩) o.length cs.length))) (hL:L[i]?=some (b,.box cs e)) (h:qI o cs) (hm:cs.length≤maxLen):mq nt D B fr L ((t,.imm 1 (aL (o.map fun (n:Nat)=>(n:Int))))::fr) (L.eraseIdx i):=by
 refine dl i hl hL (by rw [Nat.mul_one,h.1,C6]) (by rw [Nat.mul_one];exact h.2) (fun q hq=>?_) (by rw [aP,Ou]) h.2 hm
 obtain ⟨z,_,rfl⟩:=List.mem_map.1 hq
 rfl
end
def nk (rs:List Int) (k:Nat):List Nat×(Nat×Nat):=((dJ rs).take k).foldl (lD rs) ([],(0,0))
theorem rq {rs:List Int} {k:Nat} {g:Nat×Nat} (h:(dJ rs)[k]?=some g):nk rs (k+1)=lD rs (nk rs k) g:=by
 unfold nk
 rw [List.take_add_one,h,List.foldl_append]
 rfl
theorem BE (rs:List Int):nk rs (dJ rs).length=(dJ rs).foldl (lD rs) ([],(0,0)):=by unfold nk;rw [List.take_length]
theorem oG {rs:List Int}:∀k,k≤(dJ rs).length→∃a,a≤rs.length∧vk rs.length a (nk rs k)∧Iy a ((dJ rs).drop k) rs.length
 | 0,_=>⟨0,Nat.zero_le _,⟨Nat.le_refl _,rfl,(fun x hx=>by cases hx),Nat.zero_le _⟩,by rw [List.drop_zero];exact fE rs⟩
 | k+1,h=>by
  obtain ⟨a,h1,h2,h3⟩:=oG (rs:=rs) k (by omega)
  have hk:k < (dJ rs).length:=by omega
  have hg:(dJ rs)[k]?=some (dJ rs)[k]:=Oz hk
  rw [List.drop_eq_getElem_cons hk] at h3
  obtain ⟨k1,k2,k3⟩:=h3
  have hm:=n9 (fE rs) _ (List.getElem_mem hk)
  exact ⟨_,hm.2.2,by rw [rq hg];exact Ax h2 k1 k2 hm.2.2,k3⟩
set_option maxHeartbeats 8000000 in
theorem Cb (rs:List Int) (hr:rs.length≤1000000) (h20:qG rs):bH Tryz.prog 20 [.imm 1 (aL rs)] (.imm 1 (aL ((dq rs).map fun (n:Nat)=>(n:Int)))):=by
 refine qK Tryz.func20 rfl Tryz.ntmps20 rfl fun B=>?_
 have hil:=aP rs
 refine W07 ?_
 refine wn a7 rs.length rfl rfl rfl rfl rfl (by rw [hil]) (by omega) (by omega) rfl fun b0=>?_
 repeat' (first|refine O1 ?_|refine ak ?_|refine OE a7 KN ?_|(apply aO;first|refine OG 5 a7 0 OD ?_|refine OG 5 a7 1 OD ?_|refine OG 5 a7 2 OD ?_|refine OF a7 0 OC ?_|refine OF a7 1 OC ?_|refine OF a7 2 OC ?_|refine OF a7 3 OC ?_|fail)|refine bi a7 fun _=>?_|(apply bg;refine b9 ?_)|fail)
 rename_i gb sb
 have hz:(List.replicate rs.length (([Value.int .i64 0]:List Value).map AV.sc)).flatten.length=rs.length:=by simp
 refine n2 (fr':=[(12,.fn 64 [.iptr [.imm 1 (aL rs)]]),(1,.iptr [.imm 1 (aL rs)]),(3,.sc (.pointer (some ⟨gb,0,none⟩))),(4,.sc (.pointer (some ⟨sb,0,none⟩)))]) (L':=HO gb sb b0 rs.length ((List.replicate rs.length (([Value.int .i64 0]:List Value).map AV.sc)).flatten,[],(0,0))) ⟨rfl,rfl,rfl,rfl,trivial⟩ (fun _ _ h=>h) ?_
 refine qT (ps:=[13]) rfl fun σ0 l db rec hrec=>?_
 have hy:∀(k:Nat) (x:ME) (g:Nat×Nat),(x.2=nk rs k∧qI x.2.1 x.1∧x.1.length=rs.length∧G7 rs x.2.2≤39)→(dJ rs)[k]?=some g→AY Tryz.prog σ0 l [.agg [aG g.1,aG g.2]] (HO gb sb b0 rs.length x++[(db,oA)]++[(l,kX rec)]) fun c L=>c=cU true∧∃x':ME,(x'.2=nk rs (k+1)∧qI x'.2.1 x'.1∧x'.1.length=rs.length∧G7 rs x'.2.2≤39)∧L=HO gb sb b0 rs.length x'++[(db,oA)]++[(l,kX rec)]:=by
  rintro k ⟨cs,o,s⟩ g ⟨hf,hP,hcl,hm⟩ hk
  dsimp only at hf hP hcl hm ⊢
  have hgm:=Ow hk
  obtain ⟨-,hg1,hg2⟩:=n9 (fE rs) g hgm
  have hkl:=(Ol hk).1
  obtain ⟨a,ha1,ha2,ha3⟩:=oG (rs:=rs) k (by omega)
  rw [←hf] at ha2
  have hlen:=ha2.len
  dsimp only at hlen
  have hs1:s.1≤s.2:=ha2.le
  have hs2:s.2≤rs.length:=ha2.top
  have hga:g.1=a:=by
   rw [List.drop_eq_getElem_cons hkl] at ha3
   rw [Oz hkl] at hk
   rw [←Option.some.inj hk]
   exact ha3.1
  have hrun:=bD (dk (show g.1 < rs.length by omega))
  refine DF hrec rfl rfl fun B1 hB1=>?_
  repeat' (first|refine O1 ?_|(apply aO;first|refine OG 5 a7 0 OD ?_|refine OG 5 a7 1 OD ?_|refine OG 5 a7 2 OD ?_|refine OF a7 0 OC ?_|refine OF a7 1 OC ?_|refine OF a7 2 OC ?_|refine OF a7 3 OC ?_|fail)|refine bi a7 fun _=>?_|fail)
  refine qU hrec.state ?_
  unfold HO
  dsimp only
  simp only [Oq,Oo]
  refine W0x ?_
  have hst:=rq hk
  rw [←hf] at hst
  unfold lD at hst
  dsimp only at hst
  have hgs:∀(cs1:List AV) (o1:List Nat),qI o1 cs1→cs1.length=rs.length→o1.length≤a→AC Tryz.prog 41 [.sc (.slice (some ⟨b0,0,none⟩) o1.length rs.length),.imm 1 (aL rs),.agg [aG g.1,aG g.2]] [(b0,.box cs1 3)] (FH b0 rs.length (o1++cq rs g)):=fun cs1 o1 h1 h2 h3=>by
   have:=v6 rs b0 cs1 o1 g (by omega) hg2 (h20 g hgm) h1 (by omega) (by omega) hr
   rwa [h2] at this
  have hss:=v6 rs b0 cs o s hs1 hs2 hm hP (by omega) (by omega) hr
  rw [hcl] at hss
  have hol1:(o++cq rs s).length≤a:=by
   rw [List.length_append,eE]
   omega
  refine aw rfl (fun h=>?_) (fun h=>?_)
  ·have h5:bQ (rs.getD g.1 0)≠5:=Oy h
   simp only [if_neg h5] at hst
   clear h
   refine W05 ?_
   refine bh [(b0,.box cs 3)] [(sb,.box [aG s.1,aG s.2] 103),(gb,.box [.sc (.slice (some ⟨b0,0,none⟩) o.length rs.length)] 22),(db,oA),(l,kX { rec with state:= .busy })] hss rfl rfl (List.perm_middle (l₁:=[_,_])) rfl fun c1 L1 ⟨cs1,hP1,hc1,hc,hL⟩=>?_
   subst hc;subst hL
   simp only [Oq,Oo]
   refine W0E ?_
   refine aw rfl (fun h=>?_) (fun h=>?_)
   ·have h4:bQ (rs.getD g.1 0)=4:=Oy h
    rw [if_pos h4] at hst
    refine W0E ?_
    refine b7 (L':=HO gb sb b0 rs.length (cs1,o++cq rs s,g)++[(db,oA)]++[(l,kX { rec with state:= .busy })]) (aW (List.perm_middle (l₁:=[_,_])).symm) (ub ?_)
    rw [nT hrec.state hrec.pending]
    exact ⟨rfl,(cs1,_,g),⟨hst.symm,hP1,hc1,h20 g hgm⟩,rfl⟩
   ·have h4:¬bQ (rs.getD g.1 0)=4:=Ox h
    rw [if_neg h4] at hst
    clear h
    refine W05 ?_
    refine bh [(b0,.box cs1 3)] _ (hgs cs1 _ hP1 hc1 hol1) rfl rfl (Ok _) rfl fun c1 L1 ⟨cs2,hP2,hc2,hc,hL⟩=>?_
    subst hc;subst hL
    refine W0P ?_
    refine b7 (L':=HO gb sb b0 rs.length (cs2,o++cq rs s++cq rs g,(0,0))++[(db,oA)]++[(l,kX { rec with state:= .busy })]) (aW (List.perm_middle (l₁:=[_,_])).symm) (ub ?_)
    rw [nT hrec.state hrec.pending]
    exact ⟨rfl,(cs2,_,(0,0)),⟨hst.symm,hP2,hc2,wj rs⟩,rfl⟩
  ·have h5:bQ (rs.getD g.1 0)=5:=Decidable.not_not.1 (Ox h)
   simp only [if_pos h5,if_neg (show ¬bQ (rs.getD g.1 0)=4 by omega)] at hst
   clear h
   refine W01 ?_
   refine aw rfl (fun h=>by have:=Oy h;omega) (fun h=>?_)
   clear h
   refine W05 ?_
   refine bh [(b0,.box cs 3)] [(sb,.box [aG s.1,aG s.2] 103),(gb,.box [.sc (.slice (some ⟨b0,0,none⟩) o.length rs.length)] 22),(db,oA),(l,kX { rec with state:= .busy })] (hgs cs _ hP hcl (by omega)) rfl rfl (List.perm_middle (l₁:=[_,_])) rfl fun c1 L1 ⟨cs2,hP2,hc2,hc,hL⟩=>?_
   subst hc;subst hL
   refine W0P ?_
   refine b7 (L':=HO gb sb b0 rs.length (cs2,o++cq rs g,s)++[(db,oA)]++[(l,kX { rec with state:= .busy })]) (aW (List.perm_middle (l₁:=[_,_])).symm) (ub ?_)
   rw [nT hrec.state hrec.pending]
   exact ⟨rfl,(cs2,_,s),⟨hst.symm,hP2,hc2,hm⟩,rfl⟩
 have hit:=El (σ0:=σ0) (l:=l) rs hr (fun x=>HO gb sb b0 rs.length x++[(db,oA)]++[(l,kX rec)]) (fun k x=>x.2=nk rs k∧qI x.2.1 x.1∧x.1.length=rs.length∧G7 rs x.2.2≤39) hy ((List.replicate rs.length (([Value.int .i64 0]:List Value).map AV.sc)).flatten,[],(0,0)) ⟨rfl,⟨rfl,Nat.zero_le _⟩,hz,wj rs⟩
 refine ⟨_,hit,?_⟩
 rintro c L' ⟨⟨cs,o,s⟩,⟨hf,hP,hcl,hm⟩,rfl⟩
 dsimp only at hf hP hcl hm ⊢
 refine ⟨rec,_,Ok _,(by rw [hrec.state];intro h;cases h),?_⟩
 rw [hrec.pending]
 show AX _ _ _ _ _ _ _ _
 clear hy hit
 obtain ⟨a,ha1,ha2,-⟩:=oG (rs:=rs) _ (Nat.le_refl _)
 rw [←hf] at ha2
 rw [BE] at hf
 have hlen:=ha2.len
 dsimp only at hlen
 have hss:=v6 rs b0 cs o s ha2.le ha2.top hm hP (by omega) (by omega) hr
 rw [hcl] at hss
 unfold HO
 dsimp only
 simp only [Oq,Oo]
 refine W05 ?_
 refine bh [(b0,.box cs 3)] [(sb,.box [aG s.1,aG s.2] 103),(gb,.box [.sc (.slice (some ⟨b0,0,none⟩) o.length rs.length)] 22),(db,oA)] hss rfl rfl (List.perm_middle (l₁:=[_,_])) rfl fun c1 L1 ⟨cs1,hP1,hc1,hc,hL⟩=>?_
 subst hc;subst hL
 simp only [Oq,Oo]
 refine W01 ?_
 have hord:dq rs=o++cq rs s:=by
  unfold dq
  rw [←hf]
 rw [←hc1]
 refine b7 (AG (t:=2) (cs:=cs1) 0 rfl rfl hP1 (by unfold maxLen;omega)) ?_
 rw [hord]
 exact n5 (cs:=[.imm 1 (aL ((o++cq rs s).map fun (n:Nat)=>(n:Int)))]) [db] [(sb,.box [aG s.1,aG s.2] 103),(gb,.box [.sc (.slice (some ⟨b0,0,none⟩) o.length rs.length)] 22)] rfl (List.Perm.of_eq (by rw [hc1];rfl)) ⟨rfl,trivial⟩ rfl
end Go.Proofs.YtamjlkdanllgjaaGreatDoor
namespace Go.Proofs.YtamjlkdanllgjaaGreatDoor
open Go.RowKit
attribute [local irreducible] AT bF AX AO Av Kt b8 d9 DA cu
set_option maxRecDepth 8000
theorem Hv {r:Int} {k:Nat} (hk:k < 5) (h1:57344+256 * (k:Int)≤r) (h2:r≤57344+256 * (k:Int)+255):bQ r=(k:Int)+1:=by
 unfold bQ
 repeat' split
 all_goals omega
theorem Hw {r:Int} (h:∀k:Nat,k < 5→¬(57344+256 * (k:Int)≤r∧r≤57344+256 * (k:Int)+255)):bQ r=0:=by
 have h0:=h 0 (by omega)
 have h1:=h 1 (by omega)
 have h2:=h 2 (by omega)
 have h3:=h 3 (by omega)
 have h4:=h 4 (by omega)
 unfold bQ
 repeat' split
 all_goals omega
theorem yc (r:Int):bH Tryz.prog 58 [aG r] (aG (bQ r)):=by
 refine aQ Tryz.func58 rfl Tryz.ntmps58 rfl fun B=>?_
 refine W03 ?_
 refine aJ [0] (α:=Nat) (fun k=>[(3,aG k)]) (fun k=>k≤5∧∀j:Nat,j < k→¬(57344+256 * (j:Int)≤r∧r≤57344+256 * (j:Int)+255)) (fun _=>[]) (fun k=>5 - k) 0 rfl ⟨rfl,trivial⟩ ⟨Nat.zero_le _,fun j hj=>by omega⟩ (fun _ _ h=>h) fun k hk=>?_
 obtain ⟨hk5,hno⟩:=hk
 try dsimp only [Oq,Oo,Om,Oh]
 refine W01 ?_
 refine aw rfl (fun h=>?_) (fun h=>?_)
 ·have hk4:k < 5:=by have:=Oy h;omega
  clear h
  refine W0c ?_
  refine cH [0,3] (57344+256 * (k:Int)≤r∧r≤57344+256 * (k:Int)+255) rfl (fun Q' K=>?_) (fun hC=>?_) (fun hC=>?_)
  ·repeat' (first|refine O1 ?_|refine OE a7 KN ?_|refine ON KN ?_|refine OP OA ?_|(apply aS;refine aR ?_)|refine OR NZ (fun _=>?_) (fun _=>?_))
   all_goals exact K _ _ rfl rfl (by clear K hno;simp_all <;> omega)
  ·refine W02 ?_
   exact OK KN (by rw [Hv hk4 hC.1 hC.2])
  ·refine W02 ?_
   refine aD (k+1) rfl ⟨by rw [Ov];rfl,trivial⟩ ⟨hk4,fun j hj=>?_⟩ (by omega) (fun _ _ h=>h)
   rcases Nat.lt_or_eq_of_le (Nat.le_of_lt_succ hj) with h1 | rfl
   ·exact hno j h1
   ·exact hC
 ·have hk4:k=5:=by have:=Ox h;omega
  subst hk4
  clear h
  refine W01 ?_
  exact OK KN (by rw [Hw hno])
instance (r:Int):AD Tryz.prog 58 [aG r] (aG (bQ r)):=⟨yc r⟩
theorem Bk:∀k:Nat,k < 256→bits .and .i64 (57856+(k:Int)) 15=(57856+(k:Int)).tmod 16:=by decide+kernel
theorem vI (r:Int):bH Tryz.prog 97 [aG r] (aG (dp r)):=by
 refine aQ Tryz.func97 rfl Tryz.ntmps97 rfl fun B=>?_
 refine W0a ?_
 refine aw rfl (fun h=>?_) (fun h=>?_)
 ·have hk:bQ r=3:=Oy h
  have hr:57856≤r∧r≤58111:=by
   unfold bQ at hk
   repeat' split at hk
   all_goals first | omega | assumption
  have hc:dp r=r.tmod 16:=by
   unfold dp
   rw [if_pos hk]
   have:=Bk (r - 57856).toNat (by omega)
   rwa [show (57856:Int)+((r - 57856).toNat:Int)=r by omega] at this
  clear h
  refine W01 ?_
  refine cz (IF rfl rfl (by decide)) rfl rfl ?_
  refine W01 ?_
  exact OK KN (by rw [hc])
 ·have hk:¬bQ r=3:=Ox h
  refine W01 ?_
  exact OK KN (by unfold dp;rw [if_neg hk])
instance (r:Int):AD Tryz.prog 97 [aG r] (aG (dp r)):=⟨vI r⟩
abbrev dS (rs:List Int) (a:Nat):Int:=bQ (rs.getD a 0)
def gD (rs:List Int):Nat→Nat
 | 0=>0
 | a+1=>if dS rs (a+1)=3 then gD rs a else a+1
theorem ru (rs:List Int):∀a,gD rs a≤a
 | 0=>Nat.le_refl _
 | a+1=>by
  unfold gD
  split
  ·exact Nat.le_succ_of_le (ru rs a)
  ·exact Nat.le_refl _
theorem j8 (rs:List Int) (a:Nat) (ha:a < rs.length) (hr:rs.length≤1000000):bH Tryz.prog 96 [.imm 1 (aL rs),aG a] (aG (gD rs a)):=by
 refine aQ Tryz.func96 rfl Tryz.ntmps96 rfl fun B=>?_
 have hil:=aP rs
 refine W03 ?_
 refine aJ [0] (α:=Nat) (fun k=>[(1,aG k)]) (fun k=>k < rs.length∧gD rs k=gD rs a) (fun _=>[]) (fun k=>k) a rfl ⟨rfl,trivial⟩ ⟨ha,rfl⟩ (fun _ _ h=>h) fun k hk=>?_
 obtain ⟨hk1,hk2⟩:=hk
 try dsimp only [Oq,Oo,Om,Oh]
 have hrg:=bD (dk hk1)
 have hkr:dS rs k=bQ (rs.getD k 0):=rfl
 generalize rs.getD k 0=r at *
 refine W01 ?_
 refine cH [0,1] (0 < k∧bQ r=3) rfl (fun Q' K=>?_) (fun hC=>?_) (fun hC=>?_)
 ·repeat' (first|refine O1 ?_|refine OE a7 KN ?_|refine ON KN ?_|refine OP OA ?_|(apply aV;first|refine aU a7 ?_|refine aN a7 ?_)|(apply bg;refine b9 ?_)|refine OR NZ (fun _=>?_) (fun _=>?_))
  all_goals exact K _ _ rfl rfl (by clear K hrg hk2 hkr;simp_all <;> omega)
 ·obtain ⟨j,rfl⟩:∃j,k=j+1:=⟨k - 1,by omega⟩
  rw [gD,if_pos (hkr.trans hC.2)] at hk2
  refine W0c ?_
  exact aD j rfl ⟨by rw [show ((j+1:Nat):Int) - 1=(j:Int) by omega];rfl,trivial⟩ ⟨by omega,hk2⟩ (by omega) (fun _ _ h=>h)
 ·have hg:gD rs k=k:=by
   cases k with
   | zero=>rfl
   | succ j=>rw [gD,if_neg fun h=>hC ⟨by omega,hkr.symm.trans h⟩]
  rw [hg] at hk2
  refine W01 ?_
  exact OK KN (by rw [hk2])
def sG (rs:List Int) (c:Nat):Nat:=if 0 < c∧dS rs c=5 then sG rs (gD rs (c - 1)) else c
termination_by c
decreasing_by
 have:=ru rs (c - 1)
 omega
theorem JP (rs:List Int) (c:Nat):sG rs c≤c:=by
 induction c using Nat.strongRecOn with
 | _ c ih=>
  rw [sG]
  split
  ·have h1:=ru rs (c - 1)
   have:=ih (gD rs (c - 1)) (by omega)
   omega
  ·exact Nat.le_refl _
def cD (rs:List Int) (a:Nat):Nat:=if dS rs (sG rs (gD rs a))=4 then sG rs (gD rs a) else gD rs a
theorem mc (rs:List Int) (a:Nat) (ha:a < rs.length) (hr:rs.length≤1000000):bH Tryz.prog 95 [.imm 1 (aL rs),aG a] (aG (cD rs a)):=by
 refine aQ Tryz.func95 rfl Tryz.ntmps95 rfl fun B=>?_
 have hil:=aP rs
 have hg:=ru rs a
 haveI i0:=AD.mk (j8 rs a ha hr)
 refine W0U ?_
 refine aJ [0,5] (α:=Nat) (fun c=>[(6,aG c)]) (fun c=>c < rs.length∧sG rs c=sG rs (gD rs a)) (fun _=>[]) (fun c=>c) (gD rs a) rfl ⟨rfl,trivial⟩ ⟨by omega,rfl⟩ (fun _ _ h=>h) fun c hc=>?_
 obtain ⟨hc1,hc2⟩:=hc
 try dsimp only [Oq,Oo,Om,Oh]
 have hrg:=bD (dk hc1)
 have hkr:dS rs c=bQ (rs.getD c 0):=rfl
 generalize rs.getD c 0=r at *
 refine W01 ?_
 refine cH [0,5,6] (0 < c∧bQ r=5) rfl (fun Q' K=>?_) (fun hC=>?_) (fun hC=>?_)
 ·repeat' (first|refine O1 ?_|refine OE a7 KN ?_|refine ON KN ?_|refine OP OA ?_|(apply aV;first|refine aU a7 ?_|refine aN a7 ?_)|(apply bg;refine b9 ?_)|refine OR NZ (fun _=>?_) (fun _=>?_))
  all_goals exact K _ _ rfl rfl (by clear K hrg hc2 hkr i0;simp_all <;> omega)
 ·obtain ⟨j,rfl⟩:∃j,c=j+1:=⟨c - 1,by omega⟩
  rw [sG,if_pos ⟨hC.1,hkr.trans hC.2⟩,Nat.add_sub_cancel] at hc2
  have hgj:=ru rs j
  haveI i1:=AD.mk (j8 rs j (by omega) hr)
  refine W0c ?_
  rw [show ((j+1:Nat):Int) - 1=(j:Int) by omega]
  refine W0a ?_
  exact aD (gD rs j) rfl ⟨rfl,trivial⟩ ⟨by omega,hc2⟩ (by omega) (fun _ _ h=>h)
 ·have hg2:sG rs c=c:=by rw [sG,if_neg fun h=>hC ⟨h.1,hkr.symm.trans h.2⟩]
  rw [hg2] at hc2
  have hcd:cD rs a=if bQ r=4 then c else gD rs a:=by unfold cD;rw [←hc2,hkr]
  refine W0I ?_
  refine aw rfl (fun h=>?_) (fun h=>?_)
  ·rw [if_pos (Oy h)] at hcd
   refine W01 ?_
   exact OK KN (by rw [hcd])
  ·rw [if_neg (Ox h)] at hcd
   refine W01 ?_
   exact OK KN (by rw [hcd])
def mt (rs:List Int) (a b:Nat):Bool:=
 if cD rs a≠cD rs b then decide (cD rs a < cD rs b)
 else if gD rs a≠gD rs b then (if gD rs a=cD rs a then false else decide (gD rs b=cD rs a) || decide (gD rs a < gD rs b))
 else if decide (dS rs a=3)≠decide (dS rs b=3) then decide (dS rs b=3)
 else if dp (rs.getD a 0)≠dp (rs.getD b 0) then decide (dp (rs.getD a 0) < dp (rs.getD b 0))
 else decide (a < b)
end Go.Proofs.YtamjlkdanllgjaaGreatDoor
namespace Go.Proofs.YtamjlkdanllgjaaGreatDoor
open Go.RowKit
theorem JW {P:Program} {l:List Oper} {fr:bZ} {fin:kV} {sk:mT} {acc:bZ} {L:AL} {k j:Nat} {dd:Option Tmp} {op:Op} {ty:TypeId} {pos:String} {af:Array Edge} {b want:Bool} (hj:qx acc j= .sc (.bool b)) (hb:(b==want)=false) (hn:DA P l fr fin sk ((k,.sc undef)::acc) L):cu P l fr fin k .l ⟨dd,op,ty,pos,af,some (j,want)⟩ sk acc L:=by
 intro ho
 obtain ⟨pl,hpl⟩:=hn
 exact ⟨.val k (.sc undef) pl,.l,sk,_,rfl,ho,.inr (.inl ⟨rfl,.inr ⟨⟨_,hj,fun e=>by injection e with e;subst e;simp at hb⟩,rfl,rfl⟩⟩),hpl⟩
theorem u4 {P:Program} {fr:bZ} {x y:Operand} {d:Option Tmp} {t t' ty:TypeId} {pos:String} {af:Array Edge} {g:Option (Nat×Bool)} {a b:Bool} (ht:P.underlying t=some .bool) (hx:bw fr x=some (.sc (.bool a))) (hy:bw fr y=some (.sc (.bool b))):Av P ⟨d,.binOp .neq t x y t',ty,pos,af,g⟩ fr (.sc (.bool (!(a==b)))):=
 eF fun ρ w hρ=>by simp [execOp,hρ _ _ hx,hρ _ _ hy,eqGuard,run_neq_bool w t a b ht]
end Go.Proofs.YtamjlkdanllgjaaGreatDoor
namespace Go.Proofs.YtamjlkdanllgjaaGreatDoor
open Go.RowKit
attribute [local irreducible] AT bF AX AO Av Kt b8 d9 DA cu
set_option maxRecDepth 8000
set_option maxHeartbeats 4000000 in
theorem vt (rs:List Int) (a b:Nat) (ha:a < rs.length) (hb:b < rs.length) (hr:rs.length≤1000000):bH Tryz.prog 57 [.imm 1 (aL rs),aG a,aG b] (cU (mt rs a b)):=by
 refine aQ Tryz.func57 rfl Tryz.ntmps57 rfl fun B=>?_
 have hil:=aP rs
 haveI i0:=AD.mk (mc rs a ha hr)
 haveI i1:=AD.mk (mc rs b hb hr)
 haveI i2:=AD.mk (j8 rs a ha hr)
 haveI i3:=AD.mk (j8 rs b hb hr)
 have hag:=bD (dk ha)
 have hbg:=bD (dk hb)
 have hd:mt rs a b=(if cD rs a≠cD rs b then decide (cD rs a < cD rs b)
  else if gD rs a≠gD rs b then (if gD rs a=cD rs a then false else decide (gD rs b=cD rs a) || decide (gD rs a < gD rs b))
  else if decide (bQ (rs.getD a 0)=3)≠decide (bQ (rs.getD b 0)=3) then decide (bQ (rs.getD b 0)=3)
  else if dp (rs.getD a 0)≠dp (rs.getD b 0) then decide (dp (rs.getD a 0) < dp (rs.getD b 0))
  else decide (a < b)):=rfl
 generalize mt rs a b=p at *
 generalize rs.getD a 0=x at *
 generalize rs.getD b 0=y at *
 generalize cD rs a=ca at *
 generalize cD rs b=cb at *
 generalize gD rs a=ga at *
 generalize gD rs b=gb at *
 refine W0a ?_
 refine aw rfl (fun h=>?_) (fun h=>?_)
 ·have h1:ca≠cb:=by have:=Oy h;omega
  rw [if_pos h1] at hd
  refine W01 ?_
  exact OK KN (by rw [hd];simp)
 have h1:¬ca≠cb:=by have:=Ox h;omega
 rw [if_neg h1] at hd
 clear h
 refine W0a ?_
 refine aw rfl (fun h=>?_) (fun h=>?_)
 ·have h2:ga≠gb:=by have:=Oy h;omega
  rw [if_pos h2] at hd
  clear h
  refine W01 ?_
  refine aw rfl (fun h=>?_) (fun h=>?_)
  ·have h3:ga=ca:=by have:=Oy h;omega
   rw [if_pos h3] at hd
   clear h
   refine W01 ?_
   exact OK KN (by rw [hd])
  ·have h3:ga≠ca:=by have:=Ox h;omega
   rw [if_neg h3] at hd
   clear h
   refine W01 ?_
   by_cases h4:gb=ca
   ·rw [decide_eq_true (show (gb:Int)=ca by omega)]
    rw [decide_eq_true h4] at hd
    repeat' (first|refine O1 ?_|refine OE a7 KN ?_|refine OP OA ?_)
    exact OK KN (by rw [hd];rfl)
   ·rw [decide_eq_false (show ¬(gb:Int)=ca by omega)]
    rw [decide_eq_false h4] at hd
    refine W0y ?_
    exact OK KN (by rw [hd];simp)
 have h2:¬ga≠gb:=by have:=Ox h;omega
 rw [if_neg h2] at hd
 clear h
 refine W0I ?_
 by_cases hx:bQ x=3
 ·by_cases hy:bQ y=3
  ·rw [decide_eq_true hx,decide_eq_true hy] at hd ⊢
   rw [if_neg (by simp)] at hd
   repeat' (first|fail)
   refine cz (u4 Tryz.underlying4 rfl rfl) rfl rfl ?_
   refine W14 ?_
   refine bk 9 [(0,.v),(1,.v),(2,.v),(3,.v),(4,.v),(5,.v),(6,.v),(7,.v),(8,.v)] none ?_ trivial rfl (by kernel_rfl) (by kernel_rfl) (by kernel_rfl) mixed (by kernel_rfl) rfl
   refine W0D ?_
   refine OO [0,1,2,65,69] KN ?_
   refine W0u ?_
   refine aw rfl (fun h=>?_) (fun h=>?_)
   ·rw [if_pos (show dp x≠dp y from Oy h)] at hd
    clear h
    repeat' (first|refine O1 ?_|fail)
    refine bk 9 [(0,.v),(1,.v),(2,.v),(3,.v),(4,.v),(5,.v),(6,.v),(7,.v),(8,.v)] none ?_ trivial rfl (by kernel_rfl) (by kernel_rfl) (by kernel_rfl) mixed (by kernel_rfl) rfl
    refine W0D ?_
    refine OO [76,80] KN ?_
    refine W0u ?_
    exact OK KN (by rw [hd])
   ·rw [if_neg (show ¬dp x≠dp y from Ox h)] at hd
    refine W01 ?_
    exact OK KN (by rw [hd];simp)
  ·rw [decide_eq_true hx,decide_eq_false hy] at hd ⊢
   rw [if_pos (by simp)] at hd
   repeat' (first|fail)
   refine cz (u4 Tryz.underlying4 rfl rfl) rfl rfl ?_
   refine W0k ?_
   exact OK KN (by rw [hd])
 ·by_cases hy:bQ y=3
  ·rw [decide_eq_false hx,decide_eq_true hy] at hd ⊢
   rw [if_pos (by simp)] at hd
   repeat' (first|fail)
   refine cz (u4 Tryz.underlying4 rfl rfl) rfl rfl ?_
   refine W0k ?_
   exact OK KN (by rw [hd])
  ·rw [decide_eq_false hx,decide_eq_false hy] at hd ⊢
   rw [if_neg (by simp)] at hd
   repeat' (first|fail)
   refine cz (u4 Tryz.underlying4 rfl rfl) rfl rfl ?_
   refine W14 ?_
   refine bk 9 [(0,.v),(1,.v),(2,.v),(3,.v),(4,.v),(5,.v),(6,.v),(7,.v),(8,.v)] none ?_ trivial rfl (by kernel_rfl) (by kernel_rfl) (by kernel_rfl) mixed (by kernel_rfl) rfl
   refine W0D ?_
   refine OO [0,1,2,65,69] KN ?_
   refine W0u ?_
   refine aw rfl (fun h=>?_) (fun h=>?_)
   ·rw [if_pos (show dp x≠dp y from Oy h)] at hd
    clear h
    repeat' (first|refine O1 ?_|fail)
    refine bk 9 [(0,.v),(1,.v),(2,.v),(3,.v),(4,.v),(5,.v),(6,.v),(7,.v),(8,.v)] none ?_ trivial rfl (by kernel_rfl) (by kernel_rfl) (by kernel_rfl) mixed (by kernel_rfl) rfl
    refine W0D ?_
    refine OO [76,80] KN ?_
    refine W0u ?_
    exact OK KN (by rw [hd])
   ·rw [if_neg (show ¬dp x≠dp y from Ox h)] at hd
    refine W01 ?_
    exact OK KN (by rw [hd];simp)
set_option maxRecDepth 8000
def nL (rs:List Int):Nat→Int
 | 0=>0
 | i+1=>if dS rs i≠3 then dS rs i else nL rs i
def nR (rs:List Int):Nat→Nat→Int
 | 0,_=>0
 | k+1,i=>if dS rs i≠3 then dS rs i else nR rs k (i+1)
theorem xt (rs:List Int) (a:Nat) (ha:a < rs.length) (hr:rs.length≤1000000):bH Tryz.prog 59 [.imm 1 (aL rs),aG a,aG (-1)] (aG (nL rs a)):=by
 refine aQ Tryz.func59 rfl Tryz.ntmps59 rfl fun B=>?_
 have hil:=aP rs
 refine W0c ?_
 refine aJ [0,2] (α:=Nat) (fun k=>[(7,aG ((k:Int) - 1))]) (fun k=>k≤a∧nL rs k=nL rs a) (fun _=>[]) (fun k=>k) a rfl ⟨by rw [show (a:Int)+ -1=(a:Int) - 1 by omega];rfl,trivial⟩ ⟨Nat.le_refl _,rfl⟩ (fun _ _ h=>h) fun k hk=>?_
 obtain ⟨hk1,hk2⟩:=hk
 try dsimp only [Oq,Oo,Om,Oh]
 refine W01 ?_
 refine cH [0,2,7] (0 < k) rfl (fun Q' K=>?_) (fun hC=>?_) (fun hC=>?_)
 ·repeat' (first|refine O1 ?_|refine OE a7 KN ?_|refine ON KN ?_|refine OP OA ?_|refine OR NZ (fun _=>?_) (fun _=>?_))
  all_goals exact K _ _ rfl rfl (by clear K hk2;simp_all <;> omega)
 ·obtain ⟨j,rfl⟩:∃j,k=j+1:=⟨k - 1,by omega⟩
  have hrg:=bD (dk (show j < rs.length by omega))
  have hkr:dS rs j=bQ (rs.getD j 0):=rfl
  rw [nL,hkr] at hk2
  generalize rs.getD j 0=r at *
  refine W03 ?_
  rw [show ((j+1:Nat):Int) - 1=(j:Int) by omega]
  refine W0I ?_
  refine aw rfl (fun h=>?_) (fun h=>?_)
  ·rw [if_pos (show bQ r≠3 from Oy h)] at hk2
   clear h
   refine W0I ?_
   exact OK KN (by rw [hk2])
  ·rw [if_neg (show ¬bQ r≠3 from Ox h)] at hk2
   clear h
   refine W02 ?_
   exact aD j rfl ⟨by rw [show (j:Int)+ -1=(j:Int) - 1 by omega];rfl,trivial⟩ ⟨by omega,hk2⟩ (by omega) (fun _ _ h=>h)
 ·obtain rfl:k=0:=by omega
  refine W01 ?_
  exact OK KN (by rw [←hk2];rfl)
theorem F8 (rs:List Int) (a:Nat) (ha:a < rs.length) (hr:rs.length≤1000000):bH Tryz.prog 59 [.imm 1 (aL rs),aG a,aG 1] (aG (nR rs (rs.length - (a+1)) (a+1))):=by
 refine aQ Tryz.func59 rfl Tryz.ntmps59 rfl fun B=>?_
 have hil:=aP rs
 refine W0c ?_
 refine aJ [0,2] (α:=Nat) (fun k=>[(7,aG k)]) (fun k=>k≤rs.length∧nR rs (rs.length - k) k=nR rs (rs.length - (a+1)) (a+1)) (fun _=>[]) (fun k=>rs.length - k) (a+1) rfl ⟨by rw [show (a:Int)+1=((a+1:Nat):Int) by omega];rfl,trivial⟩ ⟨ha,rfl⟩ (fun _ _ h=>h) fun k hk=>?_
 obtain ⟨hk1,hk2⟩:=hk
 generalize nR rs (rs.length - (a+1)) (a+1)=v at *
 try dsimp only [Oq,Oo,Om,Oh]
 refine W0y ?_
 refine aw rfl (fun h=>?_) (fun h=>?_)
 ·have hC:k < rs.length:=by have:=Oy h;omega
  clear h
  have hrg:=bD (dk hC)
  have hkr:dS rs k=bQ (rs.getD k 0):=rfl
  rw [show rs.length - k=(rs.length - (k+1))+1 by omega,nR,hkr] at hk2
  generalize rs.getD k 0=r at *
  refine W0x ?_
  refine aw rfl (fun h=>?_) (fun h=>?_)
  ·rw [if_pos (show bQ r≠3 from Oy h)] at hk2
   clear h
   refine W0I ?_
   exact OK KN (by rw [hk2])
  ·rw [if_neg (show ¬bQ r≠3 from Ox h)] at hk2
   clear h
   refine W02 ?_
   exact aD (k+1) rfl ⟨by rw [Ov];rfl,trivial⟩ ⟨hC,hk2⟩ (by omega) (fun _ _ h=>h)
 ·obtain rfl:k=rs.length:=by have:=Ox h;omega
  clear h
  refine W01 ?_
  exact OK KN (by rw [←hk2,Nat.sub_self];rfl)
def iN (rs:List Int) (i:Nat):Int:=
 if dS rs i≠1∧dS rs i≠2 then 0
 else if nL rs i=2 then (if dS rs i=2∧(nR rs (rs.length - (i+1)) (i+1)=1∨nR rs (rs.length - (i+1)) (i+1)=2) then 3 else 4)
 else (if dS rs i=2∧(nR rs (rs.length - (i+1)) (i+1)=1∨nR rs (rs.length - (i+1)) (i+1)=2) then 2 else 1)
theorem xT (rs:List Int) (i:Nat):aL ((List.range (i+1)).map (iN rs))=aL ((List.range i).map (iN rs))++[[aG (iN rs i)]]:=by
 rw [List.range_succ,List.map_append]
 simp [aL]
set_option maxHeartbeats 8000000 in
theorem vV (rs:List Int) (hr:rs.length≤1000000):bH Tryz.prog 36 [.imm 1 (aL rs)] (.imm 1 (aL ((List.range rs.length).map (iN rs)))):=by
 refine aQ Tryz.func36 rfl Tryz.ntmps36 rfl fun B=>?_
 have hil:=aP rs
 refine W1j ?_
 intros
 rename_i b0
 refine aJ [0] (α:=Nat×Option (Nat×Nat)) (fun s=>[(3,.vec s.2 1 (aL ((List.range s.1).map (iN rs)))),(4,aG s.1)]) (fun s=>s.1≤rs.length) (fun s=>tok s.2 3 1 s.1) (fun s=>rs.length - s.1) (0,some (b0,0)) rfl ⟨rfl,rfl,trivial⟩ (Nat.zero_le _) (fun _ _ h=>h) ?_
 rintro ⟨i,k⟩ hi
 dsimp only at hi ⊢
 try dsimp only [Oq,Oo,Om,Oh]
 refine W01 ?_
 refine aw rfl (fun h=>?_) (fun h=>?_)
 ·have hil2:i < rs.length:=by have:=Oy h;omega
  have hrg:=bD (dk hil2)
  have hkr:dS rs i=bQ (rs.getD i 0):=rfl
  haveI i0:=AD.mk (xt rs i hil2 hr)
  haveI i1:=AD.mk (F8 rs i hil2 hr)
  have hfd:iN rs i=if dS rs i≠1∧dS rs i≠2 then 0
   else if nL rs i=2 then (if dS rs i=2∧(nR rs (rs.length - (i+1)) (i+1)=1∨nR rs (rs.length - (i+1)) (i+1)=2) then 3 else 4)
   else (if dS rs i=2∧(nR rs (rs.length - (i+1)) (i+1)=1∨nR rs (rs.length - (i+1)) (i+1)=2) then 2 else 1):=rfl
  have hsn:=xT rs i
  have hol:(aL ((List.range i).map (iN rs))).length=i:=by rw [aP,Ou,List.length_range]
  rw [hkr] at hfd
  clear h
  generalize rs.getD i 0=r at *
  generalize nL rs i=nl at *
  generalize nR rs (rs.length - (i+1)) (i+1)=nr at *
  refine W0x ?_
  refine cH [0,3,4,5] (bQ r≠1∧bQ r≠2) rfl (fun Q' K=>?_) (fun hC=>?_) (fun hC=>?_)
  ·repeat' (first|refine O1 ?_|refine OE a7 KN ?_|refine ON KN ?_|refine OP OA ?_|refine OR NZ (fun _=>?_) (fun _=>?_))
   all_goals exact K _ _ rfl rfl (by clear K hfd hsn hrg i0 i1;simp_all <;> omega)
  ·rw [if_pos hC] at hfd
   rw [hfd] at hsn
   refine W0f ?_
   refine bA a7 [] rfl rfl rfl rfl (by rw [hol,List.append_nil]) (by rw [hol];simp;omega) (by rw [hol];simp;omega) rfl fun k'=>?_
   rw [←hsn,show (aL ((List.range (i+1)).map (iN rs))).length=i+1 by rw [aP,Ou,List.length_range],List.append_nil]
   refine W02 ?_
   exact aD (i+1,k') rfl ⟨rfl,by rw [Ov];rfl,trivial⟩ hil2 (by dsimp only;omega) (fun _ _ h=>h)
  ·rw [if_neg hC] at hfd
   refine W0a ?_
   refine da (t:=8) [0,3,4,6] (bQ r=2∧(nr=1∨nr=2)) rfl (fun Q' K=>?_) ?_
   ·repeat' (first|refine O1 ?_|refine OE a7 KN ?_|refine ON KN ?_|refine OP OA ?_|refine dc rfl rfl rfl ?_|refine OR NZ (fun _=>?_) (fun _=>?_))
    all_goals exact K _ _ rfl rfl (by clear K hfd hsn hrg i0 i1;simp_all <;> omega)
   refine a8 ?_
   by_cases ha:nl=2
   ·rw [if_pos ha] at hfd
    rw [decide_eq_true ha]
    by_cases hb:bQ r=2∧(nr=1∨nr=2)
    ·rw [if_pos hb] at hfd
     rw [decide_eq_true hb]
     rw [hfd] at hsn
     repeat' (first|refine O1 ?_|refine ak ?_|refine OE a7 KN ?_|refine ON KN ?_|refine bO a7 ?_|refine bT rfl ?_)
     refine bA a7 [] rfl rfl rfl rfl (by rw [hol,List.append_nil]) (by rw [hol];simp;omega) (by rw [hol];simp;omega) rfl fun k'=>?_
     rw [←hsn,show (aL ((List.range (i+1)).map (iN rs))).length=i+1 by rw [aP,Ou,List.length_range],List.append_nil]
     refine W02 ?_
     exact aD (i+1,k') rfl ⟨rfl,by rw [Ov];rfl,trivial⟩ hil2 (by dsimp only;omega) (fun _ _ h=>h)
    ·rw [if_neg hb] at hfd
     rw [decide_eq_false hb]
     rw [hfd] at hsn
     repeat' (first|refine O1 ?_|refine ak ?_|refine OE a7 KN ?_|refine ON KN ?_|refine bO a7 ?_|refine bT rfl ?_|refine bj rfl ?_)
     refine bA a7 [] rfl rfl rfl rfl (by rw [hol,List.append_nil]) (by rw [hol];simp;omega) (by rw [hol];simp;omega) rfl fun k'=>?_
     rw [←hsn,show (aL ((List.range (i+1)).map (iN rs))).length=i+1 by rw [aP,Ou,List.length_range],List.append_nil]
     refine W02 ?_
     exact aD (i+1,k') rfl ⟨rfl,by rw [Ov];rfl,trivial⟩ hil2 (by dsimp only;omega) (fun _ _ h=>h)
   ·rw [if_neg ha] at hfd
    rw [decide_eq_false ha]
    by_cases hb:bQ r=2∧(nr=1∨nr=2)
    ·rw [if_pos hb] at hfd
     rw [decide_eq_true hb]
     rw [hfd] at hsn
     repeat' (first|refine O1 ?_|refine ak ?_|refine OE a7 KN ?_|refine OP OA ?_|refine bO a7 ?_|refine bT rfl ?_|refine bj rfl ?_)
     refine bA a7 [] rfl rfl rfl rfl (by rw [hol,List.append_nil]) (by rw [hol];simp;omega) (by rw [hol];simp;omega) rfl fun k'=>?_
     rw [←hsn,show (aL ((List.range (i+1)).map (iN rs))).length=i+1 by rw [aP,Ou,List.length_range],List.append_nil]
     refine W02 ?_
     exact aD (i+1,k') rfl ⟨rfl,by rw [Ov];rfl,trivial⟩ hil2 (by dsimp only;omega) (fun _ _ h=>h)
    ·rw [if_neg hb] at hfd
     rw [decide_eq_false hb]
     rw [hfd] at hsn
     repeat' (first|refine O1 ?_|refine ak ?_|refine OE a7 KN ?_|refine OP OA ?_|refine bO a7 ?_|refine bj rfl ?_)
     refine bA a7 [] rfl rfl rfl rfl (by rw [hol,List.append_nil]) (by rw [hol];simp;omega) (by rw [hol];simp;omega) rfl fun k'=>?_
     rw [←hsn,show (aL ((List.range (i+1)).map (iN rs))).length=i+1 by rw [aP,Ou,List.length_range],List.append_nil]
     refine W02 ?_
     exact aD (i+1,k') rfl ⟨rfl,by rw [Ov];rfl,trivial⟩ hil2 (by dsimp only;omega) (fun _ _ h=>h)
 ·have hil2:i=rs.length:=by have:=Ox h;omega
  subst hil2
  clear h
  refine W01 ?_
  refine b7 (bq (t:=2) (c':= .imm 1 (aL ((List.range rs.length).map (iN rs)))) rfl fun σ v h=>h.im) ?_
  refine du (List.nil_sublist _) ?_
  exact OL NZ
end Go.Proofs.YtamjlkdanllgjaaGreatDoor
