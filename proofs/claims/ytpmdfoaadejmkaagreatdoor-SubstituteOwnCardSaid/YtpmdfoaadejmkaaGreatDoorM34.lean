/-
  A lookup is copied: what is told lies in memory of its own.
-/
import Derived.Test.YtpmdfoaadejmkaaGreatDoorM20
import Derived.Test.YtpmdfoaadejmkaaGreatDoorM33
import Derived.Test.YtpmdfoaadejmkaaGreatDoorM21
namespace Go.Proofs.YtpmdfoaadejmkaaGreatDoor
open Go.RowKit
attribute [local irreducible] AT br AX AO Av Kt b7 dm DA cA
theorem j8 (l:List (List Int)):d6 fun σ=> .new (bG σ) 1 (bF (bG σ) l):=d6.rows (r:=fun σ s=>[.new (bG σ) 1 (aQ s)]) (fun _ _ x h=>iS.newQ h x) l
theorem c6.tup {a b:List AV} (h:iS a b):c6 (.tup a) (.tup b):=fun σ v hv=>by
 cases hv with
 | tup _ vs hl h0=>
  have h1:=h.vrs (σ:=σ) (vs:=vs) ⟨hl,h0⟩
  exact .tup _ vs h1.1 h1.2
theorem yF (l:List Int) (hl:l.length≤1000000):ET Tryz.prog 96 [.imm 1 (aQ l)] fun σ=> .new (bG σ) 1 (aQ l):=by
 refine iU Tryz.func96 rfl Tryz.ntmps96 rfl fun B hBX hBq=>?_
 have hX0:∀(L:AL),∀x∈B.X,x∈L.map (·.1):=fun L x hx=>by rw [hBX] at hx;cases hx
 have hml:=aX l
 refine W01 ?_
 refine nO a5 rfl rfl rfl rfl rfl fun b hb=>?_
 refine W1y ?_
 cases b with
 | true=>
  rw [hb rfl]
  refine W0P ?_
  refine bc (bA (t:=2) (c':= .new (bG B.σ) 1 []) rfl fun σ v h=>of _ 1 h) ?_
  exact LN LA
 | false=>
  refine W1h ?_
  intros
  refine bE a5 [] rfl rfl rfl rfl (Lm _) (by rw [hml];simp;omega) (by rw [hml];simp;omega) rfl fun k'=>?_
  refine W0c ?_
  refine bc (mv (t:=2) (c':= .new (bG B.σ) 1 (aQ l)) rfl fun σ w v hw h=>iM hw (hX0 _) (Lm _) hBq h) ?_
  refine dc (List.nil_sublist _) ?_
  exact LN LA
theorem Fm (l:List gO) (hl:l.length≤1000000):ET Tryz.prog 97 [.imm 2 (l.map dC)] fun σ=> .new (bG σ) 2 (l.map dC):=by
 refine iU Tryz.func97 rfl Tryz.ntmps97 rfl fun B hBX hBq=>?_
 have hX0:∀(L:AL),∀x∈B.X,x∈L.map (·.1):=fun L x hx=>by rw [hBX] at hx;cases hx
 have hml:(l.map dC).length=l.length:=Lu ..
 refine W01 ?_
 refine nO a5 rfl rfl rfl rfl rfl fun b hb=>?_
 refine W1y ?_
 cases b with
 | true=>
  rw [hb rfl]
  refine W0P ?_
  refine bc (bA (t:=2) (c':= .new (bG B.σ) 2 []) rfl fun σ v h=>of _ 2 h) ?_
  exact LN LA
 | false=>
  refine W1h ?_
  intros
  refine bE a5 [] rfl rfl rfl rfl (Lm _) (by rw [hml];simp;omega) (by rw [hml];simp;omega) rfl fun k'=>?_
  refine W0c ?_
  refine bc (mv (t:=2) (c':= .new (bG B.σ) 2 (l.map dC)) rfl fun σ w v hw h=>iM hw (hX0 _) (Lm _) hBq h) ?_
  refine dc (List.nil_sublist _) ?_
  exact LN LA
set_option maxHeartbeats 4000000 in
theorem sb (l:List (List Int)) (hl:l.length≤1000000) (hs:∀s∈l,s.length≤1000000):ET Tryz.prog 95 [.imm 1 (bj l)] fun σ=> .new (bG σ) 1 (bF (bG σ) l):=by
 refine iU Tryz.func95 rfl Tryz.ntmps95 rfl fun B hBX hBq=>?_
 have hX0:∀(L:AL),∀x∈B.X,x∈L.map (·.1):=fun L x hx=>by rw [hBX] at hx;cases hx
 have hil:=bZ l
 refine W01 ?_
 refine iz a5 l.length rfl rfl rfl rfl rfl (by rw [hil]) (by rw [hil]) (by omega) (by omega) rfl fun rb=>?_
 refine W04 ?_
 refine aN [3,9,10] (α:=Nat) (fun i=>[(11,aI i)]) (fun i=>i≤l.length) (fun i=>[(rb,.box (eA (fun s=>[AV.new (bG B.σ) 1 (aQ s)]) [cE] l i).flatten 22)]) (fun i=>l.length - i) 0 rfl ⟨rfl,trivial⟩ (Nat.zero_le _) (fun _ _ hh=>by rw [kL];exact hh) fun i hi=>?_
 try dsimp only [Lr,Lq,Lp,Li]
 refine W01 ?_
 refine ar rfl (fun h1=>?_) (fun h1=>?_)
 ·have hi2:i < l.length:=by have:=Lz h1;omega
  obtain ⟨s,hsi⟩:∃z,l[i]?=some z:=⟨_,Iy hi2⟩
  have hsg:=gr hsi
  have hcl:=yF s (hs s (Lw hsi))
  have hsz:∀q∈eA (fun s=>[AV.new (bG B.σ) 1 (aQ s)]) [cE] l i,q.length=1:=by
   intro q hq
   unfold eA at hq
   rw [List.mem_append] at hq
   rcases hq with hq | hq
   ·obtain ⟨_,_,rfl⟩:=List.mem_map.1 hq;rfl
   ·rw [(List.mem_replicate.1 hq).2];rfl
  have hfl:=me (w:=fun s=>[AV.new (bG B.σ) 1 (aQ s)]) (z:=[cE]) (l:=l) (i:=i) hi
  have hput:=jP (sz:=1) (l:=eA (fun s=>[AV.new (bG B.σ) 1 (aQ s)]) [cE] l i) (i:=i) (e:=[AV.new (bG B.σ) 1 (aQ s)]) hsz rfl (by omega)
  rw [mf hsi] at hput
  have hfll:(eA (fun s=>[AV.new (bG B.σ) 1 (aQ s)]) [cE] l i).flatten.length=l.length * 1:=by rw [ej _ hsz,hfl]
  clear h1
  refine W08 ?_
  refine ud hcl (d6.new 1 _) ?_
  refine W0z ?_
  refine LU a5 0 LD (Nat.ble_eq_true_of_le (by rw [hfll,Int.toNat_natCast];show 0+i * 1+1≤_;omega)) ?_
  refine W05 ?_
  refine aC (i+1) rfl ⟨by rw [Lv];rfl,trivial⟩ hi2 (by omega) (fun _ _ hh=>?_)
  rw [←hput]
  rw [Int.toNat_natCast,Nat.zero_add] at hh
  exact hh
 ·have hi2:i=l.length:=by have:=Ly h1;omega
  subst hi2
  rw [md]
  clear h1
  refine W02 ?_
  have hml:(l.map fun s=>[AV.new (bG B.σ) 1 (aQ s)]).flatten.length=l.length * 1:=by rw [ej _ (sz:=1) (fun q hq=>by obtain ⟨_,_,rfl⟩:=List.mem_map.1 hq;rfl),Lu]
  refine bc (mt (t:=2) (sz:=1) (n:=l.length) (cap:=l.length) (l:=bF (bG B.σ) l) 0 (hX0 _) hBq rfl rfl (by rw [List.take_of_length_le (by omega)];rfl) (by omega) (fun e he=>by unfold bF at he;obtain ⟨_,_,rfl⟩:=List.mem_map.1 he;rfl) (dI _ l) (Nat.le_refl _) (by unfold maxLen;omega)) ?_
  exact LN LA
def gW (q:Nat→Prop) (r:b8):List AV:=[.new q 1 [],.new q 1 (bF q r.In),.new q 1 [],.new q 1 (aQ r.Out),.new q 2 (r.Calls.map dC),aI r.X]
def jC (q:Nat→Prop) (r:b8):List AV:=[cE,.new q 1 (bF q r.In),cE,.new q 1 (aQ r.Out),.new q 2 (r.Calls.map dC),aI r.X]
theorem BW (q:Nat→Prop) (r:b8):iS (jC q r) (gW q r):=⟨c6.nilN _ 1,c6.refl _,c6.nilN _ 1,c6.refl _,c6.refl _,c6.refl _,trivial⟩
theorem oe (q:Nat→Prop) (l:List (List Int)):c6 (.new q 1 (bF q l)) (.imm 1 (bj l)):=c6.trans c6.newIm (c6.imm (s7.map (a:=fun s=>[AV.new q 1 (aQ s)]) (b:=fun s=>[AV.imm 1 (aQ s)]) (fun _=>⟨c6.newIm,trivial⟩) l))
theorem BU (q:Nat→Prop) (r:b8):iS (gW q r) (bV (eY r)):=⟨c6.newIm,oe q _,c6.newIm,c6.newIm,c6.newIm,c6.refl _,trivial⟩
theorem yg {σ τ:Mem} (h:σ.le τ) (r:b8):iS (gW (bG τ) r) (gW (bG σ) r):=⟨d6.new 1 [] σ τ h,j8 r.In σ τ h,d6.new 1 [] σ τ h,d6.new 1 _ σ τ h,d6.new 2 _ σ τ h,c6.refl _,trivial⟩
theorem rx (q:Nat→Prop) (l:List Int):s6 q (.new q 1 (aQ l)):= .new 1 _ fun r hr c hc=>by
 unfold aQ at hr
 obtain ⟨z,_,rfl⟩:=List.mem_map.1 hr
 rw [List.mem_singleton] at hc
 subst hc
 exact .sc _
theorem zb (q:Nat→Prop) (l:List Nat):s6 q (.new q 1 (ek l)):= .new 1 _ fun r hr c hc=>by
 unfold ek at hr
 obtain ⟨z,_,rfl⟩:=List.mem_map.1 hr
 rw [List.mem_singleton] at hc
 subst hc
 exact .sc _
theorem G9 (q:Nat→Prop) (l:List Bool):s6 q (.new q 1 (jK l)):= .new 1 _ fun r hr c hc=>by
 unfold jK at hr
 obtain ⟨z,_,rfl⟩:=List.mem_map.1 hr
 rw [List.mem_singleton] at hc
 subst hc
 exact .sc _
theorem ry (q:Nat→Prop) (l:List (List Int)):s6 q (.new q 1 (bF q l)):= .new 1 _ fun r hr c hc=>by
 unfold bF at hr
 obtain ⟨z,_,rfl⟩:=List.mem_map.1 hr
 rw [List.mem_singleton] at hc
 subst hc
 exact rx q z
theorem E5 (q:Nat→Prop) (r:b8):∀c∈gW q r,s6 q c:=by
 intro c hc
 unfold gW at hc
 simp only [List.mem_cons,List.mem_nil_iff,or_false] at hc
 rcases hc with rfl | rfl | rfl | rfl | rfl | rfl
 ·exact .new 1 _ fun r hr=>by cases hr
 ·exact ry q _
 ·exact .new 1 _ fun r hr=>by cases hr
 ·exact rx q _
 ·refine .new 2 _ fun x hx c hc=>?_
  obtain ⟨z,_,rfl⟩:=List.mem_map.1 hx
  unfold dC at hc
  simp only [List.mem_cons,List.mem_nil_iff,or_false] at hc
  rcases hc with rfl | rfl
  all_goals exact .sc _
 ·exact .sc _
theorem B6 (q:Nat→Prop) (l:List b8):s6 q (.new q 6 (l.map (gW q))):= .new 6 _ fun r hr=>by
 obtain ⟨z,_,rfl⟩:=List.mem_map.1 hr
 exact E5 q z
def Fi (q:Nat→Prop) (l:aO):List AV:=[aI l.Kind,eo l.Ignore,.new q 6 (l.Rules.map (gW q))]
theorem DP (l:aO):d6 fun σ=> .agg (Fi (bG σ) l):=fun σ τ h=>c6.agg ⟨c6.refl _,c6.refl _,d6.rows (r:=fun σ r=>gW (bG σ) r) (fun _ _ r h=>yg h r) l.Rules σ τ h,trivial⟩
set_option maxHeartbeats 8000000 in
theorem vp (l:aO) (hl:l.Rules.length≤1000000) (hr:∀r∈l.Rules,C1 r):ET Tryz.prog 33 [.agg (bJ l)] fun σ=> .agg (Fi (bG σ) l):=by
 refine iU Tryz.func33 rfl Tryz.ntmps33 rfl fun B hBX hBq=>?_
 have hX0:∀(L:AL),∀x∈B.X,x∈L.map (·.1):=fun L x hx=>by rw [hBX] at hx;cases hx
 have hml:(l.Rules.map bV).length=l.Rules.length:=Lu ..
 refine W1u ?_
 intros
 refine iz a5 l.Rules.length rfl rfl rfl rfl rfl (by rw [hml]) (by rw [hml]) (by omega) (by omega) rfl fun rb=>?_
 refine W04 ?_
 rename_i r2
 refine aN [1,2,3,11,12] (α:=Nat) (fun i=>[(13,aI i)]) (fun i=>i≤l.Rules.length) (fun i=>[(rb,.box (eA (jC (bG B.σ)) [cE,cE,cE,cE,cE,aI 0] l.Rules i).flatten 79),(r2,.box [aI 0,eo false,cE] 59)]) (fun i=>l.Rules.length - i) 0 rfl ⟨rfl,trivial⟩ (Nat.zero_le _) (fun _ _ hh=>by rw [kL];exact hh) fun i hi=>?_
 try dsimp only [Lr,Lq,Lp,Li]
 refine W01 ?_
 refine ar rfl (fun h1=>?_) (fun h1=>?_)
 ·have hi2:i < l.Rules.length:=by have:=Lz h1;omega
  obtain ⟨r,hri⟩:∃z,l.Rules[i]?=some z:=⟨_,Iy hi2⟩
  have hrg:(l.Rules.map bV)[i]?=some (bV r):=by simp [hri]
  have hcr:=hr r (Lw hri)
  have d1:=(sb r.In hcr.in_.1 hcr.in_.2)
  have d2:=(yF r.Out hcr.out)
  have d3:=(Fm r.Calls hcr.calls)
  have hsz:∀q∈eA (jC (bG B.σ)) [cE,cE,cE,cE,cE,aI 0] l.Rules i,q.length=6:=by
   intro q hq
   unfold eA at hq
   rw [List.mem_append] at hq
   rcases hq with hq | hq
   ·obtain ⟨_,_,rfl⟩:=List.mem_map.1 hq;rfl
   ·rw [(List.mem_replicate.1 hq).2];rfl
  have hfl:=me (w:=jC (bG B.σ)) (z:=[cE,cE,cE,cE,cE,aI 0]) (l:=l.Rules) (i:=i) hi
  have hput:=jP (sz:=6) (l:=eA (jC (bG B.σ)) [cE,cE,cE,cE,cE,aI 0] l.Rules i) (i:=i) (e:=jC (bG B.σ) r) hsz rfl (by omega)
  rw [mf hri] at hput
  have hfll:(eA (jC (bG B.σ)) [cE,cE,cE,cE,cE,aI 0] l.Rules i).flatten.length=l.Rules.length * 6:=by rw [ej _ hsz,hfl]
  clear h1
  refine W14 ?_
  intros
  refine bz 14 [(0,.v),(1,.v),(2,.v),(3,.v),(5,.v),(6,.v),(8,.v),(9,.v),(11,.v),(12,.v),(4,.e),(7,.e),(10,.e),(13,.v)] none ?_ trivial rfl (by kernel_rfl) (by kernel_rfl) (by kernel_rfl) bX (by kernel_rfl) rfl
  refine W0a ?_
  refine tJ d1 (j8 _) ?_
  repeat' (first|refine aD ?_|fail)
  refine tJ d2 (d6.new 1 _) ?_
  repeat' (first|refine aD ?_|fail)
  refine tJ d3 (d6.new 2 _) ?_
  refine W0a ?_
  refine LQ [1,2,3,11,12,13,18,19,31] KZ ?_
  refine W0z ?_
  refine LU a5 0 LD (Nat.ble_eq_true_of_le (by rw [hfll,Int.toNat_natCast];show 0+i * 6+6≤_;omega)) ?_
  refine W05 ?_
  refine aC (i+1) rfl ⟨by rw [Lv];rfl,trivial⟩ hi2 (by omega) (fun _ _ hh=>?_)
  rw [←hput]
  rw [Int.toNat_natCast,Nat.zero_add] at hh
  exact hh
 ·have hi2:i=l.Rules.length:=by have:=Ly h1;omega
  subst hi2
  rw [md]
  clear h1
  have hsz:∀q∈l.Rules.map (jC (bG B.σ)),q.length=6:=fun q hq=>by obtain ⟨_,_,rfl⟩:=List.mem_map.1 hq;rfl
  have hml2:(l.Rules.map (jC (bG B.σ))).flatten.length=l.Rules.length * 6:=by rw [ej _ hsz,Lu]
  refine bM (mt (t:=3) (sz:=6) (n:=l.Rules.length) (cap:=l.Rules.length) (l:=l.Rules.map (jC (bG B.σ))) 0 (hX0 _) hBq rfl rfl (by rw [List.take_of_length_le (by omega)]) (by omega) hsz (Lu ..) (Nat.le_refl _) (by unfold maxLen;omega)) ?_
  refine bM (bA (t:=3) (c':= .new (bG B.σ) 6 (l.Rules.map (gW (bG B.σ)))) rfl fun σ v h=>c6.newQ (Mem.le_refl _) (s7.map (BW (bG B.σ)) l.Rules) σ v h) ?_
  refine W1b ?_
  exact fY (cs:=[.agg (Fi (bG B.σ) l)]) [] ⟨⟨_,0,_,_,rfl,rfl,.inr ⟨ee a5 rfl,rfl⟩⟩,trivial⟩ (List.nil_sublist _) rfl
def vk (q:Nat→Prop) (a:gA):List AV:=[.new q 1 (aQ a.cls),.new q 1 (bF q a.fore),.new q 1 (bF q a.back),.new q 1 (ek a.foreE),.new q 1 (ek a.backE)]
theorem GI {σ τ:Mem} (h:σ.le τ) (a:gA):iS (vk (bG τ) a) (vk (bG σ) a):=⟨d6.new 1 _ σ τ h,j8 _ σ τ h,j8 _ σ τ h,d6.new 1 _ σ τ h,d6.new 1 _ σ τ h,trivial⟩
theorem zy {σ τ:Mem} (h:σ.le τ) (t:List (List Int)) (e:List Nat):c6 (.tup [.new (bG τ) 1 (bF (bG τ) t),.new (bG τ) 1 (ek e),eo true]) (.tup [.new (bG σ) 1 (bF (bG σ) t),.new (bG σ) 1 (ek e),eo true]):=c6.tup ⟨j8 _ σ τ h,d6.new 1 _ σ τ h,c6.refl _,trivial⟩
set_option maxHeartbeats 8000000 in
theorem zX (f:aY) (n:Nat) (l:aO) (hl:f.Lookups[n]?=some l) (h:uI f.Glyphs.length l) (hN0:0 < f.Glyphs.length) (hN:f.Glyphs.length≤65536):ES Tryz.prog 35 [d7 f,aI n] [] fun σ c _=>∃a,qk f.Glyphs.length l.Rules a∧c= .tup [.agg (vk (bG σ) a),aI 0]:=by
 refine iU Tryz.func35 rfl Tryz.ntmps35 rfl fun B hBX hBq=>?_
 have hgl:(f.Glyphs.map bI).length=f.Glyphs.length:=Lu ..
 have hll:(f.Lookups.map bJ).length=f.Lookups.length:=Lu ..
 have hrl:(l.Rules.map bV).length=l.Rules.length:=Lu ..
 have hnl:=(Ln hl).1
 have hlg:(f.Lookups.map bJ)[n]?=some (bJ l):=by simp [hl]
 have hfew:=h.few
 refine W1T ?_
 intros
 refine ce [1,2,4] False rfl (fun Q' K=>?_) (fun hC=>hC.elim) (fun _=>?_)
 ·repeat' (first|refine a7 ?_|refine LG a5 KZ ?_|refine LO KZ ?_|refine LP LB ?_|refine LR LA (fun _=>?_) (fun _=>?_))
  all_goals exact K _ _ rfl rfl (by simp_all <;> omega)
 refine W10 ?_
 rename_i r4 _
 have hpd:=sm f.Glyphs.length hN0 hN (cZ l.Rules) (pT h.rule) (by have:=lw h.rule;omega)
 have hcls:=rB f.Glyphs.length (cZ l.Rules) (lU h)
 have hso:=Ez h hN
 have hsf:=rT _ _ _ (yR h hN) (.fnB 100 [.agg [.imm 6 (l.Rules.map bV),.new (bG B.σ) 1 (aQ (da f.Glyphs.length (cZ l.Rules)))]] []) (i9.fnB (f:=100) (fs:=[.agg [.imm 6 (l.Rules.map bV),.new (bG B.σ) 1 (aQ (da f.Glyphs.length (cZ l.Rules)))]]) (caps:=[]) (AC.args (vH hso) ⟨c6.agg ⟨c6.refl _,c6.newIm,trivial⟩,trivial⟩))
 have hsb:=rT _ _ _ (yE h hN) (.fnB 101 [.agg [.imm 6 (l.Rules.map bV),.new (bG B.σ) 1 (aQ (da f.Glyphs.length (cZ l.Rules)))]] []) (i9.fnB (f:=101) (fs:=[.agg [.imm 6 (l.Rules.map bV),.new (bG B.σ) 1 (aQ (da f.Glyphs.length (cZ l.Rules)))]]) (caps:=[]) (AC.args (vi hso) ⟨c6.agg ⟨c6.refl _,c6.newIm,trivial⟩,trivial⟩))
 refine ar rfl (fun h1=>?_) (fun h1=>?_)
 ·have:=Lz h1
  omega
 clear h1
 refine W0x ?_
 refine bM (bA (t:=7) (c':= .vec none 1 (bj [])) rfl fun σ v h=>cC 1 h) ?_
 refine aN [2,4,6,49,50] (α:=Nat×Option (Nat×Nat)) (fun s=>[(51,aI s.1),(7,.vec s.2 1 (bj (cZ (l.Rules.take s.1))))]) (fun s=>s.1≤l.Rules.length) (fun s=>(r4,.box [.sc (.slice none 0 0),.sc (.slice none 0 0),.sc (.slice none 0 0),.sc (.slice none 0 0),.sc (.slice none 0 0)] 62)::tok s.2 22 1 (cZ (l.Rules.take s.1)).length) (fun s=>l.Rules.length - s.1) (0,none) rfl ⟨rfl,rfl,trivial⟩ (Nat.zero_le _) (fun _ _ hh=>hh) ?_
 ·rintro ⟨k,q⟩ hk
  dsimp only at hk ⊢
  try dsimp only [Lr,Lq,Lp,Li]
  refine W01 ?_
  refine ar rfl (fun h1=>?_) (fun h1=>?_)
  ·have hk2:k < l.Rules.length:=by have:=Lz h1;omega
   obtain ⟨r,hr⟩:∃z,l.Rules[k]?=some z:=⟨_,Iy hk2⟩
   have hrg:(l.Rules.map bV)[k]?=some (bV r):=by simp [hr]
   have hlong:=(h.rule r (Lw hr)).long
   have hal:=sw hr
   have hlen:(cZ (l.Rules.take k)).length≤2400:=by
    have:=lw (N:=f.Glyphs.length) (rs:=l.Rules.take k) fun x hx=>h.rule x (List.mem_of_mem_take hx)
    rw [List.length_take] at this
    omega
   have hri:bj (cZ (l.Rules.take (k+1)))=bj (cZ (l.Rules.take k))++bj r.Back++bj r.In++bj r.Ahead:=by rw [hal];simp [bj]
   have hrl0:=bZ (cZ (l.Rules.take k))
   have hrl1:=bZ r.Back
   have hrl2:=bZ r.In
   have hrl3:=bZ r.Ahead
   have hln:(cZ (l.Rules.take (k+1))).length=(cZ (l.Rules.take k)).length+r.Back.length+r.In.length+r.Ahead.length:=by rw [hal,List.length_append,List.length_append,List.length_append]
   generalize bj (cZ (l.Rules.take k))=A0 at *
   generalize (cZ (l.Rules.take k)).length=n0 at *
   clear h1
   refine W0S ?_
   intros
   refine bE a5 [(r4,.box [.sc (.slice none 0 0),.sc (.slice none 0 0),.sc (.slice none 0 0),.sc (.slice none 0 0),.sc (.slice none 0 0)] 62)] rfl rfl rfl rfl (by rw [hrl0];exact List.perm_append_comm (l₁:=[_])) (by omega) (by omega) rfl fun q1=>?_
   refine W01 ?_
   refine bE a5 [(r4,.box [.sc (.slice none 0 0),.sc (.slice none 0 0),.sc (.slice none 0 0),.sc (.slice none 0 0),.sc (.slice none 0 0)] 62)] rfl rfl rfl rfl (Lm _) (by rw [List.length_append];omega) (by rw [List.length_append];omega) rfl fun q2=>?_
   refine W1a ?_
   refine bE a5 [(r4,.box [.sc (.slice none 0 0),.sc (.slice none 0 0),.sc (.slice none 0 0),.sc (.slice none 0 0),.sc (.slice none 0 0)] 62)] rfl rfl rfl rfl (Lm _) (by rw [List.length_append,List.length_append];omega) (by rw [List.length_append,List.length_append];omega) rfl fun q3=>?_
   refine W05 ?_
   refine aC (k+1,q3) rfl ⟨by rw [Lv];rfl,by dsimp only;rw [hri];rfl,trivial⟩ hk2 (by dsimp only;omega) (fun σ w hh=>?_)
   have h2:=hh.perm (List.perm_append_comm (l₂:=[_]))
   have h3:(A0++bj r.Back++bj r.In++bj r.Ahead).length=(cZ (l.Rules.take (k+1))).length:=by rw [hln,List.length_append,List.length_append,List.length_append];omega
   rw [h3] at h2
   exact h2
  ·have hk2:k=l.Rules.length:=by have:=Ly h1;omega
   subst hk2
   rw [List.take_length]
   have hpd2:ET Tryz.prog 98 [aI ((f.Glyphs.map bI).length:Nat),.imm 1 (bj (cZ l.Rules))] fun σ=> .new (bG σ) 1 (aQ (da f.Glyphs.length (cZ l.Rules))):=by rw [hgl];exact hpd
   clear h1
   refine W0R ?_
   refine ud hpd2 (d6.new 1 _) ?_
   repeat' (first|refine a9 ?_|refine a4 ?_|refine a6 ?_|refine a7 ?_|refine LG a5 KZ ?_|(apply aM;first|refine LI 9 a5 0 LF ?_|refine LI 9 a5 1 LF ?_|refine LI 9 a5 2 LF ?_|refine LI 10 a5 0 LF ?_|refine LI 10 a5 1 LF ?_|refine LI 10 a5 2 LF ?_|refine LH a5 0 LE ?_|refine LH a5 1 LE ?_|refine LH a5 2 LE ?_|refine LH a5 3 LE ?_|fail)|refine bf a5 fun _=>?_|fail)
   refine nM [] _ hsf rfl rfl (Lm _) rfl fun σ1 c1 L1 hle ⟨ft,fe,hf1,hc1⟩=>?_
   subst hc1
   refine aE (bP (List.sublist_append_right ..)) ?_
   refine aE (bA (t:=78) rfl (zy hle ft fe)) ?_
   refine W0G ?_
   refine nM [] _ hsb rfl rfl (Lm _) rfl fun σ2 c1 L1 hle2 ⟨bt,be,hb1,hc1⟩=>?_
   subst hc1
   refine aE (bP (List.sublist_append_right ..)) ?_
   refine aE (bA (t:=88) rfl (zy hle2 bt be)) ?_
   refine W12 ?_
   exact fY (cs:=[.agg (vk (bG B.σ) ⟨da f.Glyphs.length (cZ l.Rules),ft,bt,fe,be⟩),aI 0]) [] ⟨⟨_,0,_,_,rfl,rfl,.inr ⟨ee a5 rfl,rfl⟩⟩,rfl,trivial⟩ (List.nil_sublist _) ⟨⟨da f.Glyphs.length (cZ l.Rules),ft,bt,fe,be⟩,⟨hcls,hf1,hb1⟩,rfl⟩
def JQ (q:Nat→Prop):Option gA→List AV
 | none=>[cE,cE,cE,cE,cE]
 | some a=>vk q a
def H7 (q:Nat→Prop) (l:aO) (a:Option gA) (j:Nat):List AV:=[aI l.Kind,eo l.Ignore,.new q 6 (l.Rules.map (gW q))]++JQ q a++[aI (f9 (l.Rules.take j)),aI (gj (l.Rules.take j))]
def t5 (q:Nat→Prop) (l:aO) (a:gA) (j:Nat):List AV:=[aI l.Kind,eo l.Ignore,.new q 6 (l.Rules.map (gW q)),.new q 1 (aQ a.cls),.new q 1 (bF q a.fore),.new q 1 (bF q a.back),.new q 1 (ek a.foreE),.new q 1 (ek a.backE),aI (f9 (l.Rules.take j)),aI (gj (l.Rules.take j))]
theorem B9 (q:Nat→Prop) (l:aO) (a:Option gA) (j:Nat):iS (H7 q l a j) (t5 q l (a.getD H5) j):=by
 cases a with
 | none=>exact ⟨c6.refl _,c6.refl _,c6.refl _,c6.nilN q 1,c6.nilN q 1,c6.nilN q 1,c6.nilN q 1,c6.nilN q 1,c6.refl _,c6.refl _,trivial⟩
 | some a=>exact ⟨c6.refl _,c6.refl _,c6.refl _,c6.refl _,c6.refl _,c6.refl _,c6.refl _,c6.refl _,c6.refl _,c6.refl _,trivial⟩
def fy (q:Nat→Prop) (e:om):List AV:=[aI e.l.Kind,eo e.l.Ignore,.new q 6 (e.l.Rules.map (gW q)),.new q 1 (aQ e.cls),.new q 1 (bF q e.fore),.new q 1 (bF q e.back),.new q 1 (ek e.foreE),.new q 1 (ek e.backE),aI (f9 e.l.Rules),aI (gj e.l.Rules)]
def lB (q:Nat→Prop) (E:n8):List AV:=[.new q 10 (E.lks.map (fy q)),.new q 1 (jK E.ms)]
theorem Bb (q:Nat→Prop) (l:aO) (a:gA):t5 q l a l.Rules.length=fy q (vy l a):=by
 unfold t5
 rw [List.take_length]
 rfl
theorem GJ (q:Nat→Prop) (e:om):iS (fy q e) (fw e):=by
 refine ⟨c6.refl _,c6.refl _,?_,c6.newIm,oe q _,oe q _,c6.newIm,c6.newIm,c6.refl _,c6.refl _,trivial⟩
 have h:(iA e.l).Rules.map bV=e.l.Rules.map fun r=>bV (eY r):=by unfold iA;rw [List.map_map];rfl
 rw [h]
 exact c6.trans c6.newIm (c6.imm (s7.map (BU q) e.l.Rules))
theorem GK (q:Nat→Prop) (E:n8):iS (lB q E) (eh E):=⟨c6.trans c6.newIm (c6.imm (s7.map (GJ q) E.lks)),c6.newIm,trivial⟩
theorem Ga (q:Nat→Prop) (e:om):∀c∈fy q e,s6 q c:=by
 intro c hc
 unfold fy at hc
 simp only [List.mem_cons,List.mem_nil_iff,or_false] at hc
 rcases hc with rfl | rfl | rfl | rfl | rfl | rfl | rfl | rfl | rfl | rfl
 ·exact .sc _
 ·exact .sc _
 ·exact B6 q _
 ·exact rx q _
 ·exact ry q _
 ·exact ry q _
 ·exact zb q _
 ·exact zb q _
 ·exact .sc _
 ·exact .sc _
theorem Gb (q:Nat→Prop) (E:n8):∀c∈lB q E,s6 q c:=by
 intro c hc
 unfold lB at hc
 simp only [List.mem_cons,List.mem_nil_iff,or_false] at hc
 rcases hc with rfl | rfl
 ·refine .new 10 _ fun r hr=>?_
  obtain ⟨z,_,rfl⟩:=List.mem_map.1 hr
  exact Ga q z
 ·exact G9 q _
theorem Gc (q:Nat→Prop) (b:Nat):s6 q (.tup [eO b,aI 0]):= .tup _ fun c hc=>by
 simp only [List.mem_cons,List.mem_nil_iff,or_false] at hc
 rcases hc with rfl | rfl
 all_goals exact .sc _
set_option maxHeartbeats 16000000 in
theorem G7 (f:aY) (h:C6 f) (hck:AC Tryz.prog 25 [d7 f] [] fun c _=>∃n:Int,c=cu (0,n)):JH Tryz.prog 15 [d7 f] fun σ c L=>∃E eb,EX f E∧c= .tup [eO eb,aI 0]∧L=[(eb,.box (lB (bG σ) E) 86)]:=by
 refine @iU Tryz.prog 15 _ _ _ [d7 f] [] (fun σ c L=>(∃E eb,EX f E∧c= .tup [eO eb,aI 0]∧L=[(eb,.box (lB (bG σ) E) 86)])∧s6 (bG σ) c∧∀p∈L,∃cs t,p.2= .box cs t∧∀c∈cs,s6 (bG σ) c) Tryz.func15 rfl Tryz.ntmps15 rfl fun B hBX hBq=>?_
 have hX0:∀(L:AL),∀x∈B.X,x∈L.map (·.1):=fun L x hx=>by rw [hBX] at hx;cases hx
 have hgl:(f.Glyphs.map bI).length=f.Glyphs.length:=Lu ..
 have hll:(f.Lookups.map bJ).length=f.Lookups.length:=Lu ..
 obtain ⟨hN0,hN⟩:=h.glyphs
 have hL:=h.lookups
 refine W0b ?_
 refine b9 [] _ hck rfl rfl (Lm _) rfl fun c1 L1 ⟨n0,hc1⟩=>?_
 subst hc1
 refine aE (bP (List.sublist_append_right ..)) ?_
 unfold cu
 refine W1H ?_
 intros
 rename_i eb
 refine bM (bC 0 (cs':=[.vec none 10 [],.vec none 1 []]) rfl fun σ vs hh=>iS.vrs (a:=[cE,cE]) (b:=[.vec none 10 [],.vec none 1 []]) ⟨fun σ v h=>cC 10 h,fun σ v h=>cC 1 h,trivial⟩ hh) ?_
 refine aN [1,6,27,28] (α:=List om×Option (Nat×Nat)) (fun s=>[(29,aI s.1.length)]) (fun s=>s.1.length≤f.Lookups.length∧s.1.map (·.l)=f.Lookups.take s.1.length∧∀e∈s.1,1≤e.l.Kind→e.l.Kind≤6→ku e) (fun s=>(eb,.box [.vec s.2 10 (s.1.map (fy (bG B.σ))),.vec none 1 []] 86)::tok s.2 97 10 s.1.length) (fun s=>f.Lookups.length - s.1.length) ([],none) rfl ⟨rfl,trivial⟩ ⟨Nat.zero_le _,rfl,fun e he=>by cases he⟩ (fun _ _ hh=>hh) ?_
 rintro ⟨es,q⟩ ⟨hk,hes,hau⟩
 dsimp only at hk hes hau ⊢
 try dsimp only [Lr,Lq,Lp,Li]
 refine W01 ?_
 refine ar rfl (fun h1=>?_) (fun h1=>?_)
 ·have hk2:es.length < f.Lookups.length:=by have:=Lz h1;omega
  obtain ⟨l,hl⟩:∃z,f.Lookups[es.length]?=some z:=⟨_,Iy hk2⟩
  have hlg:(f.Lookups.map bJ)[es.length]?=some (bJ l):=by simp [hl]
  have hlm:=Lw hl
  have hbl:=h.look l hlm
  have hfew:=hbl.few
  have hcl:=(vp l (by omega) (h.rule l hlm))
  have hbu:=zX f es.length l hl hbl hN0 hN
  have hrl:(l.Rules.map bV).length=l.Rules.length:=Lu ..
  clear h1
  refine W0m ?_
  intros
  refine ud hcl (DP l) ?_
  unfold Fi
  repeat' (first|refine a9 ?_|refine a4 ?_|refine a6 ?_|refine a7 ?_|refine LG a5 KZ ?_|(apply aM;first|refine LI 8 a5 0 LF ?_|refine LI 8 a5 1 LF ?_|refine LI 8 a5 2 LF ?_|refine LI 10 a5 0 LF ?_|refine LI 10 a5 1 LF ?_|refine LI 10 a5 2 LF ?_|refine LI 13 a5 0 LF ?_|refine LI 13 a5 1 LF ?_|refine LI 13 a5 2 LF ?_|refine LI 15 a5 0 LF ?_|refine LI 15 a5 1 LF ?_|refine LI 15 a5 2 LF ?_|refine LH a5 0 LE ?_|refine LH a5 1 LE ?_|refine LH a5 2 LE ?_|refine LH a5 3 LE ?_|fail)|refine bf a5 fun _=>?_|(apply bw;refine bn ?_)|fail)
  rename_i ob
  refine yB (α:=Option gA) [1,6,8,9,27,28,29] (fun _=>[(1,.iptr (cG f)),(6,eO eb),(8,.iptr (bJ l)),(9,eO ob),(27,.imm 3 (f.Lookups.map bJ)),(28,.sc (.int .i64 ((f.Lookups.map bJ).length:Int))),(29,aI es.length)]) (fun a=>(ob,.box (H7 (bG B.σ) l a 0) 97)::(eb,.box [.vec q 10 (es.map (fy (bG B.σ))),.vec none 1 []] 86)::tok q 97 10 es.length) (fun a=>1≤l.Kind→l.Kind≤6→∃a',a=some a'∧qk f.Glyphs.length l.Rules a') (fun Q' K=>?_) (fun a ha=>?_)
  ·refine ar rfl (fun h1=>?_) (fun h1=>?_)
   ·refine W0k ?_
    refine nM [] _ hbu rfl rfl (Lm _) rfl fun σ1 c1 L1 hle ⟨a,ha,hc1⟩=>?_
    subst hc1
    refine aE (bA (t:=43) (c':= .tup [.agg (vk (bG B.σ) a),aI 0]) rfl (c6.tup (a:=[.agg (vk (bG σ1) a),aI 0]) (b:=[.agg (vk (bG B.σ) a),aI 0]) ⟨c6.agg (GI hle a),c6.refl _,trivial⟩)) ?_
    refine aE (bP (List.sublist_append_right ..)) ?_
    refine W0F ?_
    intros
    exact K (some a) _ (fun _ _=>⟨a,rfl,ha⟩) rfl
   ·repeat' (first|refine aj ?_)
    exact K none _ (fun h1' h6=>absurd (Ly h1) (fun hn=>hn ⟨h1',h6⟩)) rfl
  ·have hA:1≤l.Kind→l.Kind≤6→qk f.Glyphs.length l.Rules (a.getD H5):=fun h1 h6=>by
    obtain ⟨a',rfl,hb⟩:=ha h1 h6
    exact hb
   refine bM (bC 0 (cs':=t5 (bG B.σ) l (a.getD H5) 0) rfl fun σ vs hh=>(B9 (bG B.σ) l a 0).vrs hh) ?_
   generalize a.getD H5=A at hA
   clear ha
   refine W04 ?_
   refine aN [1,6,9,27,28,29,52,53] (α:=Nat) (fun j=>[(54,aI j)]) (fun j=>j≤l.Rules.length) (fun j=>(ob,.box (t5 (bG B.σ) l A j) 97)::(eb,.box [.vec q 10 (es.map (fy (bG B.σ))),.vec none 1 []] 86)::tok q 97 10 es.length) (fun j=>l.Rules.length - j) 0 rfl ⟨rfl,trivial⟩ (Nat.zero_le _) (fun _ _ hh=>hh) fun j hj=>?_
   try dsimp only [Lr,Lq,Lp,Li]
   refine W01 ?_
   refine ar rfl (fun h1=>?_) (fun h1=>?_)
   ·have hj2:j < l.Rules.length:=by have:=Lz h1;omega
    obtain ⟨r,hr⟩:∃z,l.Rules[j]?=some z:=⟨_,Iy hj2⟩
    have hrg:(l.Rules.map bV)[j]?=some (bV r):=by simp [hr]
    have hlong:=(hbl.rule r (Lw hr)).long
    have hl1:=bZ r.In
    have hl2:=bZ r.Ahead
    have hl3:=bZ r.Back
    obtain ⟨hfb,hbb⟩:=vG hbl.rule j
    obtain ⟨hfs,hbs⟩:=qX hr
    clear h1
    refine W0n ?_
    intros
    refine aC (j+1) rfl ⟨by rw [Lv];rfl,trivial⟩ hj2 (by omega) (fun _ _ hh=>?_)
    have e1:((max (f9 (l.Rules.take j)) (r.In.length+r.Ahead.length):Nat):Int)=max ((f9 (l.Rules.take j):Nat):Int) (((bj r.In).length:Int)+((bj r.Ahead).length:Int)):=by omega
    have e2:((max (gj (l.Rules.take j)) r.Back.length:Nat):Int)=max ((gj (l.Rules.take j):Nat):Int) ((bj r.Back).length:Int):=by omega
    unfold t5
    rw [hfs,hbs,e1,e2]
    exact hh
   ·have hj2:j=l.Rules.length:=by have:=Ly h1;omega
    subst hj2
    rw [Bb]
    clear h1
    have hel:(es.map (fy (bG B.σ))).length=es.length:=Lu ..
    have hsn:es.map (fy (bG B.σ))++[fy (bG B.σ) (vy l A)]=(es++[vy l A]).map (fy (bG B.σ)):=by rw [List.map_append];rfl
    refine W21 ?_
    refine bz 8 [(0,.v),(1,.v),(2,.v),(3,.v),(4,.l),(5,.l),(6,.v),(7,.e)] none ?_ trivial rfl (by kernel_rfl) (by kernel_rfl) (by kernel_rfl) bX (by kernel_rfl) rfl
    refine W1D ?_
    refine eS a5 [(ob,.box (fy (bG B.σ) (vy l A)) 97),(eb,.box [.vec q 10 (es.map (fy (bG B.σ))),.vec none 1 []] 86)] rfl rfl rfl rfl (by rw [hel];exact List.perm_append_comm (l₁:=[_,_])) (by rw [hel];simp;omega) (by rw [hel];simp;omega) trivial fun q'=>?_
    repeat' (first|fail)
    refine LQ [1,6,27,28,29,77,84] KZ ?_
    refine aE (aH (L':=(ob,.box (fy (bG B.σ) (vy l A)) 97)::(eb,.box [.vec q 10 (es.map (fy (bG B.σ))),.vec none 1 []] 86)::tok q' 97 10 (es.map (fy (bG B.σ))++[fy (bG B.σ) (vy l A)]).length) (List.perm_append_comm (l₂:=[_,_]))) ?_
    refine W0i ?_
    have hll2:(es++[vy l A]).length=es.length+1:=by simp
    refine aC (es++[vy l A],q') rfl ⟨by dsimp only;rw [hll2,Lv];rfl,trivial⟩ ⟨by dsimp only;omega,?_,?_⟩ (by dsimp only;omega) (fun σ w hh=>?_)
    ·dsimp only
     rw [List.map_append,hes,hll2,List.take_add_one,hl]
     rfl
    ·intro e he h1 h6
     rw [List.mem_append,List.mem_singleton] at he
     rcases he with he | rfl
     ·exact hau e he h1 h6
     ·exact yC hbl (hA h1 h6)
    ·have h2:=hh.sublist (List.sublist_cons_self ..)
     rw [hsn,Lu] at h2
     dsimp only
     rw [←hsn]
     exact h2
 ·have hk2:es.length=f.Lookups.length:=by have:=Ly h1;omega
  rw [hk2,List.take_length] at hes
  clear h1
  refine W0w ?_
  refine aN [6,89,90] (α:=Nat×Option (Nat×Nat)) (fun s=>[(91,aI s.1)]) (fun s=>s.1≤f.Glyphs.length) (fun s=>(eb,.box [.vec q 10 (es.map (fy (bG B.σ))),.vec s.2 1 (jK ((f.Glyphs.map bi.Mark).take s.1))] 86)::(tok q 97 10 es.length++tok s.2 4 1 s.1)) (fun s=>f.Glyphs.length - s.1) (0,none) rfl ⟨rfl,trivial⟩ (Nat.zero_le _) (fun σ w hh=>by show cL B σ ((eb,.box [.vec q 10 (es.map (fy (bG B.σ))),.vec none 1 []] 86)::(tok q 97 10 es.length++[])) w;rw [List.append_nil];exact hh) ?_
  rintro ⟨k,q2⟩ hk3
  dsimp only at hk3 ⊢
  try dsimp only [Lr,Lq,Lp,Li]
  refine W01 ?_
  refine ar rfl (fun h1=>?_) (fun h1=>?_)
  ·have hk4:k < f.Glyphs.length:=by have:=Lz h1;omega
   obtain ⟨g,hg⟩:∃z,f.Glyphs[k]?=some z:=⟨_,Iy hk4⟩
   have hgg:(f.Glyphs.map bI)[k]?=some (bI g):=by simp [hg]
   have hbl:(jK ((f.Glyphs.map bi.Mark).take k)).length=k:=by rw [qF,List.length_take,Lu];omega
   have hbs:(f.Glyphs.map bi.Mark).take (k+1)=(f.Glyphs.map bi.Mark).take k++[g.Mark]:=by rw [List.take_add_one,List.getElem?_map,hg];rfl
   have hsn:=sF ((f.Glyphs.map bi.Mark).take k) g.Mark
   rw [←hbs] at hsn
   generalize jK ((f.Glyphs.map bi.Mark).take k)=bl at *
   clear h1
   refine W0m ?_
   intros
   refine bz 9 [(0,.v),(1,.v),(2,.v),(3,.v),(4,.l),(5,.v),(6,.v),(7,.v),(8,.e)] none ?_ trivial rfl (by kernel_rfl) (by kernel_rfl) (by kernel_rfl) bX (by kernel_rfl) rfl
   refine W1C ?_
   refine eS a5 ((eb,.box [.vec q 10 (es.map (fy (bG B.σ))),.vec q2 1 bl] 86)::tok q 97 10 es.length) rfl rfl rfl rfl (by rw [hbl];exact (List.perm_append_comm (l₁:=_::tok q 97 10 es.length))) (by rw [hbl];simp;omega) (by rw [hbl];simp;omega) trivial fun q'=>?_
   repeat' (first|fail)
   refine LQ [6,89,90,91,95,103] KZ ?_
   refine aE (aH (L':=(eb,.box [.vec q 10 (es.map (fy (bG B.σ))),.vec q2 1 bl] 86)::(tok q 97 10 es.length++tok q' 4 1 (k+1))) (by rw [List.length_append,hbl];exact (List.perm_append_comm (l₂:=_::tok q 97 10 es.length)))) ?_
   refine W0i ?_
   exact aC (k+1,q') rfl ⟨by rw [Lv];rfl,trivial⟩ hk4 (by dsimp only;omega) (fun _ _ hh=>by dsimp only;rw [←hsn];exact hh)
  ·have hk4:k=f.Glyphs.length:=by have:=Ly h1;omega
   subst hk4
   rw [List.take_of_length_le (by rw [Lu];exact Nat.le_refl _)]
   clear h1
   refine W02 ?_
   refine bc (eE 0 (cs':=lB (bG B.σ) ⟨es,f.Glyphs.map bi.Mark⟩) rfl fun σ w vs hw hh=>wH.vrs (a:=[.vec q 10 (es.map (fy (bG B.σ))),.vec q2 1 (jK (f.Glyphs.map bi.Mark))]) (b:=lB (bG B.σ) ⟨es,f.Glyphs.map bi.Mark⟩) ⟨fun v=>iM hw (hX0 _) (eK (A:=[_])) hBq,fun v=>iM hw (hX0 _) (List.perm_append_comm (l₁:=_::tok q 97 10 es.length)) hBq,trivial⟩ hh) ?_
   refine dc (L':=[_]) (List.Sublist.cons_cons _ (List.nil_sublist _)) ?_
   exact LT LA ⟨⟨⟨es,f.Glyphs.map bi.Mark⟩,eb,⟨hes,rfl,hau⟩,rfl,rfl⟩,Gc _ _,fun p hp=>by
    rw [List.mem_singleton] at hp
    subst hp
    exact ⟨_,_,rfl,Gb _ _⟩⟩
end Go.Proofs.YtpmdfoaadejmkaaGreatDoor
