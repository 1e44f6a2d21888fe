/-
  The law: an engine goes on as its font was, whatever becomes of that; what is told is another run.
-/
import Derived.Test.YtpmdfoaadejmkaaGreatDoorM35
import Derived.Test.YtpmdfoaadejmkaaGreatDoorM12
import Derived.Test.YtpmdfoaadejmkaaGreatDoorM13
import Derived.ShutString
import Derived.Below
import Derived.Deep.Slices
import Derived.Deep.SlicePairs
import Derived.Lib.SmallJoins
namespace Go.Proofs.YtpmdfoaadejmkaaGreatDoor
open Go.RowKit
attribute [local irreducible] AT br AX AO Av Kt b7 dm DA cA
theorem Ey {fr:bT} {B:Bs} {L:AL} {y:Operand} {q:Option gy} {run:List aR} (hq:dN q run) (i:Nat) (hy:bh fr y=some (ew q run)) (hL:∀m,q=some m→L[i]?=some (m.rb,.box (c7 run++m.junk) 67)):uO fr B L y 6 run.length (c7 run):=by
 cases q with
 | none=>
  have he:=hq.emp rfl
  subst he
  exact rP hy rfl
 | some m=>
  obtain ⟨h1,h2,h3⟩:=hq.fit m rfl
  have hfl:=d9 run
  have h:=rQ (B:=B) (sz:=6) i hy (hL m rfl) (by rw [List.length_append];omega)
  have e:((c7 run++m.junk).drop 0).take (run.length * 6)=c7 run:=by
   rw [List.drop_zero,mh run m.junk (Nat.le_refl _),List.take_length]
  rw [e] at h
  exact h
theorem BN {nt:Nat} {D:List Deferred} {B:Bs} {fr:bT} {L:AL} {t s b e:Nat} {cs:List AV} (i:Nat) (hl:ca fr t=some (.sc (.pointer (some ⟨b,0,none⟩)))) (hs:ca fr s=some (.sc (.pointer (some ⟨b,0,none⟩)))) (hL:L[i]?=some (b,.box cs e)) (hn:Nat.ble cs.length 1000000=true):jn nt D B fr L ((s,.iptr cs)::(t,.iptr cs)::fr) (L.eraseIdx i):=fun σ a w ha hw=>by
 obtain ⟨τ,h1,h2⟩:=s3 i hl hL hn σ a w ha hw
 refine ⟨τ,⟨h1.size,h1.defers,fun t' v' hl'=>?_⟩,h2⟩
 rw [bY] at hl'
 by_cases e':s=t'
 ·subst e'
  simp only [if_true,Option.some.injEq] at hl'
  subst hl'
  rw [(ha.look s _ hs).sc_inv,←(ha.look t _ hl).sc_inv]
  exact h1.look t _ (by rw [bY,if_pos rfl])
 ·rw [if_neg e'] at hl'
  exact h1.look t' v' hl'
theorem kU {p a:Nat×AB} {L:AL} (h:p∈L):p∈a::L:=Ls _ h
theorem r9 {S:Prop} {b:Bool} {v:Value} (h:gI S (.bool b) v):∃c,v= .bool c:=by
 rcases h with h | ⟨_,⟨_,_,_,e⟩,_⟩
 ·exact h
 ·cases e
set_option maxHeartbeats 64000000 in
theorem Ge (l run:List Int) (n:Int):AC Tryz.prog 6 [.imm 1 (aQ l),.imm 1 (aQ run),aI n] [ct] fun c L=>c=eo true∧L=[ct]:=by
 refine aS Tryz.func6 rfl Tryz.ntmps6 rfl fun B=>?_
 refine W01 ?_
 refine b9 [ct] [] Ex rfl rfl (Lm _) rfl fun c L1 ⟨hc,hL⟩=>?_
 subst hc;subst hL
 refine W01 ?_
 have hM:=G0 (l.take 300)
 have hnew:=G7 (pv (l.take 300)) hM.fontN.new (sP hM.right hM.acyc)
 refine xL 0 rfl (xF l) rfl rfl rfl fun σ1 τ v c0 L1 hc0 hv hτ=>?_
 subst hc0
 generalize pv (l.take 300)=f at hM hnew hv
 refine aE (aH (L':=L1++[(ct.1,gh σ1 ct.2)]) (List.Perm.of_eq rfl)) ?_
 obtain ⟨A1,k1,u2,A3,k3,u4,u5,u6,u7,u8,-,hT,hT2,r1,r3⟩:=BH hv
 refine aE (bA (t:=27) rfl hT) ?_
 repeat' (first|refine a9 ?_|refine a4 ?_|refine a6 ?_|refine a7 ?_|refine LG a5 KZ ?_|(apply aM;first|refine LI 8 a5 0 LF ?_|refine LI 8 a5 1 LF ?_|refine LI 8 a5 2 LF ?_|refine LI 21 a5 0 LF ?_|refine LI 21 a5 1 LF ?_|refine LI 21 a5 2 LF ?_|refine LH a5 0 LE ?_|refine LH a5 1 LE ?_|refine LH a5 2 LE ?_|refine LH a5 3 LE ?_|fail)|refine bf a5 fun _=>?_|fail)
 refine aE (bA (t:=29) rfl hT2) ?_
 refine xM (vs0:=[v]) ct.1 σ1 τ ct.2 hnew rfl (cS.cons (c6.agg (BS _ f) τ v hv) cS.nil) (List.mem_append_right _ (List.mem_cons_self ..)) (fun b off u hu=>(hτ b off u hu).imp id (List.mem_append_left _)) rfl fun σ2 c L2 ⟨E,eb,hE,hc,hL⟩=>?_
 subst hc;subst hL
 obtain ⟨L3,hL3,hturn⟩:=Bi (SB τ (bG σ1)) τ L1 [(eb,AB.box (lB (bG σ2) E) 86),(ct.1,gh σ1 ct.2)]
 refine aE (aH (L':=L1++[(eb,AB.box (lB (bG σ2) E) 86),(ct.1,gh σ1 ct.2)]) (List.perm_middle (l₁:=L1)).symm) ?_
 refine aE (hturn _ _ _ _) ?_
 refine aE (aH (L':=(eb,AB.box (lB (bG σ2) E) 86)::(ct.1,gh σ1 ct.2)::L3) List.perm_append_comm) ?_
 refine aE (BO 1 rfl) ?_
 refine aE (aH (L':=(eb,AB.box (lB (bG σ2) E) 86)::ct::L3) (Lm _)) ?_
 refine aE (bC 0 (cs':=eh E) rfl fun σ vs h=>(GK _ E).vrs h) ?_
 have hm:∀(b off:Nat) (u:Value),bG σ1 b→τ b off=some u→(b,AB.raw (gJ (SB τ (bG σ1)) τ b))∈L3:=fun b off u hq hu=>hL3 b ((hτ b off u hu).elim (fun h=>by rw [hq off] at h;cases h) id)
 clear hturn hL3 hτ hnew hv hT hT2
 have hok:=hM.fontN.eng hE
 have hgn:=hM.glyN
 have hln:=hM.looks.len
 have hrn:=hM.looks.few
 have hrg:=hM.looks.rule
 clear hM hE
 refine W2a ?_
 refine aE (BN (t:=40) (s:=9) (cs:=eh E) 0 rfl rfl rfl rfl) ?_
 refine aE (aH (L':=ct::L3) (Lm _)) ?_
 refine ce [1,2,7,8,9,10] (f.Lookups.length=0) rfl (fun Q' K=>?_) (fun hC=>?_) (fun hC=>?_)
 ·repeat' (first|fail)
  refine oQ Tryz.underlying34 rfl rfl rfl rfl ?_
  refine W2f ?_
  exact K _ _ rfl rfl (by simp)
 ·repeat' (first|refine a9 ?_|refine a4 ?_|refine LG a5 KZ ?_|refine LO KZ ?_)
  refine rp Tryz.underlying34 rfl rfl rfl rfl ?_
  refine W2j ?_
  refine dc (L':=[ct]) (List.Sublist.cons_cons _ (List.nil_sublist _)) ?_
  exact LM KZ ⟨rfl,rfl⟩
 refine W0e ?_
 refine oP rfl rfl rfl ?_
 repeat' (first|refine LG a5 KZ ?_)
 refine ci (yu rfl rfl (by omega)) rfl rfl ?_
 generalize (bits .and .i64 n 65535).tmod (f.Lookups.length:Int)=k
 have hit:=Dt run (f.Glyphs.length:Int) (by omega)
 have hw:=AI (f.Glyphs.length:Int) run
 generalize vN (f.Glyphs.length:Int) run=w at hit hw
 have hsame:∀w:List aR,w.length≤1000000→c5 Tryz.prog 17 [.imm 6 (w.map bS),.imm 6 (w.map bS)] (eo true):=fun w hw=>by
  have:=Er w w hw
  rw [decide_eq_true rfl] at this
  exact this
 haveI i1:=AD.mk hit
 haveI i2:=AD.mk (hsame w (by omega))
 have hap:=AC.args (sy hok k w (by omega) []) (a:=[.iptr (eh E),aI k,.imm 6 (w.map bS),.sc (.slice none 0 0)]) ⟨c6.refl _,c6.refl _,c6.refl _,c6.nil 1,trivial⟩
 have hXl:(dh E.ms E.ls k w []).length≤1000000:=(KE hok).len k w [] (by omega)
 generalize dh E.ms E.ls k w []=X at hap hXl
 haveI i3:=AD.mk (hsame X hXl)
 refine W1l ?_
 refine b9 [ct] L3 hap rfl rfl (Lm _) rfl fun c L4 ⟨q,hq,hc,hL⟩=>?_
 subst hc;subst hL
 repeat' (first|refine a9 ?_|refine a4 ?_|refine a6 ?_|refine a7 ?_|refine LG a5 KZ ?_|refine DY (d:=80) a5 rfl rfl fun _=>?_|(apply bw;refine bn ?_)|fail)
 refine jU a5 0 rfl rfl rfl rfl (Ey hq 1 rfl (fun m hm=>by subst hm;rfl)) rfl (Nat.zero_le _) (Nat.le_refl _) (Nat.zero_le _) (by unfold maxLen;omega) (by omega) rfl fun b' cs' cap' e1 e2 e3 e4 e5=>?_
 refine aE (jl (t:=82) (sz:=6) (n:=0+X.length) (cap:=cap') (l:=X.map bS) 0 rfl rfl (by rw [e2];rfl) (by omega) (fun e he=>by obtain ⟨z,_,rfl⟩:=List.mem_map.1 he;rfl) (by rw [Lu,Nat.zero_add]) (by omega) e4) ?_
 refine aE (aH (L':=jF q X++(ct::L3)) (by rw [show ct::L3=[ct]++L3 from rfl,←List.append_assoc];try exact Lm _)) ?_
 clear e1 e2 e3 e4 e5
 refine W01 ?_
 refine qz [1,8,9,11,12,14,15] (ct::L3) rfl (fun Q' K=>?_) ?_
 ·cases q with
  | none=>
   have he:=hq.emp rfl
   subst he
   repeat' (first|refine ai ?_)
   refine aN [1,8,9,11,12,13,14,15] (α:=Unit) (fun _=>[(16,aI 0)]) (fun _=>True) (fun _=>ct::L3) (fun _=>0) () rfl ⟨rfl,trivial⟩ trivial (fun _ _ h=>h) fun _ _=>?_
   try dsimp only [Lr,Lq,Lp,Li]
   refine W1J ?_
   exact K _ rfl
  | some m=>
   repeat' (first|refine ai ?_)
   refine aN [1,8,9,11,12,13,14,15] (α:=Nat×List aR) (fun s=>[(16,aI s.1)]) (fun s=>s.1≤X.length∧s.2.length=X.length) (fun s=>(m.rb,.box (c7 s.2++m.junk) 67)::ct::L3) (fun s=>X.length - s.1) (0,X) rfl ⟨rfl,trivial⟩ ⟨Nat.zero_le _,rfl⟩ (fun _ _ h=>h) ?_
   rintro ⟨j,Y⟩ ⟨hj,hYl⟩
   dsimp only at hj hYl ⊢
   obtain ⟨hc1,hc2,_⟩:=hq.fit m rfl
   try dsimp only [Lr,Lq,Lp,Li]
   refine W01 ?_
   refine ar rfl (fun h=>?_) (fun h=>?_)
   ·have hj2:j < X.length:=by have:=Lz h;omega
    clear h
    obtain ⟨y,hy⟩:∃z,Y[j]?=some z:=⟨_,Iy (by omega)⟩
    have hst:=jO (j:=0) { y with Glyph:=999 } (aI 999) m.junk hy (by omega) rfl
    have hfl:=d9 Y
    refine W0N ?_
    refine LU a5 0 LD (Nat.ble_eq_true_of_le (by rw [Int.toNat_natCast];simp;omega)) ?_
    rw [hst]
    refine W05 ?_
    exact aC (j+1,Y.set j { y with Glyph:=999 }) rfl ⟨by rw [Lv];rfl,trivial⟩ ⟨hj2,by dsimp only;rw [List.length_set];exact hYl⟩ (by dsimp only;omega) (fun _ _ h=>h)
   clear h hj
   refine W19 ?_
   refine bc (bP (L':=ct::L3) (List.sublist_cons_self ..)) ?_
   exact K _ rfl
 refine W1t ?_
 refine aN [8,9,11,12,14,15,17] (α:=Nat) (fun i=>[(18,aI i)]) (fun i=>i≤f.Glyphs.length) (fun _=>ct::L3) (fun i=>f.Glyphs.length - i) 0 rfl ⟨rfl,trivial⟩ (Nat.zero_le _) (fun _ _ h=>h) fun i hi=>?_
 try dsimp only [Lr,Lq,Lp,Li]
 refine W01 ?_
 refine ar rfl (fun h=>?_) (fun h=>?_)
 ·have hil:i < f.Glyphs.length:=by have:=Lz h;omega
  clear h
  obtain ⟨x,hx⟩:∃w0,f.Glyphs[i]?=some w0:=⟨_,Iy hil⟩
  obtain ⟨b1,cap1,us1,rfl,hv1,hq1,hl1,hu1,hc1⟩:=r1.2 i (bI x) hil (by rw [List.getElem?_map,hx];rfl)
  have hmk:=(hc1 2 _ (EH hu1)).1
  have hr1:=kU (a:=ct) (hm b1 _ _ hq1 hmk)
  refine W0K ?_
  refine bz 10 [(0,.v),(1,.v),(2,.v),(3,.v),(4,.v),(5,.v),(6,.v),(7,.v),(8,.e),(9,.v)] none ?_ trivial rfl (by kernel_rfl) (by kernel_rfl) (by kernel_rfl) bX (by kernel_rfl) rfl
  refine W0a ?_
  refine d8 a5 rfl rfl rfl (by omega) (by first | trivial | rfl) ?_
  refine W0a ?_
  refine yJ a5 rfl rfl hr1 hmk (by first | trivial | rfl) fun v' hv'=>?_
  obtain ⟨bb,rfl⟩:=r9 hv'
  refine W0a ?_
  refine LQ [8,9,11,12,14,15,17,18,108,109,116] KZ ?_
  refine W0X ?_
  refine jX a5 rfl rfl rfl rfl hr1 hmk (.inl ⟨_,rfl⟩) ?_
  refine W05 ?_
  exact aC (i+1) rfl ⟨by rw [Lv];rfl,trivial⟩ (by omega) (by omega) (fun _ _ h=>h)
 clear h hi
 refine W0w ?_
 refine aN [8,9,11,12,14,15,17] (α:=Nat) (fun i=>[(19,aI i)]) (fun i=>i≤f.Lookups.length) (fun _=>ct::L3) (fun i=>f.Lookups.length - i) 0 rfl ⟨rfl,trivial⟩ (Nat.zero_le _) (fun _ _ h=>h) fun i hi=>?_
 try dsimp only [Lr,Lq,Lp,Li]
 refine W01 ?_
 refine ar rfl (fun h=>?_) (fun h=>?_)
 ·have hil:i < f.Lookups.length:=by have:=Lz h;omega
  clear h
  obtain ⟨x,hx⟩:∃w0,f.Lookups[i]?=some w0:=⟨_,Iy hil⟩
  have hxm:=Lw hx
  have hx3:=hrn x hxm
  obtain ⟨b1,cap1,us1,rfl,hv1,hq1,hl1,hu1,hc1⟩:=r3.2 i (cU (bG σ1) x) hil (by rw [List.getElem?_map,hx];rfl)
  obtain ⟨R,dR,hg1,hg2,hRv,rR⟩:=BI hu1
  have hmk:=(hc1 1 _ hg1).1
  have hmr:=(hc1 2 _ hg2).1
  have hr1:=kU (a:=ct) (hm b1 _ _ hq1 hmk)
  have hS1:=B4 hv1 (fun e=>by rw [e] at hil;exact absurd hil (Nat.not_lt_zero _))
  refine W0K ?_
  refine bz 10 [(0,.v),(1,.v),(2,.v),(3,.v),(4,.v),(5,.v),(6,.v),(7,.v),(8,.e),(9,.v)] none ?_ trivial rfl (by kernel_rfl) (by kernel_rfl) (by kernel_rfl) bX (by kernel_rfl) rfl
  refine W0a ?_
  refine d8 a5 rfl rfl rfl (by omega) (by first | trivial | rfl) ?_
  refine W0a ?_
  refine yJ a5 rfl rfl hr1 hmk (by first | trivial | rfl) fun v' hv'=>?_
  obtain ⟨bb,rfl⟩:=r9 hv'
  refine W0a ?_
  refine LQ [8,9,11,12,14,15,17,19,127,128,135] KZ ?_
  refine W0X ?_
  refine jX a5 rfl rfl rfl rfl hr1 hmk (.inl ⟨_,rfl⟩) ?_
  refine W04 ?_
  refine aN [8,9,11,12,14,15,17,19] (α:=Nat) (fun k=>[(20,aI k)]) (fun k=>k≤x.Rules.length) (fun _=>ct::L3) (fun k=>x.Rules.length - k) 0 rfl ⟨rfl,trivial⟩ (Nat.zero_le _) (fun _ _ h=>h) fun k hk=>?_
  try dsimp only [Lr,Lq,Lp,Li]
  repeat' (first|refine a9 ?_|refine a4 ?_|refine LG a5 KZ ?_|(apply aL;first|refine aJ a5 ?_|refine aF a5 ?_)|fail)
  refine qb a5 rfl rfl hr1 hmr rfl fun v' hv'=>?_
  obtain rfl:v'= .slice R x.Rules.length dR:=hv'.not hS1
  clear hv'
  refine W0r ?_
  refine ar rfl (fun h=>?_) (fun h=>?_)
  ·have hkl:k < x.Rules.length:=by have:=Lz h;omega
   clear h
   obtain ⟨y,hy⟩:∃w0,x.Rules[k]?=some w0:=⟨_,Iy hkl⟩
   obtain ⟨b2,cap2,us2,rfl,hv2,hq2,hl2,hu2,hc2⟩:=rR.2 k (co (bG σ1) y) hkl (by rw [List.getElem?_map,hy];rfl)
   have hS2:SB τ (bG σ1) b2:=⟨x.Rules,_,_,fun e=>by rw [e] at hkl;exact absurd hkl (Nat.not_lt_zero _),hv2⟩
   have hr2:=kU (a:=ct) (hm b2 _ _ hq2 (hc2 0 _ (Iy (by omega))).1)
   obtain ⟨calls,hy1,_⟩:=hrg x hxm y (Lw hy)
   have hsets:∀s∈y.In,0 < s.length:=fun s hs=>List.length_pos_iff.2 (hy1.ins.2 s hs).ne
   have m1:=hy1.ins.1
   have m3:=hy1.outs.1
   have m4:=hy1.callsN
   clear hy1
   refine W0N ?_
   refine qb a5 rfl rfl hr1 hmr rfl fun v' hv'=>?_
   obtain rfl:v'= .slice (some ⟨b2,0,none⟩) x.Rules.length dR:=hv'.not hS1
   clear hv'
   refine W0X ?_
   refine DZ a5 us2 rfl rfl hr2 hl2 hc2 rfl fun vs hvs=>?_
   obtain ⟨z0,P1,d1,c1,z2,P3,d3,c3,P4,d4,c4,z5,rfl,p1,p3,p4⟩:=BJ hu2 hvs
   have n1:=p1.1
   have n3:=p3.1
   have n4:=p4.1
   rw [dI] at n1
   rw [aX] at n3
   rw [Lu] at n4
   repeat' (first|refine a9 ?_|refine a4 ?_|refine ai ?_|refine a6 ?_|refine a7 ?_|refine LG a5 KZ ?_|(apply aM;first|refine LI 8 a5 0 LF ?_|refine LI 8 a5 1 LF ?_|refine LI 8 a5 2 LF ?_|refine LI 21 a5 0 LF ?_|refine LI 21 a5 1 LF ?_|refine LI 21 a5 2 LF ?_|refine LH a5 0 LE ?_|refine LH a5 1 LE ?_|refine LH a5 2 LE ?_|refine LH a5 3 LE ?_|fail)|refine bf a5 fun _=>?_|fail)
   refine aN [8,9,11,12,14,15,17,19,20,21] (α:=Nat) (fun i=>[(22,aI i)]) (fun i=>i≤d3) (fun _=>ct::L3) (fun i=>d3 - i) 0 rfl ⟨rfl,trivial⟩ (Nat.zero_le _) (fun _ _ h=>h) fun j hj=>?_
   try dsimp only [Lr,Lq,Lp,Li]
   refine W01 ?_
   refine ar rfl (fun h=>?_) (fun h=>?_)
   ·have hjl:j < d3:=by have:=Lz h;omega
    clear h
    obtain ⟨t,ht⟩:∃t,y.Out[j]?=some t:=⟨_,Iy (by omega)⟩
    obtain ⟨b3,cap3,us3,rfl,hv3,hq3,hl3,hu3,hc3⟩:=p3.2 j [aI t] hjl (bW ht)
    have hz3:=(hc3 0 _ (zu hu3)).1
    have hr3:=kU (a:=ct) (hm b3 _ _ hq3 hz3)
    refine W0N ?_
    refine jX a5 rfl rfl rfl rfl hr3 hz3 (.inl ⟨_,rfl⟩) ?_
    refine W05 ?_
    exact aC (j+1) rfl ⟨by rw [Lv];rfl,trivial⟩ (by omega) (by omega) (fun _ _ h=>h)
   clear h hj
   refine W0w ?_
   refine aN [8,9,11,12,14,15,17,19,20,21] (α:=Nat) (fun i=>[(23,aI i)]) (fun i=>i≤d4) (fun _=>ct::L3) (fun i=>d4 - i) 0 rfl ⟨rfl,trivial⟩ (Nat.zero_le _) (fun _ _ h=>h) fun j hj=>?_
   try dsimp only [Lr,Lq,Lp,Li]
   refine W01 ?_
   refine ar rfl (fun h=>?_) (fun h=>?_)
   ·have hjl:j < d4:=by have:=Lz h;omega
    clear h
    obtain ⟨t,ht⟩:∃t,y.Calls[j]?=some t:=⟨_,Iy (by omega)⟩
    obtain ⟨b3,cap3,us3,rfl,hv3,hq3,hl3,hu3,hc3⟩:=p4.2 j (dC t) hjl (by rw [List.getElem?_map,ht];rfl)
    have hz3:=(hc3 1 _ (EG hu3)).1
    have hr3:=kU (a:=ct) (hm b3 _ _ hq3 hz3)
    refine W0N ?_
    refine jX a5 rfl rfl rfl rfl hr3 hz3 (.inl ⟨_,rfl⟩) ?_
    refine W05 ?_
    exact aC (j+1) rfl ⟨by rw [Lv];rfl,trivial⟩ (by omega) (by omega) (fun _ _ h=>h)
   clear h hj
   refine W0w ?_
   refine aN [8,9,11,12,14,15,17,19,20,21] (α:=Nat) (fun i=>[(24,aI i)]) (fun i=>i≤d1) (fun _=>ct::L3) (fun i=>d1 - i) 0 rfl ⟨rfl,trivial⟩ (Nat.zero_le _) (fun _ _ h=>h) fun j hj=>?_
   try dsimp only [Lr,Lq,Lp,Li]
   refine W01 ?_
   refine ar rfl (fun h=>?_) (fun h=>?_)
   ·have hjl:j < d1:=by have:=Lz h;omega
    clear h
    obtain ⟨s,hs⟩:∃t,y.In[j]?=some t:=⟨_,Iy (by omega)⟩
    obtain ⟨b3,cap3,us3,rfl,hv3,hq3,hl3,hu3,hc3⟩:=p1.2 j [.new (bG σ1) 1 (aQ s)] hjl (by unfold bF;rw [List.getElem?_map,hs];rfl)
    obtain ⟨S,dS,hs3,rS⟩:=GF hu3
    have hz3:=(hc3 0 _ hs3).1
    have hr3:=kU (a:=ct) (hm b3 _ _ hq3 hz3)
    have hS3:=G8 hv3 (fun e=>by rw [e] at hs;cases hs) hsets
    have hsl:=hsets s (Lw hs)
    obtain ⟨t,ht⟩:∃t,s[0]?=some t:=⟨_,Iy hsl⟩
    obtain ⟨b4,cap4,us4,rfl,hv4,hq4,hl4,hu4,hc4⟩:=rS.2 0 [aI t] hsl (bW ht)
    have hz4:=(hc4 0 _ (zu hu4)).1
    have hr4:=kU (a:=ct) (hm b4 _ _ hq4 hz4)
    refine W0N ?_
    refine qb a5 rfl rfl hr3 hz3 rfl fun v' hv'=>?_
    obtain rfl:v'= .slice (some ⟨b4,0,none⟩) s.length dS:=hv'.not hS3
    clear hv'
    refine W0z ?_
    refine jX a5 rfl rfl rfl rfl hr4 hz4 (.inl ⟨_,rfl⟩) ?_
    refine W05 ?_
    exact aC (j+1) rfl ⟨by rw [Lv];rfl,trivial⟩ (by omega) (by omega) (fun _ _ h=>h)
   clear h hj
   repeat' (first|refine a4 ?_|refine aP ?_|refine a6 ?_|refine aq ?_|refine ay ?_|refine au ?_|refine LG a5 KZ ?_|(apply aL;first|refine aJ a5 ?_|refine aF a5 ?_)|fail)
   refine qb a5 rfl rfl hr1 hmr rfl fun v' hv'=>?_
   obtain rfl:v'= .slice (some ⟨b2,0,none⟩) x.Rules.length dR:=hv'.not hS1
   clear hv'
   refine W0X ?_
   refine E0 a5 [.slice none 0 0,.slice none 0 0,.slice none 0 0,.slice none 0 0,.slice none 0 0,.int .i64 0] rfl rfl rfl rfl rfl rfl hr2 us2 hl2 hc2 (BX hS2 hu2) ?_
   refine W05 ?_
   exact aC (k+1) rfl ⟨by rw [Lv];rfl,trivial⟩ (by omega) (by omega) (fun _ _ h=>h)
  clear h hk
  refine W0y ?_
  exact aC (i+1) rfl ⟨by rw [Lv];rfl,trivial⟩ (by omega) (by omega) (fun _ _ h=>h)
 clear h hi
 repeat' (first|refine a9 ?_|refine a4 ?_|refine aP ?_|refine a6 ?_|refine aq ?_|refine ay ?_|refine au ?_|refine LG a5 KZ ?_|refine LO KZ ?_)
 refine b9 [ct] L3 hap rfl rfl (Lm _) rfl fun c L4 ⟨q2,hq2,hc,hL⟩=>?_
 subst hc;subst hL
 refine aE (aH (L':=jF q2 X++(ct::L3)) (by rw [show ct::L3=[ct]++L3 from rfl,←List.append_assoc];try exact Lm _)) ?_
 refine aE (oZ (t:=211) hq2 rfl) ?_
 refine W1B ?_
 refine dc (L':=[ct]) (List.Sublist.cons_cons _ (List.nil_sublist _)) ?_
 exact LM KZ ⟨rfl,rfl⟩
end Go.Proofs.YtpmdfoaadejmkaaGreatDoor
namespace Go.Proofs.YtpmdfoaadejmkaaGreatDoor
open Go.ChangeShapes Go.WideShapes Go.ChangeAt Go.RowKit Go.Deep Go.Joins
section
variable {H:Type} {enc:TypeId×Value→H} {P:Program} {W:World}
def Hi (enc:TypeId×Value→H) (P:Program) (W:World) (t:TypeId) {α:Type} (c:α→List AV):Prop:=
 ∀fuel cs x,DataW.trod enc P W 0 (fun _=>true) true fuel t cs=some x→∃a,cS (pN W) (c a) cs∧(∀u∈cs,u.oneCell'=true)∧∀u k,cs[0]?=some u→u≠ .int .u8 k
theorem E6 {t:TypeId} (ht:P.underlying t=some (.int .i64)):Hi enc P W t (fun z:Int=>[aI z]):=fun fuel cs x h=>by
 obtain ⟨z,rfl,-,-⟩:=DataW.trod_int ht h
 exact ⟨z,cS.cons (.sc _) cS.nil,by intro u hu;rw [Lj hu];rfl,fun u k hu=>by simp at hu;subst hu;simp⟩
theorem xT {t e:TypeId} {sz:Nat} {α:Type} [Inhabited α] {c:α→List AV} (hT:∀off u,W.cell? ⟨0,off,none⟩=some u→∃k,u= .int .u8 k) (ht:P.underlying t=some (.slice e)) (hs:P.cellsOf e=sz) (h0:0 < sz) (he:Hi enc P W e c) (hc:∀a,(c a).length=sz):
  Hi enc P W t (fun l:List α=>[.imm sz (l.map c)]):=fun fuel cs x h=>by
 rcases open_slice ht h with ⟨rfl,rfl⟩ | ⟨a,len,cap,m,n,D,Pl,rfl,_,hlc,hm,hmm,rfl,hx⟩
 ·exact ⟨[],cS.cons (jy sz (.sc _)) cS.nil,by intro u hu;rw [Lj hu];rfl,fun u k hu=>by simp at hu;subst hu;simp⟩
 have hmle:len≤m:=by rw [hmm];split <;> omega
 have each:∀i,i < len→∃q:α×List Value,W.cells? 0 (a.add (i * sz)) sz=some q.2∧cS (pN W) (c q.1) q.2∧(∀u∈q.2,u.oneCell'=true)∧∀u k,q.2[0]?=some u→u≠ .int .u8 k:=by
  intro i hi
  obtain ⟨cs',h1,h2⟩:=hx i (by omega)
  rw [hs] at h1
  obtain ⟨a',k1,k2,k3⟩:=he n cs' _ h2
  exact ⟨(a',cs'),h1,k1,k2,k3⟩
 obtain ⟨f,hf⟩:=choose_lt each
 refine ⟨(List.range len).map fun i=>(f i).1,cS.cons ?_ cS.nil,by intro u hu;rw [Lj hu];rfl,fun u k hu=>by simp at hu;subst hu;simp⟩
 have hll:(((List.range len).map fun i=>(f i).1).map c).length=len:=by simp
 have hcell:∀i,i < len→∀j,j < sz→W.cell? (a.add (i * sz+j))=(f i).2[j]?:=by
  intro i hi j hj
  have:=(World.cells?_some (hf i hi).1).2.2 j hj
  rw [add_add] at this
  exact this
 have hcl:∀i,i < len→(f i).2.length=sz:=fun i hi=>(World.cells?_some (hf i hi).1).2.1
 have hnone:0 < len→∃b off,a=⟨b,off,none⟩∧b≠0:=by
  intro hp
  have h1:=hcell 0 hp 0 h0
  have h2:=(hf 0 hp).2.2.2
  rw [Nat.zero_mul,Nat.zero_add,Iy (by rw [hcl 0 hp];exact h0)] at h1
  obtain ⟨b,off,sp⟩:=a
  have e:(⟨b,off,sp⟩:Addr).add 0=⟨b,off,sp⟩:=by simp [Addr.add]
  rw [e] at h1
  cases sp with
  | some s=>
   simp only [World.cell?] at h1
   split at h1
   ·simp at h1
   ·cases h1
  | none=>
   refine ⟨b,off,rfl,fun e=>?_⟩
   subst e
   obtain ⟨k,hk⟩:=hT off _ h1
   exact h2 _ k (Iy (by rw [hcl 0 hp];exact h0)) hk
 have hmem:∀b off,a=⟨b,off,none⟩→∀i,i < len→∀j,j < sz→pN W b (off+i * sz+j)=(f i).2[j]?:=by
  intro b off ha i hi j hj
  have:=hcell i hi j hj
  obtain ⟨b',off',ha',hb⟩:=hnone (by omega)
  rw [ha] at this
  have hb0:b≠0:=by
   rw [ha] at ha'
   injection ha' with e1 e2 e3
   rw [e1]
   exact hb
  unfold pN
  rw [if_neg hb0,←this]
  have e:(⟨b,off,none⟩:Addr).add (i * sz+j)=⟨b,off+(i * sz+j),none⟩:=by
   unfold Addr.add
   by_cases h:i * sz+j=0
   ·rw [if_pos h,h,Nat.add_zero]
   ·rw [if_neg h]
  rw [e,Nat.add_assoc]
 have hgo:=VR.imm (σ:=pN W) sz (((List.range len).map fun i=>(f i).1).map c) (some a) cap (by rw [hll];exact hlc) hm (fun e he=>by
   obtain ⟨y,_,rfl⟩:=List.mem_map.1 he
   exact hc y) (fun hne=>by
   have:0 < len:=by
    rcases Nat.eq_zero_or_pos len with h | h
    ·subst h;exact absurd rfl hne
    ·exact h
   obtain ⟨b,off,rfl,_⟩:=hnone this
   exact ⟨b,off,rfl⟩) (fun i b off j hA hi hj=>by
   rw [hll] at hi
   injection hA with hA
   have h1:=hmem b off hA i hi j hj
   have h2:j < (f i).2.length:=by rw [hcl i hi];exact hj
   rw [Iy h2] at h1
   exact ⟨_,h1,(hf i hi).2.2.1 _ (List.getElem_mem h2)⟩) (fun i e b off j c' u hi hA hj hu=>by
   injection hA with hA
   have hil:i < len:=by have:=(Ln hi).1;simpa using this
   rw [List.getElem?_map,List.getElem?_map,List.getElem?_range hil] at hi
   simp only [Option.map_some,Option.some.injEq] at hi
   subst hi
   have hjs:j < sz:=by rw [←hc (f i).1];exact (Ln hj).1
   rw [hmem b off hA i hil j hjs] at hu
   exact (hf i hil).2.1.2 j c' u hj hu)
 rw [hll] at hgo
 exact hgo
theorem BG (h:W.heap[0]?=some (.cells (l7.map (Value.int .u8)).toArray 364 (0,0))):∀off u,W.cell? ⟨0,off,none⟩=some u→∃k,u= .int .u8 k:=fun off u hu=>by
 rw [cX h,List.getElem?_toArray,List.getElem?_map] at hu
 cases hk:l7[off]? with
 | none=>rw [hk] at hu;cases hu
 | some k=>rw [hk] at hu;exact ⟨k,(Option.some.inj hu).symm⟩
set_option maxRecDepth 100000 in
theorem rA (hT:W.heap[0]?=some (.cells (l7.map (Value.int .u8)).toArray 364 (0,0))) {base:Nat} {v:Value} {d:DataW H} {p:List MemPlace} (hok:Value.okWide Tryz.prog W .any base 22 v) (h:DataW.Trod enc Tryz.prog W 0 (fun _=>true) true 22 v d p):∃l,VR (pN W) (.imm 1 (aQ l)) v:=by
 obtain ⟨a0,len,cap,rfl⟩:=okWide_slice Tryz.underlying22 hok
 obtain ⟨fuel,hf⟩:=h
 obtain ⟨l,h1,_⟩:=xT (enc:=enc) (BG hT) Tryz.underlying22 (by kernel_rfl) Nat.one_pos (E6 Tryz.underlying3) (fun _=>rfl) fuel [.slice a0 len cap] _ (by simpa [Value.cells] using hf)
 exact ⟨l,h1.2 0 _ _ rfl rfl⟩
end
end Go.Proofs.YtpmdfoaadejmkaaGreatDoor
