/-
  An automaton is built: the walk.
-/
import Derived.Test.YtpmdfoaadejmkaaGreatDoorM16
import Derived.Test.YtpmdfoaadejmkaaGreatDoorM13
import Derived.Test.YtpmdfoaadejmkaaGreatDoorM12
import Derived.Test.YtpmdfoaadejmkaaGreatDoorM05
import Derived.Test.YtpmdfoaadejmkaaGreatDoorM14
namespace Go.Proofs.YtpmdfoaadejmkaaGreatDoor
open Go.RowKit
attribute [local irreducible] AT bh AX AO Av Kt b6 di DA cC
structure pU (N : Nat) (r : aV) : Prop where
 back : ∀ s ∈ r.Back, ii s ∧ ∀ g ∈ s, 0 ≤ g ∧ g < (N : Int)
 in_ : ∀ s ∈ r.In, ii s ∧ ∀ g ∈ s, 0 ≤ g ∧ g < (N : Int)
 ahead : ∀ s ∈ r.Ahead, ii s ∧ ∀ g ∈ s, 0 ≤ g ∧ g < (N : Int)
 long : r.Back.length ≤ 200 ∧ r.In.length + r.Ahead.length ≤ 200
structure sQ (N : Nat) (l : aQ) : Prop where
 few : l.Rules.length ≤ 6
 rule : ∀ r ∈ l.Rules, pU N r
def cX (rs : List aV) : List (List Int) := rs.flatMap fun r => r.Back ++ r.In ++ r.Ahead
theorem u3 {rs : List aV} {k : Nat} {r : aV} (h : rs[k]? = some r) : cX (rs.take (k + 1)) = cX (rs.take k) ++ r.Back ++ r.In ++ r.Ahead := by
 unfold cX
 rw [List.take_add_one, h]
 simp
theorem mv {N : Nat} : ∀ {rs : List aV}, (∀ r ∈ rs, pU N r) → (cX rs).length ≤ 400 * rs.length
 | [], _ => by simp [cX]
 | r :: rs, h => by
  have ih := mv (rs := rs) fun x hx => h x (by simp [hx])
  have hr := (h r (by simp)).long
  unfold cX at ih ⊢
  rw [List.flatMap_cons, List.length_append, List.length_append, List.length_append, List.length_cons]
  omega
theorem oU {N : Nat} {rs : List aV} (h : ∀ r ∈ rs, pU N r) : ∀ s ∈ cX rs, ii s ∧ ∀ g ∈ s, 0 ≤ g ∧ g < (N : Int) := by
 intro s hs
 unfold cX at hs
 obtain ⟨r, hr, hs⟩ := List.mem_flatMap.1 hs
 rw [List.mem_append, List.mem_append] at hs
 rcases hs with (hs | hs) | hs
 ·exact (h r hr).back s hs
 ·exact (h r hr).in_ s hs
 ·exact (h r hr).ahead s hs
structure i8 where
 cls : List Int
 fore : List (List Int)
 back : List (List Int)
 foreE : List Nat
 backE : List Nat
def Cx (a : i8) : List AV := [.imm 1 (aT a.cls), .imm 1 (b8 a.fore), .imm 1 (b8 a.back), .imm 1 (eJ a.foreE), .imm 1 (eJ a.backE)]
structure sR (N : Nat) (rs : List aV) (a : i8) : Prop where
 cls : pV N (eM a.cls).toNat a.cls (cX rs)
 fore : nT a.cls (rs.map fun r => (lI r).1) (gQ lI rs) (eM a.cls).toNat a.fore a.foreE
 back : nT a.cls (rs.map fun r => (mB r).1) (gQ mB rs) (eM a.cls).toNat a.back a.backE
theorem iy (r : aV) : (cM r).length ≤ r.In.length + r.Ahead.length := by
 unfold cM
 split
 ·simp
 ·rw [List.length_append]; omega
theorem iz {r : aV} {s : List Int} (h : s ∈ cM r) : s ∈ r.In ∨ s ∈ r.Ahead := by
 unfold cM at h
 split at h
 ·cases h
 ·exact List.mem_append.1 h
section
variable {N : Nat} {l : aQ} (h : sQ N l) (hN0 : 0 < N) (hN : N ≤ 65536)
include h
theorem kr : ∀ s ∈ cX l.Rules, (∀ g ∈ s, 0 ≤ g ∧ g < (N : Int)) ∧ s.Nodup := fun s hs => ⟨(oU h.rule s hs).2, f0 (oU h.rule s hs).1⟩
include hN
theorem ne : (∀ z ∈ cR N (cX l.Rules), 0 ≤ z ∧ z ≤ 1000000) ∧ (cR N (cX l.Rules)).length = N ∧ (eM (cR N (cX l.Rules))).toNat ≤ 1000000 ∧ ∀ z ∈ cR N (cX l.Rules), 0 ≤ z ∧ z < ((eM (cR N (cX l.Rules))).toNat : Int) := by
 have h1 := oA N _ (kr h)
 refine ⟨fun z hz => by have := h1 z hz; omega, oB N _ (kr h), ?_, (qR N _ (kr h)).dom⟩
 have : eM (cR N (cX l.Rules)) ≤ (N : Int) := ov (by omega) fun z hz => (h1 z hz).2
 omega
theorem Bj : vw l.Rules (cR N (cX l.Rules)) := by
 obtain ⟨h1, h2, _, _⟩ := ne h hN
 exact ⟨h.few, h1, by omega, fun r hr => by have := (h.rule r hr).long; omega⟩
theorem yP : vx (ni lI l.Rules (cR N (cX l.Rules))) (gQ lI l.Rules) 200 := by
 obtain ⟨h1, h2, h3, h4⟩ := ne h hN
 refine ⟨⟨by show (l.Rules.map _).length ≤ 6; rw [Du]; exact h.few, h4, fun dr hrow s hs => ?_, fun dr hrow => ?_, h3, by show (cR N (cX l.Rules)).length ≤ _; omega⟩, by show bG _ _ = bG _ (l.Rules.map _).length; rw [Du], fun dr hrow => ?_, Nat.le_refl _⟩
 ·obtain ⟨r, hr, rfl⟩ := List.mem_map.1 hrow
  have hb := h.rule r hr
  have hsr : ii s ∧ ∀ g ∈ s, 0 ≤ g ∧ g < (N : Int) := by
   rcases iz hs with hs | hs
   ·exact hb.in_ s hs
   ·exact hb.ahead s hs
  refine ⟨fun g hg => ?_, ?_⟩
  ·show 0 ≤ g ∧ g < ((cR N (cX l.Rules)).length : Int)
   rw [h2]
   exact hsr.2 g hg
  ·have := dR (f0 hsr.1) hsr.2
   omega
 ·obtain ⟨r, hr, rfl⟩ := List.mem_map.1 hrow
  have := iy r
  have := (h.rule r hr).long
  show (cM r).length ≤ _
  omega
 ·obtain ⟨r, hr, rfl⟩ := List.mem_map.1 hrow
  have := iy r
  have := (h.rule r hr).long
  show (cM r).length ≤ _
  omega
theorem yd : vx (ni mB l.Rules (cR N (cX l.Rules))) (gQ mB l.Rules) 200 := by
 obtain ⟨h1, h2, h3, h4⟩ := ne h hN
 refine ⟨⟨by show (l.Rules.map _).length ≤ 6; rw [Du]; exact h.few, h4, fun dr hrow s hs => ?_, fun dr hrow => ?_, h3, by show (cR N (cX l.Rules)).length ≤ _; omega⟩, by show bG _ _ = bG _ (l.Rules.map _).length; rw [Du], fun dr hrow => ?_, Nat.le_refl _⟩
 ·obtain ⟨r, hr, rfl⟩ := List.mem_map.1 hrow
  have hsr := (h.rule r hr).back s hs
  refine ⟨fun g hg => ?_, ?_⟩
  ·show 0 ≤ g ∧ g < ((cR N (cX l.Rules)).length : Int)
   rw [h2]
   exact hsr.2 g hg
  ·have := dR (f0 hsr.1) hsr.2
   omega
 ·obtain ⟨r, hr, rfl⟩ := List.mem_map.1 hrow
  have := (h.rule r hr).long
  show r.Back.length ≤ _
  omega
 ·obtain ⟨r, hr, rfl⟩ := List.mem_map.1 hrow
  have := (h.rule r hr).long
  show r.Back.length ≤ _
  omega
end
set_option maxHeartbeats 8000000 in
theorem w6 (f : aN) (n : Nat) (l : aQ) (hl : f.Lookups[n]? = some l) (h : sQ f.Glyphs.length l) (hN0 : 0 < f.Glyphs.length) (hN : f.Glyphs.length ≤ 65536) : AC Tryz.prog 35 [cz f, aA n] [] fun c _ => ∃ a, sR f.Glyphs.length l.Rules a ∧ c = .tup [.agg (Cx a), aA 0] := by
 refine aC Tryz.func35 rfl Tryz.ntmps35 rfl fun B => ?_
 have hgl : (f.Glyphs.map c7).length = f.Glyphs.length := Du ..
 have hll : (f.Lookups.map bo).length = f.Lookups.length := Du ..
 have hrl : (l.Rules.map bI).length = l.Rules.length := Du ..
 have hnl := (Dp hl).1
 have hlg : (f.Lookups.map bo)[n]? = some (bo l) := by simp [hl]
 have hfew := h.few
 repeat' (first|refine a9 ?_|refine a4 ?_|refine a6 ?_|refine a7 ?_|refine a8 a5 rfl rfl ?_|refine am rfl rfl ?_|refine aZ ?_|refine b4 a5 fun _=>?_|fail)
 refine bH [1, 2, 4] False rfl (fun Q' K => ?_) (fun hC => hC.elim) (fun _ => ?_)
 ·repeat' (first|refine a7 ?_|refine a8 a5 rfl rfl ?_|refine am rfl rfl ?_|refine ax rfl rfl rfl rfl ?_|refine aI rfl rfl rfl (fun _ => ?_) (fun _ => ?_))
  all_goals exact K _ _ rfl rfl (by simp_all <;> omega)
 repeat' (first|refine a9 ?_|refine a4 ?_|refine ai ?_|refine a6 ?_|refine a7 ?_|refine a8 a5 rfl rfl ?_|(apply aF; first|refine aE a5 ?_|refine aB a5 ?_)|fail)
 rename_i r4 _
 have hpd := nN f.Glyphs.length hN0 hN (cX l.Rules) (oU h.rule) (by have := mv h.rule; omega)
 have hcls := qR f.Glyphs.length (cX l.Rules) (kr h)
 have hso := Bj h hN
 have hsf := oI _ _ _ (yP h hN) (.fnB 100 [.agg (rL l.Rules (cR f.Glyphs.length (cX l.Rules)))] []) (gD.fnB (f := 100) (fs := [.agg (rL l.Rules (cR f.Glyphs.length (cX l.Rules)))]) (caps := []) (wC hso))
 have hsb := oI _ _ _ (yd h hN) (.fnB 101 [.agg (rL l.Rules (cR f.Glyphs.length (cX l.Rules)))] []) (gD.fnB (f := 101) (fs := [.agg (rL l.Rules (cR f.Glyphs.length (cX l.Rules)))]) (caps := []) (w1 hso))
 refine ar rfl (fun h1 => ?_) (fun h1 => ?_)
 ·have := Dz h1
  omega
 clear h1
 repeat' (first|refine a9 ?_|refine a4 ?_|refine ak ?_|refine ai ?_|refine a6 ?_|refine a7 ?_|refine a8 a5 rfl rfl ?_)
 refine cY (bT (t := 7) (c' := .vec none 1 (b8 [])) rfl fun σ v h => eF 1 h) ?_
 refine aL [2, 4, 6, 49, 50] (α := Nat × Option (Nat × Nat)) (fun s => [(51, aA s.1), (7, .vec s.2 1 (b8 (cX (l.Rules.take s.1))))]) (fun s => s.1 ≤ l.Rules.length) (fun s => (r4, .box [.sc (.slice none 0 0), .sc (.slice none 0 0), .sc (.slice none 0 0), .sc (.slice none 0 0), .sc (.slice none 0 0)] 62) :: tok s.2 22 1 (cX (l.Rules.take s.1)).length) (fun s => l.Rules.length - s.1) (0, none) rfl ⟨rfl, rfl, trivial⟩ (Nat.zero_le _) (fun _ _ hh => hh) ?_
 ·rintro ⟨k, q⟩ hk
  dsimp only at hk ⊢
  try dsimp only [Ds, Dr, Dq, Dn]
  repeat' (first|refine a9 ?_|refine a4 ?_|refine a6 ?_|refine a7 ?_|refine a8 a5 rfl rfl ?_)
  refine ar rfl (fun h1 => ?_) (fun h1 => ?_)
  ·have hk2 : k < l.Rules.length := by have := Dz h1; omega
   obtain ⟨r, hr⟩ : ∃ z, l.Rules[k]? = some z := ⟨_, Bn hk2⟩
   have hrg : (l.Rules.map bI)[k]? = some (bI r) := by simp [hr]
   have hlong := (h.rule r (Dw hr)).long
   have hal := u3 hr
   have hlen : (cX (l.Rules.take k)).length ≤ 2400 := by
    have := mv (N := f.Glyphs.length) (rs := l.Rules.take k) fun x hx => h.rule x (List.mem_of_mem_take hx)
    rw [List.length_take] at this
    omega
   have hri : b8 (cX (l.Rules.take (k + 1))) = b8 (cX (l.Rules.take k)) ++ b8 r.Back ++ b8 r.In ++ b8 r.Ahead := by rw [hal]; simp [b8]
   have hrl0 := bS (cX (l.Rules.take k))
   have hrl1 := bS r.Back
   have hrl2 := bS r.In
   have hrl3 := bS r.Ahead
   have hln : (cX (l.Rules.take (k + 1))).length = (cX (l.Rules.take k)).length + r.Back.length + r.In.length + r.Ahead.length := by rw [hal, List.length_append, List.length_append, List.length_append]
   generalize b8 (cX (l.Rules.take k)) = A0 at *
   generalize (cX (l.Rules.take k)).length = n0 at *
   clear h1
   repeat' (first|refine a9 ?_|refine a4 ?_|refine ak ?_|refine ai ?_|refine a6 ?_|refine a7 ?_|refine a8 a5 rfl rfl ?_|(apply aF; first|refine aE a5 ?_|refine aB a5 ?_)|(apply aP; first|refine aa 9 a5 0 rfl rfl rfl rfl rfl rfl rfl rfl ?_|refine aa 9 a5 1 rfl rfl rfl rfl rfl rfl rfl rfl ?_|refine aa 9 a5 2 rfl rfl rfl rfl rfl rfl rfl rfl ?_|refine aa 10 a5 0 rfl rfl rfl rfl rfl rfl rfl rfl ?_|refine aa 10 a5 1 rfl rfl rfl rfl rfl rfl rfl rfl ?_|refine aa 10 a5 2 rfl rfl rfl rfl rfl rfl rfl rfl ?_|refine ad a5 0 rfl rfl rfl rfl rfl rfl rfl ?_|refine ad a5 1 rfl rfl rfl rfl rfl rfl rfl ?_|refine ad a5 2 rfl rfl rfl rfl rfl rfl rfl ?_|refine ad a5 3 rfl rfl rfl rfl rfl rfl rfl ?_|fail)|refine b4 a5 fun _=>?_|fail)
   refine cj a5 [(r4, .box [.sc (.slice none 0 0), .sc (.slice none 0 0), .sc (.slice none 0 0), .sc (.slice none 0 0), .sc (.slice none 0 0)] 62)] rfl rfl rfl rfl (by rw [hrl0]; exact List.perm_append_comm (l₁ := [_])) (by omega) (by omega) rfl fun q1 => ?_
   repeat' (first|refine a9 ?_|refine a4 ?_|refine a6 ?_|refine a7 ?_|refine a8 a5 rfl rfl ?_)
   refine cj a5 [(r4, .box [.sc (.slice none 0 0), .sc (.slice none 0 0), .sc (.slice none 0 0), .sc (.slice none 0 0), .sc (.slice none 0 0)] 62)] rfl rfl rfl rfl (Do _) (by rw [List.length_append]; omega) (by rw [List.length_append]; omega) rfl fun q2 => ?_
   repeat' (first|refine a4 ?_|refine a6 ?_|refine a7 ?_|refine a8 a5 rfl rfl ?_)
   refine cj a5 [(r4, .box [.sc (.slice none 0 0), .sc (.slice none 0 0), .sc (.slice none 0 0), .sc (.slice none 0 0), .sc (.slice none 0 0)] 62)] rfl rfl rfl rfl (Do _) (by rw [List.length_append, List.length_append]; omega) (by rw [List.length_append, List.length_append]; omega) rfl fun q3 => ?_
   repeat' (first|refine a4 ?_|refine a6 ?_|refine aH ?_|refine a7 ?_|refine a8 a5 rfl rfl ?_|(apply aU; refine aS ?_)|fail)
   refine az (k + 1, q3) rfl ⟨by rw [Dv]; rfl, by dsimp only; rw [hri]; rfl, trivial⟩ hk2 (by dsimp only; omega) (fun σ w hh => ?_)
   have h2 := hh.perm (List.perm_append_comm (l₂ := [_]))
   have h3 : (A0 ++ b8 r.Back ++ b8 r.In ++ b8 r.Ahead).length = (cX (l.Rules.take (k + 1))).length := by rw [hln, List.length_append, List.length_append, List.length_append]; omega
   rw [h3] at h2
   exact h2
  ·have hk2 : k = l.Rules.length := by have := Dy h1; omega
   subst hk2
   rw [List.take_length]
   haveI : AD Tryz.prog 98 [aA ((f.Glyphs.map c7).length : Nat), .imm 1 (b8 (cX l.Rules))] (.imm 1 (aT (cR f.Glyphs.length (cX l.Rules)))) := ⟨by rw [hgl]; exact hpd⟩
   clear h1
   repeat' (first|refine a9 ?_|refine a4 ?_|refine aM ?_|refine a6 ?_|refine au ?_|refine aw ?_|refine av ?_|refine a7 ?_|refine a8 a5 rfl rfl ?_|(apply aP; first|refine aa 9 a5 0 rfl rfl rfl rfl rfl rfl rfl rfl ?_|refine aa 9 a5 1 rfl rfl rfl rfl rfl rfl rfl rfl ?_|refine aa 9 a5 2 rfl rfl rfl rfl rfl rfl rfl rfl ?_|refine aa 10 a5 0 rfl rfl rfl rfl rfl rfl rfl rfl ?_|refine aa 10 a5 1 rfl rfl rfl rfl rfl rfl rfl rfl ?_|refine aa 10 a5 2 rfl rfl rfl rfl rfl rfl rfl rfl ?_|refine ad a5 0 rfl rfl rfl rfl rfl rfl rfl ?_|refine ad a5 1 rfl rfl rfl rfl rfl rfl rfl ?_|refine ad a5 2 rfl rfl rfl rfl rfl rfl rfl ?_|refine ad a5 3 rfl rfl rfl rfl rfl rfl rfl ?_|fail)|refine b4 a5 fun _=>?_|(apply bc;refine b7 ?_)|fail)
   refine aO [] _ hsf rfl rfl (Do _) rfl fun c1 L1 ⟨ft, fe, hf1, hc1⟩ => ?_
   subst hc1
   refine aR (cf (List.sublist_append_right ..)) ?_
   repeat' (first|refine a9 ?_|refine a4 ?_|refine ai ?_|refine a6 ?_|refine a7 ?_|refine a8 a5 rfl rfl ?_|refine bC rfl ?_)
   refine aO [] _ hsb rfl rfl (Do _) rfl fun c1 L1 ⟨bt, be, hb1, hc1⟩ => ?_
   subst hc1
   refine aR (cf (List.sublist_append_right ..)) ?_
   repeat' (first|refine a9 ?_|refine a4 ?_|refine ai ?_|refine ah ?_|refine a6 ?_|refine a7 ?_|refine a8 a5 rfl rfl ?_|(apply aP; first|refine aa 9 a5 0 rfl rfl rfl rfl rfl rfl rfl rfl ?_|refine aa 9 a5 1 rfl rfl rfl rfl rfl rfl rfl rfl ?_|refine aa 9 a5 2 rfl rfl rfl rfl rfl rfl rfl rfl ?_|refine aa 10 a5 0 rfl rfl rfl rfl rfl rfl rfl rfl ?_|refine aa 10 a5 1 rfl rfl rfl rfl rfl rfl rfl rfl ?_|refine aa 10 a5 2 rfl rfl rfl rfl rfl rfl rfl rfl ?_|refine ad a5 0 rfl rfl rfl rfl rfl rfl rfl ?_|refine ad a5 1 rfl rfl rfl rfl rfl rfl rfl ?_|refine ad a5 2 rfl rfl rfl rfl rfl rfl rfl ?_|refine ad a5 3 rfl rfl rfl rfl rfl rfl rfl ?_|fail)|refine bC rfl ?_)
   exact fi (cs := [.agg (Cx ⟨cR f.Glyphs.length (cX l.Rules), ft, bt, fe, be⟩), aA 0]) [] ⟨⟨_, 0, _, _, rfl, rfl, .inr ⟨dE a5 rfl, rfl⟩⟩, rfl, trivial⟩ (List.nil_sublist _) ⟨⟨cR f.Glyphs.length (cX l.Rules), ft, bt, fe, be⟩, ⟨hcls, hf1, hb1⟩, rfl⟩
end Go.Proofs.YtpmdfoaadejmkaaGreatDoor
namespace Go.Proofs.YtpmdfoaadejmkaaGreatDoor
open Go.RowKit
section
variable {P : Program} {fr : bw} {B : Bs} {L : AL} {ty t t' : TypeId} {pos : String} {af : Array Edge} {g : Option (Nat × Bool)} {x y z q : Operand} {u : AV}
theorem xW {d : Option Tmp} {s e sz by_ hi : Nat} {l : List (List AV)} {k k' : IntKind} {a b : Int} (hc : jf P t e sz by_) (hx : aX fr x = some u) (hu : i6 u = some (s, l)) (hs : Nat.beq s sz = true) (hy : aX fr y = some (.sc (.int k a))) (hz : aX fr z = some (.sc (.int k' b))) (ha : a = (hi : Int)) (hb : b = (hi : Int)) (h : hi ≤ l.length) : Av P ⟨d, .slice t x none (some y) (some z), ty, pos, af, g⟩ fr (.imm s (l.take hi)) := by
 intro σ ρ w hρ _
 subst ha hb
 rw [Nat.beq_eq] at hs
 subst hs
 have h1 := (hρ x u hx).im
 rw [cP hu] at h1
 obtain ⟨A, cap, hv, hcap, _⟩ := h1.imm_inv
 rw [hv] at h1
 have hvr := h1.cut (lo := 0) (hi := hi) (m := hi) (Nat.zero_le _) h (Nat.le_refl _) (by omega)
 haveI := hc
 simp only [List.drop_zero, Nat.sub_zero, Nat.zero_mul] at hvr
 refine ⟨_, ?_, hvr⟩
 have h4 : hi ≤ cap := by omega
 simp [execOp, hv, (hρ y _ hy).sc_inv, (hρ z _ hz).sc_inv, Instr.sliceAt, Instr.slice, Instr.sliceBounds, Instr.sliceBound, asIntOf, run_underlying hc.under, cq (t := t), h4]
end
section
variable {P : Program} {tt : TT} {l : List Oper} {fr : bw} {fin : jn} {sk : lm} {acc : bw} {L : AL} {k : Nat} {dd : Option Tmp} {ty t : TypeId} {pos : String} {af : Array Edge} {g : Option (Nat × Bool)} {x y z : Operand} {u : AV}
theorem ym (ok : dl P tt) (hi : Nat) {s e sz by_ : Nat} {ll : List (List AV)} {q q' : IntKind} {a b : Int} (ht : iJ tt t = some (e, sz, by_)) (hx : aX (cl l.toArray acc fr af.toList) x = some u) (hu : i6 u = some (s, ll)) (hs : Nat.beq s sz = true) (hy : aX (cl l.toArray acc fr af.toList) y = some (.sc (.int q a))) (hz : aX (cl l.toArray acc fr af.toList) z = some (.sc (.int q' b))) (ha : a = (hi : Int)) (hb : b = (hi : Int)) (h1 : hi ≤ ll.length) (hg : iQ ⟨dd, .slice t x none (some y) (some z), ty, pos, af, g⟩ acc) (h : DA P l fr fin sk ((k, .imm s (ll.take hi)) :: acc) L) :
  cC P l fr fin k .v ⟨dd, .slice t x none (some y) (some z), ty, pos, af, g⟩ sk acc L := eR hg (z1 (xW (b9 ok ht).1 hx hu hs hy hz ha hb h1)) h
end
end Go.Proofs.YtpmdfoaadejmkaaGreatDoor
namespace Go.Proofs.YtpmdfoaadejmkaaGreatDoor
open Go.RowKit
attribute [local irreducible] AT bh AX AO Av Kt b6 di DA cC
theorem s9 (l : List Int) (z : Int) : bn Tryz.prog 190 [.imm 1 (aT l), aA z] (aA (if z ∈ l then (l.idxOf z : Nat) else -1)) := by
 refine aC Tryz.func190 rfl Tryz.ntmps190 rfl fun B => ?_
 refine ci 0 rfl rfl fun hlen => ?_
 have hll := aW l
 rw [hll] at hlen
 repeat' (first|refine a9 ?_|refine a4 ?_|refine ak ?_|refine a6 ?_|refine a7 ?_|refine a8 a5 rfl rfl ?_)
 refine aL [0, 1, 7] (α := Nat) (fun i => [(8, aA i)]) (fun i => i ≤ l.length ∧ z ∉ l.take i) (fun _ => []) (fun i => l.length - i) 0 rfl ⟨rfl, trivial⟩ ⟨Nat.zero_le _, by simp⟩ (fun _ _ h => h) fun i hi => ?_
 try dsimp only [Ds, Dr, Dq, Dn]
 repeat' (first|refine a9 ?_|refine a4 ?_|refine a6 ?_|refine a7 ?_|refine a8 a5 rfl rfl ?_)
 refine ar rfl (fun h => ?_) (fun h => ?_)
 ·have hil : i < l.length := by have := Dz h; omega
  obtain ⟨y, hy⟩ : ∃ z, l[i]? = some z := ⟨_, Bn hil⟩
  have hzg := bJ hy
  have htk : l.take (i + 1) = l.take i ++ [y] := by rw [List.take_add_one, hy]; rfl
  clear h
  repeat' (first|refine a9 ?_|refine a4 ?_|refine ak ?_|refine ai ?_|refine a6 ?_|refine a7 ?_|refine a8 a5 rfl rfl ?_|(apply aF; first|refine aE a5 ?_|refine aB a5 ?_)|fail)
  refine ar rfl (fun h2 => ?_) (fun h2 => ?_)
  ·have h2' := Dz h2
   subst h2'
   repeat' (first|refine a9 ?_|refine a4 ?_|refine ah ?_|refine a6 ?_|refine aq ?_|refine aJ ?_|refine bf ?_|refine a7 ?_|refine a8 a5 rfl rfl ?_)
   refine an rfl rfl ?_
   have hm := Dw hy
   have : l.idxOf z = i := by
    have e : l = l.take i ++ z :: l.drop (i + 1) := by
     conv => lhs; rw [← List.take_append_drop i l, List.drop_eq_getElem_cons hil, (Dp hy).2]
    rw [e, List.idxOf_append, if_neg hi.2, List.idxOf_cons_self, List.length_take]
    omega
   rw [if_pos hm, this]
  ·have h2' := Dy h2
   repeat' (first|refine a4 ?_|refine ai ?_|refine a6 ?_|refine aH ?_|refine a7 ?_|refine a8 a5 rfl rfl ?_|(apply aU; refine aS ?_)|fail)
   exact az (i + 1) rfl ⟨by rw [Dv]; rfl, trivial⟩ ⟨by omega, by rw [htk]; simp [hi.2]; exact h2'⟩ (by omega) (fun _ _ h => h)
 ·have hil : i = l.length := by have := Dy h; omega
  subst hil
  rw [List.take_length] at hi
  repeat' (first|refine a9 ?_|refine a4 ?_|refine ah ?_|refine aM ?_|refine a6 ?_|refine au ?_|refine aw ?_|refine av ?_|refine a7 ?_|refine a8 a5 rfl rfl ?_)
  refine an rfl rfl ?_
  rw [if_neg hi.2]
instance (l : List Int) (z : Int) : AD Tryz.prog 190 [.imm 1 (aT l), aA z] (aA (if z ∈ l then (l.idxOf z : Nat) else -1)) := ⟨s9 l z⟩
theorem nJ (l : List Int) (z : Int) : bn Tryz.prog 187 [.imm 1 (aT l), aA z] (dx (l.contains z)) := by
 refine aC Tryz.func187 rfl Tryz.ntmps187 rfl fun B => ?_
 repeat' (first|refine a9 ?_|refine a4 ?_|refine ah ?_|refine a6 ?_|refine a7 ?_|refine a8 a5 rfl rfl ?_|(apply bc;refine b7 ?_)|fail)
 refine an rfl rfl ?_
 congr 2
 by_cases h : z ∈ l
 ·rw [if_pos h, decide_eq_true (by omega)]; simp [h]
 ·rw [if_neg h, decide_eq_false (by omega)]; simp [h]
instance (l : List Int) (z : Int) : AD Tryz.prog 187 [.imm 1 (aT l), aA z] (dx (l.contains z)) := ⟨nJ l z⟩
structure i9 (e : m9) : Prop where
 few : e.l.Rules.length ≤ 6
 ends : oQ e
 fore : ∀ gl, eh e.cls e.fore e.foreE gl = bG (dt (e.l.Rules.map cM) (of e.l.Rules) gl) (e.l.Rules.map cM).length
 back : ∀ gl, eh e.cls e.back e.backE gl = bG (dt (e.l.Rules.map aV.Back) (fun _ => true) gl) (e.l.Rules.map aV.Back).length
 long : ee e.l.Rules ≤ 1000000 ∧ fy e.l.Rules ≤ 1000000
section
variable {e : m9} (h : i9 e)
include h
theorem i9.lt (bg fg : List Int) : eh e.cls e.back e.backE bg &&& eh e.cls e.fore e.foreE fg < 64 := by
 have h1 := Nat.and_le_right (n := eh e.cls e.back e.backE bg) (m := eh e.cls e.fore e.foreE fg)
 have h2 := jQ (dt (e.l.Rules.map cM) (of e.l.Rules) fg) (e.l.Rules.map cM).length
 rw [← h.fore fg, Du] at h2
 have h3 : 2 ^ e.l.Rules.length ≤ 2 ^ 6 := Nat.pow_le_pow_right (by omega) h.few
 have : (2 : Nat) ^ 6 = 64 := rfl
 omega
theorem i9.first (ms : List Bool) (run : List aG) (i : Nat) : oY (eh e.cls e.back e.backE (((jP ms e.l.Ignore run i).take (fy e.l.Rules)).map (ev run)) &&& eh e.cls e.fore e.foreE (((dm ms e.l.Ignore run i).take (ee e.l.Rules)).map (ev run))) = match e.l.Rules.findIdx? (dS ms e.l.Ignore run i) with
  | some n => (n : Int)
  | none => -1 := by
 have hlt := h.lt (((jP ms e.l.Ignore run i).take (fy e.l.Rules)).map (ev run)) (((dm ms e.l.Ignore run i).take (ee e.l.Rules)).map (ev run))
 rw [h.fore, h.back] at hlt ⊢
 have ht := rV (ms := ms) (ig := e.l.Ignore) (run := run) (i := i) (rs := e.l.Rules) fun n => ud (rs := e.l.Rules) (n := n)
 generalize (bG (dt (e.l.Rules.map aV.Back) _ _) _ &&& _) = b at ht hlt ⊢
 obtain ⟨k1, k2⟩ := se (q := dS ms e.l.Ignore run i) (l := e.l.Rules) ht
 unfold oY
 cases hf : e.l.Rules.findIdx? (dS ms e.l.Ignore run i) with
 | none => rw [k2 hf]; rfl
 | some n =>
  obtain ⟨k3, k4⟩ := k1 n hf
  have hn := (List.findIdx?_eq_some_iff_getElem.1 hf).1
  have hf := h.few
  rw [if_neg (fun e => by rw [e, Nat.zero_testBit] at k3; cases k3)]
  exact xL b hlt n (by omega) k3 k4
end
theorem qB : ∀ {ss : List (List Int)} {gl : List Int}, dB ss gl = true → ss.length ≤ gl.length
 | [], _, _ => Nat.zero_le _
 | _ :: _, [], h => by cases h
 | _ :: ss, _ :: gl, h => by
  rw [dB, Bool.and_eq_true] at h
  have := qB h.2
  simp; omega
theorem lV {ms : List Bool} {ig : Bool} {run : List aG} {i : Nat} {r : aV} (h : dS ms ig run i r = true) : 0 < r.In.length ∧ r.In.length ≤ (dm ms ig run i).length := by
 unfold dS at h
 rw [Bool.and_eq_true, Bool.and_eq_true] at h
 have h1 := qB h.2.1
 rw [List.length_append, Du] at h1
 constructor
 ·have := h.1
  cases hr : r.In with
  | nil => rw [hr] at this; cases this
  | cons a b => simp
 ·omega
theorem wL {rs : List aV} {r : aV} (h : r ∈ rs) : r.In.length ≤ ee rs := by
 have := (jZ (g := fun r : aV => r.In.length + r.Ahead.length) (m := 0)).2 r h
 unfold ee
 omega
theorem xu {ms : List Bool} {ig : Bool} {run : List aG} {i : Nat} : fN ms ig run true (i : Int) = dm ms ig run i := by
 unfold fN
 rw [if_pos rfl, Int.toNat_natCast]
theorem sF {ms : List Bool} {ig : Bool} {run : List aG} {i : Nat} : fN ms ig run false ((i : Int) - 1) = jP ms ig run i := by
 unfold fN
 simp only [Bool.false_eq_true, if_false]
 rw [show ((i : Int) - 1 + 1).toNat = i by omega]
def iD (E : ma) (l : aQ) (run : List aG) (i : Nat) (forms : List Int) : AV := match du E.ms l run i forms with
 | none => .tup [CG, .sc (.slice none 0 0)]
 | some r => .tup [.iptr (bI (dw r)), .imm 1 (cF (cO E.ms l run i r))]
abbrev gb (wb : Nat) (E : ma) (q : Option eo) (run : List aG) : AL := rm wb (.iptr (da E)) q run ++ [cr]
set_option maxHeartbeats 4000000 in
theorem n4 (E : ma) (e : m9) (he : i9 e) (wb : Nat) (q : Option eo) (run : List aG) (hq : cT q run) (hr : run.length ≤ 1000000) (i : Nat) (hi0 : i ≤ 1000000) (forms : List Int) : AC Tryz.prog 102 [ek wb, .iptr (dO e), aA i, .imm 1 (aT forms)] (gb wb E q run) fun c L => c = iD E e.l run i forms ∧ L = gb wb E q run := by
 refine aC Tryz.func102 rfl Tryz.ntmps102 rfl fun B => ?_
 have hfl := aW forms
 refine ci 3 rfl rfl fun hlen => ?_
 by_cases hi : i < run.length
 ·obtain ⟨m, rfl⟩ := hq.lt hi
  obtain ⟨x, hx⟩ : ∃ x, run[i]? = some x := ⟨_, Bn hi⟩
  have hse := pI E e wb m run i x hx
  repeat' (first|refine a9 ?_|refine a4 ?_|refine a6 ?_|refine a7 ?_|refine a8 a5 rfl rfl ?_|refine am rfl rfl ?_|(apply bE; first|refine aj a5 0 rfl rfl rfl rfl rfl ?_|refine aj a5 1 rfl rfl rfl rfl rfl ?_|refine aj a5 2 rfl rfl rfl rfl rfl ?_|refine aj a5 3 rfl rfl rfl rfl rfl ?_|refine ay a5 0 rfl rfl rfl rfl rfl ?_|refine ay a5 1 rfl rfl rfl rfl rfl ?_|refine ay a5 2 rfl rfl rfl rfl rfl ?_|refine aj a5 1 rfl rfl rfl (by assumption) rfl ?_|refine aj a5 0 rfl rfl rfl (by assumption) rfl ?_|fail)|fail)
  refine bH [0, 1, 2, 3] (lW E.ms e.l.Ignore x = false) rfl (fun Q' K => ?_) (fun hC => ?_) (fun hC => ?_)
  ·repeat' (first|refine a7 ?_|refine a8 a5 rfl rfl ?_|refine am rfl rfl ?_|refine ax rfl rfl rfl rfl ?_|refine aI rfl rfl rfl (fun _ => ?_) (fun _ => ?_))
   ·refine aO (rm wb (.iptr (da E)) (some m) run) [cr] hse rfl rfl (Do _) rfl fun c L1 ⟨hc, hL⟩ => ?_
    subst hc; subst hL
    repeat' (first|refine a7 ?_|refine a8 a5 rfl rfl ?_|refine am rfl rfl ?_)
    exact K _ _ rfl rfl (by simp)
   ·rename_i hx2
    have := Dz hx2
    omega
  ·have hm : du E.ms e.l run i forms = none := by
    unfold du
    rw [if_neg]
    unfold jr
    rw [hx]
    dsimp only
    rw [hC]
    simp
   unfold iD
   rw [hm]
   repeat' (first|refine a9 ?_|refine a4 ?_|refine ah ?_|refine a6 ?_|refine aq ?_|refine a7 ?_|refine a8 a5 rfl rfl ?_)
   exact aK rfl rfl rfl ⟨rfl, rfl⟩
  have hC : lW E.ms e.l.Ignore x = true := by simpa using hC
  have h2 := lH (j := 2) m.junk hx rfl
  repeat' (first|refine a9 ?_|refine a4 ?_|refine ai ?_|refine a6 ?_|refine a8 a5 rfl rfl ?_)
  refine bH [0, 1, 2] (forms ≠ [] ∧ forms.contains x.Form = false) rfl (fun Q' K => ?_) (fun hC2 => ?_) (fun hC2 => ?_)
  ·repeat' (first|refine a7 ?_|refine a8 a5 rfl rfl ?_|refine am rfl rfl ?_|refine ax rfl rfl rfl rfl ?_|(apply bE; first|refine aj a5 0 rfl rfl rfl rfl rfl ?_|refine aj a5 1 rfl rfl rfl rfl rfl ?_|refine aj a5 2 rfl rfl rfl rfl rfl ?_|refine aj a5 3 rfl rfl rfl rfl rfl ?_|refine ay a5 0 rfl rfl rfl rfl rfl ?_|refine ay a5 1 rfl rfl rfl rfl rfl ?_|refine ay a5 2 rfl rfl rfl rfl rfl ?_|refine aj a5 1 rfl rfl rfl (by assumption) rfl ?_|refine aj a5 0 rfl rfl rfl (by assumption) rfl ?_|fail)|(apply aF; first|refine aE a5 ?_|refine aB a5 ?_)|(apply bc;refine b7 ?_)|refine aI rfl rfl rfl (fun _ => ?_) (fun _ => ?_))
   all_goals exact K _ _ rfl rfl (by cases forms <;> simp_all)
  ·have hm : du E.ms e.l run i forms = none := by
    unfold du
    rw [if_neg]
    unfold jr
    rw [hx]
    dsimp only
    rw [hC2.2]
    cases forms with
    | nil => exact absurd rfl hC2.1
    | cons a b => simp
   unfold iD
   rw [hm]
   repeat' (first|refine a9 ?_|refine a4 ?_|refine ah ?_|refine a6 ?_|refine aq ?_|refine a7 ?_|refine a8 a5 rfl rfl ?_)
   exact aK rfl rfl rfl ⟨rfl, rfl⟩
  have hbe : jr E.ms e.l.Ignore run i forms = true := by
   unfold jr
   rw [hx]
   dsimp only
   rw [hC]
   cases forms with
   | nil => rfl
   | cons a b => cases hcc : (a :: b).contains x.Form with
    | true => rfl
    | false => exact absurd ⟨by simp, hcc⟩ hC2
  have hmv : du E.ms e.l run i forms = e.l.Rules.find? (dS E.ms e.l.Ignore run i) := by
   unfold du
   rw [if_pos hbe]
  have s1 := tO E e wb (some m) run hq hr true i ⟨by omega, fun _ => by omega, fun h => by cases h⟩ (by omega) (ee e.l.Rules)
  have s2 := tO E e wb (some m) run hq hr false ((i : Int) - 1) ⟨by omega, fun h => (by cases h), fun _ => by omega⟩ (by omega) (fy e.l.Rules)
  rw [xu] at s1
  rw [sF] at s2
  have hfirst := he.first E.ms run i
  repeat' (first|refine a9 ?_|refine a4 ?_|refine ai ?_|refine a6 ?_|refine a8 a5 rfl rfl ?_)
  refine aO (rm wb (.iptr (da E)) (some m) run) [cr] s1 rfl rfl (Do _) rfl fun c L1 ⟨hc, hL⟩ => ?_
  subst hc; subst hL
  repeat' (first|refine a9 ?_|refine a4 ?_|refine a6 ?_|refine a7 ?_|refine a8 a5 rfl rfl ?_|(apply aU; refine aS ?_)|fail)
  refine aO (rm wb (.iptr (da E)) (some m) run) [cr] s2 rfl rfl (Do _) rfl fun c L1 ⟨hc, hL⟩ => ?_
  subst hc; subst hL
  repeat' (first|refine a9 ?_|refine a4 ?_|refine a6 ?_|refine a7 ?_|refine a8 a5 rfl rfl ?_)
  refine aO [cr] (rm wb (.iptr (da E)) (some m) run) (tZ e he.ends _ _ (he.lt _ _)) rfl rfl List.perm_append_comm rfl fun c L1 ⟨hc, hL⟩ => ?_
  subst hc; subst hL
  refine aR (aY (L' := gb wb E (some m) run) List.perm_append_comm) ?_
  rw [hfirst]
  unfold iD
  rw [hmv, wt]
  cases hfi : e.l.Rules.findIdx? (dS E.ms e.l.Ignore run i) with
  | none =>
   dsimp only [Option.bind_none]
   repeat' (first|refine a9 ?_|refine a4 ?_|refine ah ?_|refine a6 ?_|refine aq ?_|refine a7 ?_|refine a8 a5 rfl rfl ?_|refine bv rfl ?_)
   exact aK rfl rfl rfl ⟨rfl, rfl⟩
  | some n =>
   obtain ⟨hn, hn1, hn2⟩ := List.findIdx?_eq_some_iff_getElem.1 hfi
   obtain ⟨r, hrr⟩ : ∃ r, e.l.Rules[n]? = some r := ⟨_, Bn hn⟩
   rw [(Dp hrr).2] at hn1
   obtain ⟨hin0, hin⟩ := lV hn1
   have hfm := wL (Dw hrr)
   have hrg : ((ga e.l).Rules.map bI)[n]? = some (bI (dw r)) := by simp [ga, hrr]
   have hpl : ((dm E.ms e.l.Ignore run i).take (ee e.l.Rules)).take r.In.length = cO E.ms e.l run i r := by
    unfold cO
    rw [List.take_take, Nat.min_eq_left hfm]
   have hnl := j5 ((dm E.ms e.l.Ignore run i).take (ee e.l.Rules))
   rw [List.length_take] at hnl
   have hril := bS r.In
   dsimp only [Option.bind_some]
   rw [hrr]
   dsimp only
   repeat' (first|refine a9 ?_|refine a4 ?_|refine ai ?_|refine a6 ?_|refine a7 ?_|refine a8 a5 rfl rfl ?_|(apply aF; first|refine aE a5 ?_|refine aB a5 ?_)|refine bC rfl ?_)
   refine bk 6 [(0, .v), (1, .v), (2, .v), (3, .v), (4, .v), (5, .v)] none ?_ trivial rfl (by kernel_rfl) (by kernel_rfl) (by kernel_rfl) c9 (by kernel_rfl) rfl
   repeat' (first|refine aD ?_|refine bi a5 ?_|fail)
   refine ym a5 r.In.length rfl rfl rfl rfl rfl rfl (by rw [show (dw r).In = r.In from rfl, hril]) (by rw [show (dw r).In = r.In from rfl, hril]) (by omega) trivial ?_
   rw [show (cF ((dm E.ms e.l.Ignore run i).take (ee e.l.Rules))).take r.In.length = cF (cO E.ms e.l run i r) by rw [← hpl]; unfold cF aT; rw [← List.map_take, ← List.map_take]]
   repeat' (first|refine aD ?_|refine bi a5 ?_|fail)
   refine bz [8, 99] rfl rfl ?_
   repeat' (first|refine ah ?_|refine a6 ?_|refine a7 ?_|refine a8 a5 rfl rfl ?_)
   exact aK rfl rfl rfl ⟨rfl, rfl⟩
 ·have hm : du E.ms e.l run i forms = none := by
   unfold du
   rw [if_neg]
   unfold jr
   rw [List.getElem?_eq_none (by omega)]
   exact fun h => by cases h
  unfold iD
  rw [hm]
  repeat' (first|refine a9 ?_|refine a4 ?_|refine a6 ?_|refine a7 ?_|refine a8 a5 rfl rfl ?_|refine am rfl rfl ?_|(apply bE; first|refine aj a5 0 rfl rfl rfl rfl rfl ?_|refine aj a5 1 rfl rfl rfl rfl rfl ?_|refine aj a5 2 rfl rfl rfl rfl rfl ?_|refine aj a5 3 rfl rfl rfl rfl rfl ?_|refine ay a5 0 rfl rfl rfl rfl rfl ?_|refine ay a5 1 rfl rfl rfl rfl rfl ?_|refine ay a5 2 rfl rfl rfl rfl rfl ?_|refine aj a5 1 rfl rfl rfl (by assumption) rfl ?_|refine aj a5 0 rfl rfl rfl (by assumption) rfl ?_|fail)|fail)
  refine bH [0, 1, 2, 3] True rfl (fun Q' K => ?_) (fun hC => ?_) (fun hC => absurd trivial hC)
  ·repeat' (first|fail)
   refine jB a5 rfl hq rfl rfl ?_
   repeat' (first|refine a7 ?_|refine a8 a5 rfl rfl ?_|refine am rfl rfl ?_|refine ax rfl rfl rfl rfl ?_|refine aI rfl rfl rfl (fun _ => ?_) (fun _ => ?_))
   ·rename_i h
    have := Dy h
    omega
   ·exact K _ _ rfl rfl (by simp)
  ·repeat' (first|refine a9 ?_|refine a4 ?_|refine ah ?_|refine a6 ?_|refine aq ?_|refine a7 ?_|refine a8 a5 rfl rfl ?_)
   exact aK rfl rfl rfl ⟨rfl, rfl⟩
end Go.Proofs.YtpmdfoaadejmkaaGreatDoor
namespace Go.Proofs.YtpmdfoaadejmkaaGreatDoor
open Go.RowKit
section
variable {P : Program} {tt : TT} {l : List Oper} {fr : bw} {fin : jn} {sk : lm} {acc : bw} {L : AL} {k : Nat} {dd : Option Tmp} {ty t : TypeId} {pos : String} {af : Array Edge} {g : Option (Nat × Bool)}
theorem wk (ok : dl P tt) {zs : List Value} (hz : zI tt t = some zs) (h1 : zs.all (·.oneCell') = true) (hg : iQ ⟨dd, .alloc t, ty, pos, af, g⟩ acc) (h : ∀ b, DA P l fr fin sk ((k, .sc (.pointer (some ⟨b, 0, none⟩))) :: acc) ((b, .box (zs.map .sc) t) :: L)) :
  cC P l fr fin k .a ⟨dd, .alloc t, ty, pos, af, g⟩ sk acc L :=
 AI (fun c L' ⟨b, _, h2⟩ => ⟨[(b, _)], h2⟩) hg (fun _ => q6 (eH ok hz) h1) fun c L' ⟨b, h1, h2⟩ => by subst h1; subst h2; exact h b
end
end Go.Proofs.YtpmdfoaadejmkaaGreatDoor
namespace Go.Proofs.YtpmdfoaadejmkaaGreatDoor
open Go.RowKit
attribute [local irreducible] AT bh AX AO Av Kt b6 di DA cC
theorem ix {run : List aG} {i j : Nat} {x : aG} (y : aG) (v : AV) (junk : List AV) (h : run[i]? = some x) (hj : j < 6) (hy : bN y = (bN x).set j v) : eI (bq run ++ junk) (0 + ((i : Nat) : Int).toNat * 6 + j) [v] = bq (run.set i y) ++ junk := by
 rw [fM, Int.toNat_natCast, Nat.zero_add]
 have hi := (Dp h).1
 have hl := cy run
 rw [List.set_append, if_pos (by omega)]
 congr 1
 unfold bq
 have hm : (run.map bN)[i]? = some (bN x) := by simp [h]
 rw [qD (sz := 6) (run.map bN) i j (bN x) v (fun e he => by obtain ⟨z, _, rfl⟩ := List.mem_map.1 he; rfl) hm hj, ← hy, List.map_set]
theorem kZ (run : List aG) (junk : List AV) {k : Nat} (h : k ≤ run.length) : (bq run ++ junk).take (k * 6) = bq (run.take k) := by
 have e : bq run = bq (run.take k) ++ bq (run.drop k) := by rw [← fp, List.take_append_drop]
 have hl := cy (run.take k)
 rw [List.length_take, Nat.min_eq_left h] at hl
 rw [e, List.append_assoc, ← hl, List.take_left]
theorem od (run : List aG) (junk : List AV) {k : Nat} (h : k ≤ run.length) : ((bq run ++ junk).drop (k * 6)).take ((run.length - k) * 6) = bq (run.drop k) := by
 have e : bq run = bq (run.take k) ++ bq (run.drop k) := by rw [← fp, List.take_append_drop]
 have hl := cy (run.take k)
 rw [List.length_take, Nat.min_eq_left h] at hl
 have hl2 := cy (run.drop k)
 rw [List.length_drop] at hl2
 rw [e, List.append_assoc, ← hl, List.drop_left, ← hl2, List.take_left]
theorem uw (run : List aG) (junk : List AV) {i : Nat} {x : aG} (h : run[i]? = some x) : ((bq run ++ junk).drop (i * 6)).take 6 = bN x := by
 have hi := (Dp h).1
 have e : bq run = bq (run.take i) ++ (bN x ++ bq (run.drop (i + 1))) := by
  rw [← jx, ← fp]
  congr 1
  rw [← (Dp h).2, List.getElem_cons_drop, List.take_append_drop]
 have hl := cy (run.take i)
 rw [List.length_take, Nat.min_eq_left (by omega)] at hl
 rw [e, List.append_assoc, ← hl, List.drop_left, List.append_assoc]
 exact List.take_left (l₁ := bN x)
theorem wG (b k n : Nat) (cs : List AV) (hk : k * 6 ≤ cs.length) (hk1 : k ≤ 1000000) (hn1 : n ≤ 2000000) : AC Tryz.prog 259 [.sc (.slice (some ⟨b, 0, none⟩) k k), aA n] [(b, .box cs 67)] fun c L =>
  (n = 0 ∧ c = .sc (.slice (some ⟨b, 0, none⟩) k k) ∧ L = [(b, .box cs 67)]) ∨
  (0 < n ∧ ∃ b' cs' cap', c = .sc (.slice (some ⟨b', 0, none⟩) k cap') ∧ cap' * 6 ≤ cs'.length ∧ cs'.take (k * 6) = cs.take (k * 6) ∧ k + n ≤ cap' ∧ cap' ≤ maxLen ∧ L = [(b', .box cs' 67), (b, .box cs 67)]) := by
 refine aC Tryz.func259 rfl Tryz.ntmps259 rfl fun B => ?_
 repeat' (first|refine a9 ?_|refine a4 ?_|refine ai ?_|refine a6 ?_|refine a7 ?_|refine a8 a5 rfl rfl ?_|refine bC rfl ?_)
 refine pn a5 rfl rfl rfl ?_
 repeat' (first|refine a9 ?_|refine a4 ?_|refine a6 ?_|refine a7 ?_|refine a8 a5 rfl rfl ?_|(apply aU; refine aS ?_)|fail)
 refine ar rfl (fun h => ?_) fun h => ?_
 ·have hn0 : 0 < n := by have := Dz h; omega
  repeat' (first|refine a4 ?_|refine a8 a5 rfl rfl ?_)
  refine pn a5 rfl rfl rfl ?_
  repeat' (first|fail)
  refine tA a5 k rfl rfl rfl rfl (Nat.le_refl _) rfl ?_
  repeat' (first|refine a8 a5 rfl rfl ?_)
  refine sn a5 0 n rfl rfl rfl Tryz.underlying3 rfl rfl (by omega) hn0 rfl hk (Nat.le_refl _) (by omega) (by unfold maxLen; omega) (by omega) rfl fun b' cs' cap' h1 h2 h3 h4 => ?_
  repeat' (first|refine a8 a5 rfl rfl ?_)
  refine tA a5 k rfl rfl rfl rfl (by omega) rfl ?_
  repeat' (first|refine a9 ?_|refine a4 ?_|refine ah ?_|refine a6 ?_|refine a7 ?_|refine a8 a5 rfl rfl ?_)
  exact an rfl rfl (.inr ⟨hn0, b', cs', cap', rfl, h1, h2, h3, h4, rfl⟩)
 ·have hn0 : n = 0 := by have := Dy h; omega
  repeat' (first|refine a9 ?_|refine a4 ?_|refine ai ?_|refine ah ?_|refine a6 ?_|refine a7 ?_|refine a8 a5 rfl rfl ?_)
  exact an rfl rfl (.inl ⟨hn0, rfl, rfl⟩)
theorem oH {fr : bw} {B : Bs} {L : AL} {y : Operand} {sz c : Nat} {A : Option Addr} (hy : aX fr y = some (.sc (.slice A 0 c))) : rr fr B L y sz 0 [] := fun σ ρ w hρ _ => ⟨A, c, [], (hρ y _ hy).sc_inv, cG.nil, by simp, by simp, fun h => by omega⟩
theorem rX {run : List aG} (junk : List AV) {i : Nat} {x : aG} (h : run[i]? = some x) : ((bq run ++ junk).drop (0 + ((i : Nat) : Int).toNat * 6)).take 6 = bN x := by
 rw [Int.toNat_natCast, Nat.zero_add]
 exact uw run junk h
def sx (x : aG) (l : List Int) : List aG := l.map fun g => { x with Glyph := g }
theorem xg (x : aG) (l : List Int) : (sx x l).length = l.length := by simp [sx]
theorem Bb {a b : Nat × AB} {X : AL} : (a :: b :: X).Perm (b :: a :: X) := List.Perm.swap ..
theorem CJ {a b c d : Nat × AB} : [a, b, c, d].Perm [c, b, d, a] := (List.Perm.cons a (List.Perm.swap c b _)).trans ((List.Perm.swap c a _).trans ((((List.Perm.swap b a _).trans ((List.Perm.swap d a _).cons b))).cons c))
theorem CK {a b c d : Nat × AB} {X : AL} : ((a :: X) ++ [b, c, d]).Perm (b :: a :: c :: d :: X) := (List.perm_append_comm (l₁ := a :: X) (l₂ := [b, c, d])).trans (((List.Perm.swap a d _).cons c |>.trans (List.Perm.swap a c _)).cons b)
set_option maxHeartbeats 4000000 in
theorem wY (E : ma) (wb : Nat) (m : eo) (run : List aG) (hq : cT (some m) run) (hr : run.length ≤ 1000000) (i : Nat) (x : aG) (hx : run[i]? = some x) (r : aV) (ho : r.Out.length ≤ 1000000) : AC Tryz.prog 191 [ek wb, aA i, .imm 1 (aT r.Out)] (gb wb E (some m) run) fun _ L => ∃ q', cT q' (fJ r i run) ∧ L = gb wb E q' (fJ r i run) := by
 refine aC Tryz.func191 rfl Tryz.ntmps191 rfl fun B => ?_
 have hil := (Dp hx).1
 have hol := aW r.Out
 obtain ⟨h1, h2, h3⟩ := hq.fit m rfl
 have hfl := cy run
 have hmv : fJ r i run = if run.length - 1 + r.Out.length > 500 ∧ 1 < r.Out.length then run else run.take i ++ sx x r.Out ++ run.drop (i + 1) := by
  unfold fJ
  rw [hx]
  rfl
 have hit := rX m.junk hx
 unfold maxLen at h2
 repeat' (first|refine a9 ?_|refine a4 ?_|refine a6 ?_|refine a7 ?_|refine a8 a5 rfl rfl ?_|(apply bE; first|refine aj a5 0 rfl rfl rfl rfl rfl ?_|refine aj a5 1 rfl rfl rfl rfl rfl ?_|refine aj a5 2 rfl rfl rfl rfl rfl ?_|refine aj a5 3 rfl rfl rfl rfl rfl ?_|refine ay a5 0 rfl rfl rfl rfl rfl ?_|refine ay a5 1 rfl rfl rfl rfl rfl ?_|refine ay a5 2 rfl rfl rfl rfl rfl ?_|refine aj a5 1 rfl rfl rfl (by assumption) rfl ?_|refine aj a5 0 rfl rfl rfl (by assumption) rfl ?_|fail)|(apply aU; refine aS ?_)|fail)
 refine bH [0, 1, 2] (run.length - 1 + r.Out.length > 500 ∧ 1 < r.Out.length) rfl (fun Q' K => ?_) (fun hC => ?_) (fun hC => ?_)
 ·repeat' (first|refine a7 ?_|refine a8 a5 rfl rfl ?_|refine am rfl rfl ?_|refine ax rfl rfl rfl rfl ?_|refine aI rfl rfl rfl (fun _ => ?_) (fun _ => ?_))
  all_goals exact K _ _ rfl rfl (by simp_all <;> omega)
 ·rw [if_pos hC] at hmv
  repeat' (first|refine ah ?_|refine aq ?_)
  exact mg rfl ⟨some m, by rw [hmv]; exact hq, by rw [hmv]⟩
 rw [if_neg hC] at hmv
 repeat' (first|refine a9 ?_|refine ai ?_|refine a6 ?_)
 refine my [.cell (wb, 1, dv (some m) run)] 17 [(0, .v), (1, .v), (2, .v), (3, .l), (4, .v), (5, .v), (6, .l), (7, .v), (8, .v), (9, .v), (10, .k), (11, .v), (12, .v), (13, .v), (14, .a), (15, .f), (16, .v)] none ?_ trivial rfl (by kernel_rfl) (by kernel_rfl) (by kernel_rfl) c9 (by kernel_rfl) rfl
 repeat' (first|refine aD ?_|refine bi a5 ?_|refine bX a5 0 rfl rfl rfl rfl (by first|trivial|rfl) ?_)
 refine cK a5 rfl rfl rfl ⟨by omega, by omega⟩ trivial ?_
 repeat' (first|refine aD ?_|fail)
 refine t9 a5 1 rfl rfl rfl (Nat.ble_eq_true_of_le (by rw [Int.toNat_natCast]; simp; omega)) trivial ?_
 rw [hit]
 repeat' (first|refine aD ?_|refine bi a5 ?_|fail)
 refine ta a5 0 rfl rfl rfl (k9 0 rfl rfl) trivial ?_
 repeat' (first|refine aD ?_|refine bi a5 ?_|(apply ir;refine lE ?_)|fail)
 refine t8 a5 (i + 1) rfl rfl rfl (by omega) (by omega) h1 trivial ?_
 repeat' (first|refine aD ?_|fail)
 refine wk a5 rfl rfl trivial fun ib => ?_
 repeat' (first|refine aD ?_|fail)
 refine wm a5 0 rfl rfl rfl rfl rfl rfl rfl (k9 1 rfl rfl) trivial fun _ => ?_
 repeat' (first|refine aD ?_|refine bi a5 ?_|fail)
 refine bz [0, 1, 2, 7, 8] rfl rfl ?_
 repeat' (first|refine a9 ?_|refine a4 ?_|refine a6 ?_|refine a7 ?_|refine a8 a5 rfl rfl ?_|(apply bE; first|refine aj a5 0 rfl rfl rfl rfl rfl ?_|refine aj a5 1 rfl rfl rfl rfl rfl ?_|refine aj a5 2 rfl rfl rfl rfl rfl ?_|refine aj a5 3 rfl rfl rfl rfl rfl ?_|refine ay a5 0 rfl rfl rfl rfl rfl ?_|refine ay a5 1 rfl rfl rfl rfl rfl ?_|refine ay a5 2 rfl rfl rfl rfl rfl ?_|refine aj a5 1 rfl rfl rfl (by assumption) rfl ?_|refine aj a5 0 rfl rfl rfl (by assumption) rfl ?_|fail)|fail)
 refine B3 a5 i rfl rfl rfl rfl rfl rfl (by omega) rfl ?_
 repeat' (first|refine a8 a5 rfl rfl ?_|(apply aU; refine aS ?_)|fail)
 have hfll : (bq run ++ m.junk).length = run.length * 6 + m.junk.length := by rw [List.length_append, hfl]
 have hti := kZ run m.junk (Nat.le_of_lt hil)
 have hgr := wG m.rb i (r.Out.length + (run.length - (i + 1))) (bq run ++ m.junk) (by omega) (by omega) (by omega)
 refine aR (aY (L' := (m.rb, .box (bq run ++ m.junk) 67) :: [(wb, .box [.iptr (da E), dv (some m) run] 102), cr, (ib, .box (bN x) 67)]) ?_) ?_
 ·exact CJ
 refine aO [(m.rb, .box (bq run ++ m.junk) 67)] [(wb, .box [.iptr (da E), dv (some m) run] 102), cr, (ib, .box (bN x) 67)] hgr rfl (by rw [hol]; rfl) (Do _) rfl fun c L1 hp => ?_
 obtain ⟨db, dcs, dcap, X, hc, hL, hd1, hd2, hd3, l8, hX⟩ : ∃ db dcs dcap X, c = .sc (.slice (some ⟨db, 0, none⟩) i dcap) ∧ L1 = (db, .box dcs 67) :: X ∧ dcap * 6 ≤ dcs.length ∧ dcs.take (i * 6) = bq (run.take i) ∧ i + (r.Out.length + (run.length - (i + 1))) ≤ dcap ∧ dcap ≤ maxLen ∧ (r.Out.length + (run.length - (i + 1)) = 0 ∨ X = [(m.rb, .box (bq run ++ m.junk) 67)]) := by
  rcases hp with ⟨h0, hc, hL⟩ | ⟨h0, b', cs', cap', hc, h4, h5, h6, h7, hL⟩
  ·exact ⟨m.rb, _, i, [], hc, hL, by omega, hti, by omega, by unfold maxLen; omega, .inl h0⟩
  ·exact ⟨b', cs', cap', _, hc, hL, h4, by rw [h5, hti], h6, h7, .inr rfl⟩
 subst hc; subst hL
 unfold maxLen at l8
 refine aR (aY (L' := (wb, .box [.iptr (da E), dv (some m) run] 102) :: (db, .box dcs 67) :: cr :: (ib, .box (bN x) 67) :: X) ?_) ?_
 ·exact CK
 repeat' (first|refine a9 ?_|refine a4 ?_|refine ak ?_|refine a6 ?_|refine a7 ?_|refine a8 a5 rfl rfl ?_)
 refine aL [0, 7, 8, 59, 60] (α := Nat × Int × List AV) (fun s => [(61, aA s.1), (9, .sc (.slice (some ⟨db, 0, none⟩) (i + s.1 : Nat) dcap))]) (fun s => s.1 ≤ r.Out.length ∧ dcap * 6 ≤ s.2.2.length ∧ s.2.2.take ((i + s.1) * 6) = bq (run.take i ++ sx x (r.Out.take s.1))) (fun s => (wb, .box [.iptr (da E), dv (some m) run] 102) :: (db, .box s.2.2 67) :: cr :: (ib, .box (bN { x with Glyph := s.2.1 }) 67) :: X) (fun s => r.Out.length - s.1) (0, x.Glyph, dcs) rfl ⟨rfl, rfl, trivial⟩ ⟨Nat.zero_le _, hd1, by simpa [sx] using hd2⟩ (fun _ _ h => h) ?_
 rintro ⟨k, g, cs⟩ ⟨hk, hcl, hct⟩
 dsimp only at hk hcl hct ⊢
 try dsimp only [Ds, Dr, Dq, Dn]
 repeat' (first|refine a9 ?_|refine a4 ?_|refine a6 ?_|refine a7 ?_|refine a8 a5 rfl rfl ?_)
 refine ar rfl (fun h => ?_) (fun h => ?_)
 ·have hk2 : k < r.Out.length := by have := Dz h; omega
  obtain ⟨y, hy⟩ : ∃ z, r.Out[k]? = some z := ⟨_, Bn hk2⟩
  have hyg := bJ hy
  clear h
  repeat' (first|refine a9 ?_|refine a4 ?_|refine ak ?_|refine ai ?_|refine a6 ?_|refine a7 ?_|refine a8 a5 rfl rfl ?_|(apply aF; first|refine aE a5 ?_|refine aB a5 ?_)|(apply aP; first|refine ad a5 0 rfl rfl rfl rfl rfl rfl rfl ?_|refine ad a5 1 rfl rfl rfl rfl rfl rfl rfl ?_|refine ad a5 2 rfl rfl rfl rfl rfl rfl rfl ?_|refine ad a5 3 rfl rfl rfl rfl rfl rfl rfl ?_|fail))
  refine ay a5 3 rfl rfl rfl rfl rfl ?_
  repeat' (first|refine ce a5 ?_|fail)
  refine j4 a5 1 rfl rfl rfl rfl (r7 rfl rfl) rfl hcl (by omega) (by unfold maxLen; omega) (by simp; unfold maxLen; omega) (by simp; omega) rfl fun b' cs' cap' e1 e2 e3 e4 e5 => ?_
  obtain ⟨e6, e7, e8⟩ := e5 (by simp; omega)
  subst e6; subst e7
  refine aR (aY Bb) ?_
  repeat' (first|refine a4 ?_|refine a6 ?_|refine aH ?_|refine a7 ?_|refine a8 a5 rfl rfl ?_|(apply aU; refine aS ?_)|fail)
  refine az (k + 1, y, cs') rfl ⟨by rw [Dv]; rfl, rfl, trivial⟩ ⟨hk2, e1, ?_⟩ (by dsimp only; omega) (fun _ _ h => h)
  rw [← Nat.add_assoc]
  refine e2.trans ?_
  rw [hct, show r.Out.take (k + 1) = r.Out.take k ++ [y] by rw [List.take_add_one, hy]; rfl]
  unfold sx
  rw [List.map_append, ← List.append_assoc]
  refine Eq.trans ?_ (fp _ _).symm
  rfl
 ·have hke : k = r.Out.length := by have := Dy h; omega
  subst hke
  rw [List.take_length] at hct
  have hsrc : ∀ fr y B, aX fr y = some (.sc (.slice (some ⟨m.rb, if m.cap = i + 1 then 0 else (i + 1) * 6, none⟩) (run.length - (i + 1)) (m.cap - (i + 1)))) → rr fr B ((wb, .box [.iptr (da E), dv (some m) run] 102) :: (db, .box cs 67) :: cr :: (ib, .box (bN { x with Glyph := g }) 67) :: X) y 6 (run.length - (i + 1)) (bq (run.drop (i + 1))) := by
   intro fr y B hy
   by_cases hz : run.length - (i + 1) = 0
   ·rw [hz] at hy ⊢
    rw [List.drop_eq_nil_of_le (by omega)]
    exact oH hy
   ·rcases hX with hX | hX
    ·omega
    ·subst hX
     have hs := r8 (B := B) (sz := 6) (L := (wb, .box [.iptr (da E), dv (some m) run] 102) :: (db, .box cs 67) :: cr :: (ib, .box (bN { x with Glyph := g }) 67) :: [(m.rb, .box (bq run ++ m.junk) 67)]) 4 hy rfl (by split <;> omega)
     rw [if_neg (by omega), od run m.junk hil] at hs
     exact hs
  repeat' (first|refine a4 ?_|refine aM ?_|refine a6 ?_|refine au ?_|refine aw ?_|refine av ?_|refine a8 a5 rfl rfl ?_)
  refine j4 a5 1 rfl rfl rfl rfl (hsrc _ _ _ rfl) rfl hcl (by omega) (by unfold maxLen; omega) (by unfold maxLen; omega) (by omega) rfl fun b' cs' cap' e1 e2 e3 e4 e5 => ?_
  obtain ⟨e6, e7, e8⟩ := e5 (by omega)
  subst e6; subst e7
  refine aR (aY Bb) ?_
  repeat' (first|refine a7 ?_|refine a8 a5 rfl rfl ?_|(apply aP; first|refine ad a5 0 rfl rfl rfl rfl rfl rfl rfl ?_|refine ad a5 1 rfl rfl rfl rfl rfl rfl rfl ?_|refine ad a5 2 rfl rfl rfl rfl rfl rfl rfl ?_|refine ad a5 3 rfl rfl rfl rfl rfl rfl rfl ?_|fail))
  have hrun : fJ r i run = run.take i ++ sx x r.Out ++ run.drop (i + 1) := hmv
  have hlen : (fJ r i run).length = i + r.Out.length + (run.length - (i + 1)) := by
   rw [hrun, List.length_append, List.length_append, List.length_take, List.length_drop, xg]
   omega
  have hfl2 := cy (fJ r i run)
  have hcs : cs' = bq (fJ r i run) ++ cs'.drop ((i + r.Out.length + (run.length - (i + 1))) * 6) := by
   conv => lhs; rw [← List.take_append_drop ((i + r.Out.length + (run.length - (i + 1))) * 6) cs', e2, hct]
   rw [hrun, fp _ (run.drop (i + 1))]
  refine dk (L' := [(wb, .box [.iptr (da E), .sc (.slice (some ⟨b', 0, none⟩) (i + r.Out.length + (run.length - (i + 1)) : Nat) cap')] 102), (b', .box cs' 67), cr]) (.cons_cons _ (.cons_cons _ (.cons_cons _ (List.nil_sublist _)))) ?_
  refine c8 rfl ⟨some ⟨b', cap', cs'.drop ((i + r.Out.length + (run.length - (i + 1))) * 6)⟩, ⟨fun h => (by cases h), fun m' hm' => ?_⟩, ?_⟩
  ·cases hm'
   refine ⟨by rw [hlen]; dsimp only; omega, by dsimp only; unfold maxLen; omega, ?_⟩
   dsimp only
   rw [← hcs]
   exact e1
  ·unfold dv lf
   dsimp only
   rw [hlen, ← hcs]
   rfl
end Go.Proofs.YtpmdfoaadejmkaaGreatDoor
