/-
  An automaton is built: the walk.
-/
import Derived.Test.YtpmdfoaadejmkaaGreatDoorM16
import Derived.Test.YtpmdfoaadejmkaaGreatDoorM13
import Derived.Test.YtpmdfoaadejmkaaGreatDoorM12
import Derived.Test.YtpmdfoaadejmkaaGreatDoorM05
import Derived.Test.YtpmdfoaadejmkaaGreatDoorM14
namespace Go.Proofs.YtpmdfoaadejmkaaGreatDoor
open Go.RowKit
attribute [local irreducible] AT bf AX AO Av Kt aZ df DA cA
structure pS (N : Nat) (r : aT) : Prop where
 back : ∀ s ∈ r.Back, i8 s ∧ ∀ g ∈ s, 0 ≤ g ∧ g < (N : Int)
 in_ : ∀ s ∈ r.In, i8 s ∧ ∀ g ∈ s, 0 ≤ g ∧ g < (N : Int)
 ahead : ∀ s ∈ r.Ahead, i8 s ∧ ∀ g ∈ s, 0 ≤ g ∧ g < (N : Int)
 long : r.Back.length ≤ 200 ∧ r.In.length + r.Ahead.length ≤ 200
structure sO (N : Nat) (l : aQ) : Prop where
 few : l.Rules.length ≤ 6
 rule : ∀ r ∈ l.Rules, pS N r
def cW (rs : List aT) : List (List Int) := rs.flatMap fun r => r.Back ++ r.In ++ r.Ahead
theorem tX {rs : List aT} {k : Nat} {r : aT} (h : rs[k]? = some r) : cW (rs.take (k + 1)) = cW (rs.take k) ++ r.Back ++ r.In ++ r.Ahead := by
 unfold cW
 rw [List.take_add_one, h]
 simp
theorem ml {N : Nat} : ∀ {rs : List aT}, (∀ r ∈ rs, pS N r) → (cW rs).length ≤ 400 * rs.length
 | [], _ => by simp [cW]
 | r :: rs, h => by
  have ih := ml (rs := rs) fun x hx => h x (by simp [hx])
  have hr := (h r (by simp)).long
  unfold cW at ih ⊢
  rw [List.flatMap_cons, List.length_append, List.length_append, List.length_append, List.length_cons]
  omega
theorem oS {N : Nat} {rs : List aT} (h : ∀ r ∈ rs, pS N r) : ∀ s ∈ cW rs, i8 s ∧ ∀ g ∈ s, 0 ≤ g ∧ g < (N : Int) := by
 intro s hs
 unfold cW at hs
 obtain ⟨r, hr, hs⟩ := List.mem_flatMap.1 hs
 rw [List.mem_append, List.mem_append] at hs
 rcases hs with (hs | hs) | hs
 ·exact (h r hr).back s hs
 ·exact (h r hr).in_ s hs
 ·exact (h r hr).ahead s hs
structure i3 where
 cls : List Int
 fore : List (List Int)
 back : List (List Int)
 foreE : List Nat
 backE : List Nat
def Cr (a : i3) : List AV := [.imm 1 (aU a.cls), .imm 1 (b7 a.fore), .imm 1 (b7 a.back), .imm 1 (eF a.foreE), .imm 1 (eF a.backE)]
structure sP (N : Nat) (rs : List aT) (a : i3) : Prop where
 cls : pT N (eI a.cls).toNat a.cls (cW rs)
 fore : nQ a.cls (rs.map fun r => (lB r).1) (gM lB rs) (eI a.cls).toNat a.fore a.foreE
 back : nQ a.cls (rs.map fun r => (mt r).1) (gM mt rs) (eI a.cls).toNat a.back a.backE
theorem iv (r : aT) : (cL r).length ≤ r.In.length + r.Ahead.length := by
 unfold cL
 split
 ·simp
 ·rw [List.length_append]; omega
theorem iw {r : aT} {s : List Int} (h : s ∈ cL r) : s ∈ r.In ∨ s ∈ r.Ahead := by
 unfold cL at h
 split at h
 ·cases h
 ·exact List.mem_append.1 h
section
variable {N : Nat} {l : aQ} (h : sO N l) (hN0 : 0 < N) (hN : N ≤ 65536)
include h
theorem kl : ∀ s ∈ cW l.Rules, (∀ g ∈ s, 0 ≤ g ∧ g < (N : Int)) ∧ s.Nodup := fun s hs => ⟨(oS h.rule s hs).2, eZ (oS h.rule s hs).1⟩
include hN
theorem n9 : (∀ z ∈ cP N (cW l.Rules), 0 ≤ z ∧ z ≤ 1000000) ∧ (cP N (cW l.Rules)).length = N ∧ (eI (cP N (cW l.Rules))).toNat ≤ 1000000 ∧ ∀ z ∈ cP N (cW l.Rules), 0 ≤ z ∧ z < ((eI (cP N (cW l.Rules))).toNat : Int) := by
 have h1 := ox N _ (kl h)
 refine ⟨fun z hz => by have := h1 z hz; omega, oy N _ (kl h), ?_, (qR N _ (kl h)).dom⟩
 have : eI (cP N (cW l.Rules)) ≤ (N : Int) := ot (by omega) fun z hz => (h1 z hz).2
 omega
theorem Be : vo l.Rules (cP N (cW l.Rules)) := by
 obtain ⟨h1, h2, _, _⟩ := n9 h hN
 exact ⟨h.few, h1, by omega, fun r hr => by have := (h.rule r hr).long; omega⟩
theorem yJ : vp (ne lB l.Rules (cP N (cW l.Rules))) (gM lB l.Rules) 200 := by
 obtain ⟨h1, h2, h3, h4⟩ := n9 h hN
 refine ⟨⟨by show (l.Rules.map _).length ≤ 6; rw [Du]; exact h.few, h4, fun dl hrow s hs => ?_, fun dl hrow => ?_, h3, by show (cP N (cW l.Rules)).length ≤ _; omega⟩, by show bF _ _ = bF _ (l.Rules.map _).length; rw [Du], fun dl hrow => ?_, Nat.le_refl _⟩
 ·obtain ⟨r, hr, rfl⟩ := List.mem_map.1 hrow
  have hb := h.rule r hr
  have hsr : i8 s ∧ ∀ g ∈ s, 0 ≤ g ∧ g < (N : Int) := by
   rcases iw hs with hs | hs
   ·exact hb.in_ s hs
   ·exact hb.ahead s hs
  refine ⟨fun g hg => ?_, ?_⟩
  ·show 0 ≤ g ∧ g < ((cP N (cW l.Rules)).length : Int)
   rw [h2]
   exact hsr.2 g hg
  ·have := dO (eZ hsr.1) hsr.2
   omega
 ·obtain ⟨r, hr, rfl⟩ := List.mem_map.1 hrow
  have := iv r
  have := (h.rule r hr).long
  show (cL r).length ≤ _
  omega
 ·obtain ⟨r, hr, rfl⟩ := List.mem_map.1 hrow
  have := iv r
  have := (h.rule r hr).long
  show (cL r).length ≤ _
  omega
theorem y7 : vp (ne mt l.Rules (cP N (cW l.Rules))) (gM mt l.Rules) 200 := by
 obtain ⟨h1, h2, h3, h4⟩ := n9 h hN
 refine ⟨⟨by show (l.Rules.map _).length ≤ 6; rw [Du]; exact h.few, h4, fun dl hrow s hs => ?_, fun dl hrow => ?_, h3, by show (cP N (cW l.Rules)).length ≤ _; omega⟩, by show bF _ _ = bF _ (l.Rules.map _).length; rw [Du], fun dl hrow => ?_, Nat.le_refl _⟩
 ·obtain ⟨r, hr, rfl⟩ := List.mem_map.1 hrow
  have hsr := (h.rule r hr).back s hs
  refine ⟨fun g hg => ?_, ?_⟩
  ·show 0 ≤ g ∧ g < ((cP N (cW l.Rules)).length : Int)
   rw [h2]
   exact hsr.2 g hg
  ·have := dO (eZ hsr.1) hsr.2
   omega
 ·obtain ⟨r, hr, rfl⟩ := List.mem_map.1 hrow
  have := (h.rule r hr).long
  show r.Back.length ≤ _
  omega
 ·obtain ⟨r, hr, rfl⟩ := List.mem_map.1 hrow
  have := (h.rule r hr).long
  show r.Back.length ≤ _
  omega
end
set_option maxHeartbeats 8000000 in
theorem vW (f : aM) (n : Nat) (l : aQ) (hl : f.Lookups[n]? = some l) (h : sO f.Glyphs.length l) (hN0 : 0 < f.Glyphs.length) (hN : f.Glyphs.length ≤ 65536) : AC Tryz.prog 35 [cx f, az n] [] fun c _ => ∃ a, sP f.Glyphs.length l.Rules a ∧ c = .tup [.agg (Cr a), az 0] := by
 refine aB Tryz.func35 rfl Tryz.ntmps35 rfl fun B => ?_
 have hgl : (f.Glyphs.map c7).length = f.Glyphs.length := Du ..
 have hll : (f.Lookups.map bn).length = f.Lookups.length := Du ..
 have hrl : (l.Rules.map bH).length = l.Rules.length := Du ..
 have hnl := (Dp hl).1
 have hlg : (f.Lookups.map bn)[n]? = some (bn l) := by simp [hl]
 have hfew := h.few
 repeat' (first|refine a8 ?_|refine a0 ?_|refine a5 ?_|refine a6 ?_|refine a7 a4 rfl rfl ?_|refine an rfl rfl ?_|refine aX ?_|refine aY a4 fun _=>?_|fail)
 refine bG [1, 2, 4] False rfl (fun Q' K => ?_) (fun hC => hC.elim) (fun _ => ?_)
 ·repeat' (first|refine a6 ?_|refine a7 a4 rfl rfl ?_|refine an rfl rfl ?_|refine aw rfl rfl rfl rfl ?_|refine aG rfl rfl rfl (fun _ => ?_) (fun _ => ?_))
  all_goals exact K _ _ rfl rfl (by simp_all <;> omega)
 repeat' (first|refine a8 ?_|refine a0 ?_|refine ah ?_|refine a5 ?_|refine a6 ?_|refine a7 a4 rfl rfl ?_|(apply aE; first|refine aD a4 ?_|refine aA a4 ?_)|fail)
 rename_i r4 _
 have hpd := nK f.Glyphs.length hN0 hN (cW l.Rules) (oS h.rule) (by have := ml h.rule; omega)
 have hcls := qR f.Glyphs.length (cW l.Rules) (kl h)
 have hso := Be h hN
 have hsf := oG _ _ _ (yJ h hN) (.fnB 100 [.agg (rL l.Rules (cP f.Glyphs.length (cW l.Rules)))] []) (gz.fnB (f := 100) (fs := [.agg (rL l.Rules (cP f.Glyphs.length (cW l.Rules)))]) (caps := []) (wu hso))
 have hsb := oG _ _ _ (y7 h hN) (.fnB 101 [.agg (rL l.Rules (cP f.Glyphs.length (cW l.Rules)))] []) (gz.fnB (f := 101) (fs := [.agg (rL l.Rules (cP f.Glyphs.length (cW l.Rules)))]) (caps := []) (vS hso))
 refine aq rfl (fun h1 => ?_) (fun h1 => ?_)
 ·have := Dz h1
  omega
 clear h1
 repeat' (first|refine a8 ?_|refine a0 ?_|refine aj ?_|refine ah ?_|refine a5 ?_|refine a6 ?_|refine a7 a4 rfl rfl ?_)
 refine cX (bR (t := 7) (c' := .vec none 1 (b7 [])) rfl fun σ v h => eB 1 h) ?_
 refine aK [2, 4, 6, 49, 50] (α := Nat × Option (Nat × Nat)) (fun s => [(51, az s.1), (7, .vec s.2 1 (b7 (cW (l.Rules.take s.1))))]) (fun s => s.1 ≤ l.Rules.length) (fun s => (r4, .box [.sc (.slice none 0 0), .sc (.slice none 0 0), .sc (.slice none 0 0), .sc (.slice none 0 0), .sc (.slice none 0 0)] 62) :: tok s.2 22 1 (cW (l.Rules.take s.1)).length) (fun s => l.Rules.length - s.1) (0, none) rfl ⟨rfl, rfl, trivial⟩ (Nat.zero_le _) (fun _ _ hh => hh) ?_
 ·rintro ⟨k, q⟩ hk
  dsimp only at hk ⊢
  try dsimp only [Ds, Dr, Dq, Dn]
  repeat' (first|refine a8 ?_|refine a0 ?_|refine a5 ?_|refine a6 ?_|refine a7 a4 rfl rfl ?_)
  refine aq rfl (fun h1 => ?_) (fun h1 => ?_)
  ·have hk2 : k < l.Rules.length := by have := Dz h1; omega
   obtain ⟨r, hr⟩ : ∃ z, l.Rules[k]? = some z := ⟨_, Bj hk2⟩
   have hrg : (l.Rules.map bH)[k]? = some (bH r) := by simp [hr]
   have hlong := (h.rule r (Dw hr)).long
   have hal := tX hr
   have hlen : (cW (l.Rules.take k)).length ≤ 2400 := by
    have := ml (N := f.Glyphs.length) (rs := l.Rules.take k) fun x hx => h.rule x (List.mem_of_mem_take hx)
    rw [List.length_take] at this
    omega
   have hri : b7 (cW (l.Rules.take (k + 1))) = b7 (cW (l.Rules.take k)) ++ b7 r.Back ++ b7 r.In ++ b7 r.Ahead := by rw [hal]; simp [b7]
   have hrl0 := bQ (cW (l.Rules.take k))
   have hrl1 := bQ r.Back
   have hrl2 := bQ r.In
   have hrl3 := bQ r.Ahead
   have hln : (cW (l.Rules.take (k + 1))).length = (cW (l.Rules.take k)).length + r.Back.length + r.In.length + r.Ahead.length := by rw [hal, List.length_append, List.length_append, List.length_append]
   generalize b7 (cW (l.Rules.take k)) = A0 at *
   generalize (cW (l.Rules.take k)).length = n0 at *
   clear h1
   repeat' (first|refine a8 ?_|refine a0 ?_|refine aj ?_|refine ah ?_|refine a5 ?_|refine a6 ?_|refine a7 a4 rfl rfl ?_|(apply aE; first|refine aD a4 ?_|refine aA a4 ?_)|(apply aO; first|refine a9 9 a4 0 rfl rfl rfl rfl rfl rfl rfl rfl ?_|refine a9 9 a4 1 rfl rfl rfl rfl rfl rfl rfl rfl ?_|refine a9 9 a4 2 rfl rfl rfl rfl rfl rfl rfl rfl ?_|refine a9 10 a4 0 rfl rfl rfl rfl rfl rfl rfl rfl ?_|refine a9 10 a4 1 rfl rfl rfl rfl rfl rfl rfl rfl ?_|refine a9 10 a4 2 rfl rfl rfl rfl rfl rfl rfl rfl ?_|refine aa a4 0 rfl rfl rfl rfl rfl rfl rfl ?_|refine aa a4 1 rfl rfl rfl rfl rfl rfl rfl ?_|refine aa a4 2 rfl rfl rfl rfl rfl rfl rfl ?_|refine aa a4 3 rfl rfl rfl rfl rfl rfl rfl ?_|fail)|refine aY a4 fun _=>?_|fail)
   refine cu a4 [(r4, .box [.sc (.slice none 0 0), .sc (.slice none 0 0), .sc (.slice none 0 0), .sc (.slice none 0 0), .sc (.slice none 0 0)] 62)] rfl rfl rfl rfl (by rw [hrl0]; exact List.perm_append_comm (l₁ := [_])) (by omega) (by omega) rfl fun q1 => ?_
   repeat' (first|refine a8 ?_|refine a0 ?_|refine a5 ?_|refine a6 ?_|refine a7 a4 rfl rfl ?_)
   refine cu a4 [(r4, .box [.sc (.slice none 0 0), .sc (.slice none 0 0), .sc (.slice none 0 0), .sc (.slice none 0 0), .sc (.slice none 0 0)] 62)] rfl rfl rfl rfl (Do _) (by rw [List.length_append]; omega) (by rw [List.length_append]; omega) rfl fun q2 => ?_
   repeat' (first|refine a0 ?_|refine a5 ?_|refine a6 ?_|refine a7 a4 rfl rfl ?_)
   refine cu a4 [(r4, .box [.sc (.slice none 0 0), .sc (.slice none 0 0), .sc (.slice none 0 0), .sc (.slice none 0 0), .sc (.slice none 0 0)] 62)] rfl rfl rfl rfl (Do _) (by rw [List.length_append, List.length_append]; omega) (by rw [List.length_append, List.length_append]; omega) rfl fun q3 => ?_
   repeat' (first|refine a0 ?_|refine a5 ?_|refine aH ?_|refine a6 ?_|refine a7 a4 rfl rfl ?_|(apply aS; refine aR ?_)|fail)
   refine ay (k + 1, q3) rfl ⟨by rw [Dv]; rfl, by dsimp only; rw [hri]; rfl, trivial⟩ hk2 (by dsimp only; omega) (fun σ w hh => ?_)
   have h2 := hh.perm (List.perm_append_comm (l₂ := [_]))
   have h3 : (A0 ++ b7 r.Back ++ b7 r.In ++ b7 r.Ahead).length = (cW (l.Rules.take (k + 1))).length := by rw [hln, List.length_append, List.length_append, List.length_append]; omega
   rw [h3] at h2
   exact h2
  ·have hk2 : k = l.Rules.length := by have := Dy h1; omega
   subst hk2
   rw [List.take_length]
   haveI : AD Tryz.prog 98 [az ((f.Glyphs.map c7).length : Nat), .imm 1 (b7 (cW l.Rules))] (.imm 1 (aU (cP f.Glyphs.length (cW l.Rules)))) := ⟨by rw [hgl]; exact hpd⟩
   clear h1
   repeat' (first|refine a8 ?_|refine a0 ?_|refine aL ?_|refine a5 ?_|refine ar ?_|refine av ?_|refine au ?_|refine a6 ?_|refine a7 a4 rfl rfl ?_|(apply aO; first|refine a9 9 a4 0 rfl rfl rfl rfl rfl rfl rfl rfl ?_|refine a9 9 a4 1 rfl rfl rfl rfl rfl rfl rfl rfl ?_|refine a9 9 a4 2 rfl rfl rfl rfl rfl rfl rfl rfl ?_|refine a9 10 a4 0 rfl rfl rfl rfl rfl rfl rfl rfl ?_|refine a9 10 a4 1 rfl rfl rfl rfl rfl rfl rfl rfl ?_|refine a9 10 a4 2 rfl rfl rfl rfl rfl rfl rfl rfl ?_|refine aa a4 0 rfl rfl rfl rfl rfl rfl rfl ?_|refine aa a4 1 rfl rfl rfl rfl rfl rfl rfl ?_|refine aa a4 2 rfl rfl rfl rfl rfl rfl rfl ?_|refine aa a4 3 rfl rfl rfl rfl rfl rfl rfl ?_|fail)|refine aY a4 fun _=>?_|(apply bb;refine b4 ?_)|fail)
   refine aN [] _ hsf rfl rfl (Do _) rfl fun c1 L1 ⟨ft, fe, hf1, hc1⟩ => ?_
   subst hc1
   refine aP (bZ (List.sublist_append_right ..)) ?_
   repeat' (first|refine a8 ?_|refine a0 ?_|refine ah ?_|refine a5 ?_|refine a6 ?_|refine a7 a4 rfl rfl ?_|refine bB rfl ?_)
   refine aN [] _ hsb rfl rfl (Do _) rfl fun c1 L1 ⟨bt, be, hb1, hc1⟩ => ?_
   subst hc1
   refine aP (bZ (List.sublist_append_right ..)) ?_
   repeat' (first|refine a8 ?_|refine a0 ?_|refine ah ?_|refine ae ?_|refine a5 ?_|refine a6 ?_|refine a7 a4 rfl rfl ?_|(apply aO; first|refine a9 9 a4 0 rfl rfl rfl rfl rfl rfl rfl rfl ?_|refine a9 9 a4 1 rfl rfl rfl rfl rfl rfl rfl rfl ?_|refine a9 9 a4 2 rfl rfl rfl rfl rfl rfl rfl rfl ?_|refine a9 10 a4 0 rfl rfl rfl rfl rfl rfl rfl rfl ?_|refine a9 10 a4 1 rfl rfl rfl rfl rfl rfl rfl rfl ?_|refine a9 10 a4 2 rfl rfl rfl rfl rfl rfl rfl rfl ?_|refine aa a4 0 rfl rfl rfl rfl rfl rfl rfl ?_|refine aa a4 1 rfl rfl rfl rfl rfl rfl rfl ?_|refine aa a4 2 rfl rfl rfl rfl rfl rfl rfl ?_|refine aa a4 3 rfl rfl rfl rfl rfl rfl rfl ?_|fail)|refine bB rfl ?_)
   exact fc (cs := [.agg (Cr ⟨cP f.Glyphs.length (cW l.Rules), ft, bt, fe, be⟩), az 0]) [] ⟨⟨_, 0, _, _, rfl, rfl, .inr ⟨dB a4 rfl, rfl⟩⟩, rfl, trivial⟩ (List.nil_sublist _) ⟨⟨cP f.Glyphs.length (cW l.Rules), ft, bt, fe, be⟩, ⟨hcls, hf1, hb1⟩, rfl⟩
end Go.Proofs.YtpmdfoaadejmkaaGreatDoor
namespace Go.Proofs.YtpmdfoaadejmkaaGreatDoor
open Go.RowKit
section
variable {P : Program} {fr : bw} {B : Bs} {L : AL} {ty t t' : TypeId} {pos : String} {af : Array Edge} {g : Option (Nat × Bool)} {x y z q : Operand} {u : AV}
theorem xO {d : Option Tmp} {s e sz by_ hi : Nat} {l : List (List AV)} {k k' : IntKind} {a b : Int} (hc : j9 P t e sz by_) (hx : aW fr x = some u) (hu : hY u = some (s, l)) (hs : Nat.beq s sz = true) (hy : aW fr y = some (.sc (.int k a))) (hz : aW fr z = some (.sc (.int k' b))) (ha : a = (hi : Int)) (hb : b = (hi : Int)) (h : hi ≤ l.length) : Av P ⟨d, .slice t x none (some y) (some z), ty, pos, af, g⟩ fr (.imm s (l.take hi)) := by
 intro σ ρ w hρ _
 subst ha hb
 rw [Nat.beq_eq] at hs
 subst hs
 have h1 := (hρ x u hx).im
 rw [cN hu] at h1
 obtain ⟨A, cap, hv, hcap, _⟩ := h1.imm_inv
 rw [hv] at h1
 have hvr := h1.cut (lo := 0) (hi := hi) (m := hi) (Nat.zero_le _) h (Nat.le_refl _) (by omega)
 haveI := hc
 simp only [List.drop_zero, Nat.sub_zero, Nat.zero_mul] at hvr
 refine ⟨_, ?_, hvr⟩
 have h4 : hi ≤ cap := by omega
 simp [execOp, hv, (hρ y _ hy).sc_inv, (hρ z _ hz).sc_inv, Instr.sliceAt, Instr.slice, Instr.sliceBounds, Instr.sliceBound, asIntOf, run_underlying hc.under, cn (t := t), h4]
end
section
variable {P : Program} {tt : TT} {l : List Oper} {fr : bw} {fin : jh} {sk : lg} {acc : bw} {L : AL} {k : Nat} {dd : Option Tmp} {ty t : TypeId} {pos : String} {af : Array Edge} {g : Option (Nat × Bool)} {x y z : Operand} {u : AV}
theorem yg (ok : dg P tt) (hi : Nat) {s e sz by_ : Nat} {ll : List (List AV)} {q q' : IntKind} {a b : Int} (ht : iF tt t = some (e, sz, by_)) (hx : aW (ci l.toArray acc fr af.toList) x = some u) (hu : hY u = some (s, ll)) (hs : Nat.beq s sz = true) (hy : aW (ci l.toArray acc fr af.toList) y = some (.sc (.int q a))) (hz : aW (ci l.toArray acc fr af.toList) z = some (.sc (.int q' b))) (ha : a = (hi : Int)) (hb : b = (hi : Int)) (h1 : hi ≤ ll.length) (hg : iK ⟨dd, .slice t x none (some y) (some z), ty, pos, af, g⟩ acc) (h : DA P l fr fin sk ((k, .imm s (ll.take hi)) :: acc) L) :
  cA P l fr fin k .v ⟨dd, .slice t x none (some y) (some z), ty, pos, af, g⟩ sk acc L := eO hg (yU (xO (b8 ok ht).1 hx hu hs hy hz ha hb h1)) h
end
end Go.Proofs.YtpmdfoaadejmkaaGreatDoor
namespace Go.Proofs.YtpmdfoaadejmkaaGreatDoor
open Go.RowKit
attribute [local irreducible] AT bf AX AO Av Kt aZ df DA cA
theorem s9 (l : List Int) (z : Int) : bk Tryz.prog 190 [.imm 1 (aU l), az z] (az (if z ∈ l then (l.idxOf z : Nat) else -1)) := by
 refine aB Tryz.func190 rfl Tryz.ntmps190 rfl fun B => ?_
 refine cf 0 rfl rfl fun hlen => ?_
 have hll := b6 l
 rw [hll] at hlen
 repeat' (first|refine a8 ?_|refine a0 ?_|refine aj ?_|refine a5 ?_|refine a6 ?_|refine a7 a4 rfl rfl ?_)
 refine aK [0, 1, 7] (α := Nat) (fun i => [(8, az i)]) (fun i => i ≤ l.length ∧ z ∉ l.take i) (fun _ => []) (fun i => l.length - i) 0 rfl ⟨rfl, trivial⟩ ⟨Nat.zero_le _, by simp⟩ (fun _ _ h => h) fun i hi => ?_
 try dsimp only [Ds, Dr, Dq, Dn]
 repeat' (first|refine a8 ?_|refine a0 ?_|refine a5 ?_|refine a6 ?_|refine a7 a4 rfl rfl ?_)
 refine aq rfl (fun h => ?_) (fun h => ?_)
 ·have hil : i < l.length := by have := Dz h; omega
  obtain ⟨y, hy⟩ : ∃ z, l[i]? = some z := ⟨_, Bj hil⟩
  have hzg := bI hy
  have htk : l.take (i + 1) = l.take i ++ [y] := by rw [List.take_add_one, hy]; rfl
  clear h
  repeat' (first|refine a8 ?_|refine a0 ?_|refine aj ?_|refine ah ?_|refine a5 ?_|refine a6 ?_|refine a7 a4 rfl rfl ?_|(apply aE; first|refine aD a4 ?_|refine aA a4 ?_)|fail)
  refine aq rfl (fun h2 => ?_) (fun h2 => ?_)
  ·have h2' := Dz h2
   subst h2'
   repeat' (first|refine a8 ?_|refine a0 ?_|refine ae ?_|refine a5 ?_|refine am ?_|refine aI ?_|refine bc ?_|refine a6 ?_|refine a7 a4 rfl rfl ?_)
   refine ak rfl rfl ?_
   have hm := Dw hy
   have : l.idxOf z = i := by
    have e : l = l.take i ++ z :: l.drop (i + 1) := by
     conv => lhs; rw [← List.take_append_drop i l, List.drop_eq_getElem_cons hil, (Dp hy).2]
    rw [e, List.idxOf_append, if_neg hi.2, List.idxOf_cons_self, List.length_take]
    omega
   rw [if_pos hm, this]
  ·have h2' := Dy h2
   repeat' (first|refine a0 ?_|refine ah ?_|refine a5 ?_|refine aH ?_|refine a6 ?_|refine a7 a4 rfl rfl ?_|(apply aS; refine aR ?_)|fail)
   exact ay (i + 1) rfl ⟨by rw [Dv]; rfl, trivial⟩ ⟨by omega, by rw [htk]; simp [hi.2]; exact h2'⟩ (by omega) (fun _ _ h => h)
 ·have hil : i = l.length := by have := Dy h; omega
  subst hil
  rw [List.take_length] at hi
  repeat' (first|refine a8 ?_|refine a0 ?_|refine ae ?_|refine aL ?_|refine a5 ?_|refine ar ?_|refine av ?_|refine au ?_|refine a6 ?_|refine a7 a4 rfl rfl ?_)
  refine ak rfl rfl ?_
  rw [if_neg hi.2]
instance (l : List Int) (z : Int) : AD Tryz.prog 190 [.imm 1 (aU l), az z] (az (if z ∈ l then (l.idxOf z : Nat) else -1)) := ⟨s9 l z⟩
theorem nF (l : List Int) (z : Int) : bk Tryz.prog 187 [.imm 1 (aU l), az z] (dx (l.contains z)) := by
 refine aB Tryz.func187 rfl Tryz.ntmps187 rfl fun B => ?_
 repeat' (first|refine a8 ?_|refine a0 ?_|refine ae ?_|refine a5 ?_|refine a6 ?_|refine a7 a4 rfl rfl ?_|(apply bb;refine b4 ?_)|fail)
 refine ak rfl rfl ?_
 congr 2
 by_cases h : z ∈ l
 ·rw [if_pos h, decide_eq_true (by omega)]; simp [h]
 ·rw [if_neg h, decide_eq_false (by omega)]; simp [h]
instance (l : List Int) (z : Int) : AD Tryz.prog 187 [.imm 1 (aU l), az z] (dx (l.contains z)) := ⟨nF l z⟩
structure i4 (e : lY) : Prop where
 few : e.l.Rules.length ≤ 6
 ends : oO e
 fore : ∀ gl, ec e.cls e.fore e.foreE gl = bF (dm (e.l.Rules.map cL) (od e.l.Rules) gl) (e.l.Rules.map cL).length
 back : ∀ gl, ec e.cls e.back e.backE gl = bF (dm (e.l.Rules.map aT.Back) (fun _ => true) gl) (e.l.Rules.map aT.Back).length
 long : e9 e.l.Rules ≤ 1000000 ∧ fv e.l.Rules ≤ 1000000
section
variable {e : lY} (h : i4 e)
include h
theorem i4.lt (bg fg : List Int) : ec e.cls e.back e.backE bg &&& ec e.cls e.fore e.foreE fg < 64 := by
 have h1 := Nat.and_le_right (n := ec e.cls e.back e.backE bg) (m := ec e.cls e.fore e.foreE fg)
 have h2 := jK (dm (e.l.Rules.map cL) (od e.l.Rules) fg) (e.l.Rules.map cL).length
 rw [← h.fore fg, Du] at h2
 have h3 : 2 ^ e.l.Rules.length ≤ 2 ^ 6 := Nat.pow_le_pow_right (by omega) h.few
 have : (2 : Nat) ^ 6 = 64 := rfl
 omega
theorem i4.first (ms : List Bool) (run : List aF) (i : Nat) : oX (ec e.cls e.back e.backE (((jJ ms e.l.Ignore run i).take (fv e.l.Rules)).map (ep run)) &&& ec e.cls e.fore e.foreE (((dh ms e.l.Ignore run i).take (e9 e.l.Rules)).map (ep run))) = match e.l.Rules.findIdx? (dP ms e.l.Ignore run i) with
  | some n => (n : Int)
  | none => -1 := by
 have hlt := h.lt (((jJ ms e.l.Ignore run i).take (fv e.l.Rules)).map (ep run)) (((dh ms e.l.Ignore run i).take (e9 e.l.Rules)).map (ep run))
 rw [h.fore, h.back] at hlt ⊢
 have ht := rV (ms := ms) (ig := e.l.Ignore) (run := run) (i := i) (rs := e.l.Rules) fun n => u6 (rs := e.l.Rules) (n := n)
 generalize (bF (dm (e.l.Rules.map aT.Back) _ _) _ &&& _) = b at ht hlt ⊢
 obtain ⟨k1, k2⟩ := sd (q := dP ms e.l.Ignore run i) (l := e.l.Rules) ht
 unfold oX
 cases hf : e.l.Rules.findIdx? (dP ms e.l.Ignore run i) with
 | none => rw [k2 hf]; rfl
 | some n =>
  obtain ⟨k3, k4⟩ := k1 n hf
  have hn := (List.findIdx?_eq_some_iff_getElem.1 hf).1
  have hf := h.few
  rw [if_neg (fun e => by rw [e, Nat.zero_testBit] at k3; cases k3)]
  exact xC b hlt n (by omega) k3 k4
end
theorem qz : ∀ {ss : List (List Int)} {gl : List Int}, dy ss gl = true → ss.length ≤ gl.length
 | [], _, _ => Nat.zero_le _
 | _ :: _, [], h => by cases h
 | _ :: ss, _ :: gl, h => by
  rw [dy, Bool.and_eq_true] at h
  have := qz h.2
  simp; omega
theorem lO {ms : List Bool} {ig : Bool} {run : List aF} {i : Nat} {r : aT} (h : dP ms ig run i r = true) : 0 < r.In.length ∧ r.In.length ≤ (dh ms ig run i).length := by
 unfold dP at h
 rw [Bool.and_eq_true, Bool.and_eq_true] at h
 have h1 := qz h.2.1
 rw [List.length_append, Du] at h1
 constructor
 ·have := h.1
  cases hr : r.In with
  | nil => rw [hr] at this; cases this
  | cons a b => simp
 ·omega
theorem wD {rs : List aT} {r : aT} (h : r ∈ rs) : r.In.length ≤ e9 rs := by
 have := (jT (g := fun r : aT => r.In.length + r.Ahead.length) (m := 0)).2 r h
 unfold e9
 omega
theorem xl {ms : List Bool} {ig : Bool} {run : List aF} {i : Nat} : fJ ms ig run true (i : Int) = dh ms ig run i := by
 unfold fJ
 rw [if_pos rfl, Int.toNat_natCast]
theorem sD {ms : List Bool} {ig : Bool} {run : List aF} {i : Nat} : fJ ms ig run false ((i : Int) - 1) = jJ ms ig run i := by
 unfold fJ
 simp only [Bool.false_eq_true, if_false]
 rw [show ((i : Int) - 1 + 1).toNat = i by omega]
def iA (E : lZ) (l : aQ) (run : List aF) (i : Nat) (forms : List Int) : AV := match dp E.ms l run i forms with
 | none => .tup [CA, .sc (.slice none 0 0)]
 | some r => .tup [.iptr (bH (dr r)), .imm 1 (cD (cM E.ms l run i r))]
abbrev g7 (wb : Nat) (E : lZ) (q : Option ei) (run : List aF) : AL := rm wb (.iptr (d9 E)) q run ++ [cz]
set_option maxHeartbeats 4000000 in
theorem mY (E : lZ) (e : lY) (he : i4 e) (wb : Nat) (q : Option ei) (run : List aF) (hq : cR q run) (hr : run.length ≤ 1000000) (i : Nat) (hi0 : i ≤ 1000000) (forms : List Int) : AC Tryz.prog 102 [eh wb, .iptr (dL e), az i, .imm 1 (aU forms)] (g7 wb E q run) fun c L => c = iA E e.l run i forms ∧ L = g7 wb E q run := by
 refine aB Tryz.func102 rfl Tryz.ntmps102 rfl fun B => ?_
 have hfl := b6 forms
 refine cf 3 rfl rfl fun hlen => ?_
 by_cases hi : i < run.length
 ·obtain ⟨m, rfl⟩ := hq.lt hi
  obtain ⟨x, hx⟩ : ∃ x, run[i]? = some x := ⟨_, Bj hi⟩
  have hse := pG E e wb m run i x hx
  repeat' (first|refine a8 ?_|refine a0 ?_|refine a5 ?_|refine a6 ?_|refine a7 a4 rfl rfl ?_|refine an rfl rfl ?_|(apply bD; first|refine ai a4 0 rfl rfl rfl rfl rfl ?_|refine ai a4 1 rfl rfl rfl rfl rfl ?_|refine ai a4 2 rfl rfl rfl rfl rfl ?_|refine ai a4 3 rfl rfl rfl rfl rfl ?_|refine ax a4 0 rfl rfl rfl rfl rfl ?_|refine ax a4 1 rfl rfl rfl rfl rfl ?_|refine ax a4 2 rfl rfl rfl rfl rfl ?_|refine ai a4 1 rfl rfl rfl (by assumption) rfl ?_|refine ai a4 0 rfl rfl rfl (by assumption) rfl ?_|fail)|fail)
  refine bG [0, 1, 2, 3] (lP E.ms e.l.Ignore x = false) rfl (fun Q' K => ?_) (fun hC => ?_) (fun hC => ?_)
  ·repeat' (first|refine a6 ?_|refine a7 a4 rfl rfl ?_|refine an rfl rfl ?_|refine aw rfl rfl rfl rfl ?_|refine aG rfl rfl rfl (fun _ => ?_) (fun _ => ?_))
   ·refine aN (rm wb (.iptr (d9 E)) (some m) run) [cz] hse rfl rfl (Do _) rfl fun c L1 ⟨hc, hL⟩ => ?_
    subst hc; subst hL
    repeat' (first|refine a6 ?_|refine a7 a4 rfl rfl ?_|refine an rfl rfl ?_)
    exact K _ _ rfl rfl (by simp)
   ·rename_i hx2
    have := Dz hx2
    omega
  ·have hm : dp E.ms e.l run i forms = none := by
    unfold dp
    rw [if_neg]
    unfold jl
    rw [hx]
    dsimp only
    rw [hC]
    simp
   unfold iA
   rw [hm]
   repeat' (first|refine a8 ?_|refine a0 ?_|refine ae ?_|refine a5 ?_|refine am ?_|refine a6 ?_|refine a7 a4 rfl rfl ?_)
   exact aJ rfl rfl rfl ⟨rfl, rfl⟩
  have hC : lP E.ms e.l.Ignore x = true := by simpa using hC
  have h2 := lA (j := 2) m.junk hx rfl
  repeat' (first|refine a8 ?_|refine a0 ?_|refine ah ?_|refine a5 ?_|refine a7 a4 rfl rfl ?_)
  refine bG [0, 1, 2] (forms ≠ [] ∧ forms.contains x.Form = false) rfl (fun Q' K => ?_) (fun hC2 => ?_) (fun hC2 => ?_)
  ·repeat' (first|refine a6 ?_|refine a7 a4 rfl rfl ?_|refine an rfl rfl ?_|refine aw rfl rfl rfl rfl ?_|(apply bD; first|refine ai a4 0 rfl rfl rfl rfl rfl ?_|refine ai a4 1 rfl rfl rfl rfl rfl ?_|refine ai a4 2 rfl rfl rfl rfl rfl ?_|refine ai a4 3 rfl rfl rfl rfl rfl ?_|refine ax a4 0 rfl rfl rfl rfl rfl ?_|refine ax a4 1 rfl rfl rfl rfl rfl ?_|refine ax a4 2 rfl rfl rfl rfl rfl ?_|refine ai a4 1 rfl rfl rfl (by assumption) rfl ?_|refine ai a4 0 rfl rfl rfl (by assumption) rfl ?_|fail)|(apply aE; first|refine aD a4 ?_|refine aA a4 ?_)|(apply bb;refine b4 ?_)|refine aG rfl rfl rfl (fun _ => ?_) (fun _ => ?_))
   all_goals exact K _ _ rfl rfl (by cases forms <;> simp_all)
  ·have hm : dp E.ms e.l run i forms = none := by
    unfold dp
    rw [if_neg]
    unfold jl
    rw [hx]
    dsimp only
    rw [hC2.2]
    cases forms with
    | nil => exact absurd rfl hC2.1
    | cons a b => simp
   unfold iA
   rw [hm]
   repeat' (first|refine a8 ?_|refine a0 ?_|refine ae ?_|refine a5 ?_|refine am ?_|refine a6 ?_|refine a7 a4 rfl rfl ?_)
   exact aJ rfl rfl rfl ⟨rfl, rfl⟩
  have hbe : jl E.ms e.l.Ignore run i forms = true := by
   unfold jl
   rw [hx]
   dsimp only
   rw [hC]
   cases forms with
   | nil => rfl
   | cons a b => cases hcc : (a :: b).contains x.Form with
    | true => rfl
    | false => exact absurd ⟨by simp, hcc⟩ hC2
  have hmv : dp E.ms e.l run i forms = e.l.Rules.find? (dP E.ms e.l.Ignore run i) := by
   unfold dp
   rw [if_pos hbe]
  have s1 := tH E e wb (some m) run hq hr true i ⟨by omega, fun _ => by omega, fun h => by cases h⟩ (by omega) (e9 e.l.Rules)
  have s2 := tH E e wb (some m) run hq hr false ((i : Int) - 1) ⟨by omega, fun h => (by cases h), fun _ => by omega⟩ (by omega) (fv e.l.Rules)
  rw [xl] at s1
  rw [sD] at s2
  have hfirst := he.first E.ms run i
  repeat' (first|refine a8 ?_|refine a0 ?_|refine ah ?_|refine a5 ?_|refine a7 a4 rfl rfl ?_)
  refine aN (rm wb (.iptr (d9 E)) (some m) run) [cz] s1 rfl rfl (Do _) rfl fun c L1 ⟨hc, hL⟩ => ?_
  subst hc; subst hL
  repeat' (first|refine a8 ?_|refine a0 ?_|refine a5 ?_|refine a6 ?_|refine a7 a4 rfl rfl ?_|(apply aS; refine aR ?_)|fail)
  refine aN (rm wb (.iptr (d9 E)) (some m) run) [cz] s2 rfl rfl (Do _) rfl fun c L1 ⟨hc, hL⟩ => ?_
  subst hc; subst hL
  repeat' (first|refine a8 ?_|refine a0 ?_|refine a5 ?_|refine a6 ?_|refine a7 a4 rfl rfl ?_)
  refine aN [cz] (rm wb (.iptr (d9 E)) (some m) run) (tT e he.ends _ _ (he.lt _ _)) rfl rfl List.perm_append_comm rfl fun c L1 ⟨hc, hL⟩ => ?_
  subst hc; subst hL
  refine aP (aV (L' := g7 wb E (some m) run) List.perm_append_comm) ?_
  rw [hfirst]
  unfold iA
  rw [hmv, wk]
  cases hfi : e.l.Rules.findIdx? (dP E.ms e.l.Ignore run i) with
  | none =>
   dsimp only [Option.bind_none]
   repeat' (first|refine a8 ?_|refine a0 ?_|refine ae ?_|refine a5 ?_|refine am ?_|refine a6 ?_|refine a7 a4 rfl rfl ?_|refine br rfl ?_)
   exact aJ rfl rfl rfl ⟨rfl, rfl⟩
  | some n =>
   obtain ⟨hn, hn1, hn2⟩ := List.findIdx?_eq_some_iff_getElem.1 hfi
   obtain ⟨r, hrr⟩ : ∃ r, e.l.Rules[n]? = some r := ⟨_, Bj hn⟩
   rw [(Dp hrr).2] at hn1
   obtain ⟨hin0, hin⟩ := lO hn1
   have hfm := wD (Dw hrr)
   have hrg : ((fZ e.l).Rules.map bH)[n]? = some (bH (dr r)) := by simp [fZ, hrr]
   have hpl : ((dh E.ms e.l.Ignore run i).take (e9 e.l.Rules)).take r.In.length = cM E.ms e.l run i r := by
    unfold cM
    rw [List.take_take, Nat.min_eq_left hfm]
   have hnl := iY ((dh E.ms e.l.Ignore run i).take (e9 e.l.Rules))
   rw [List.length_take] at hnl
   have hril := bQ r.In
   dsimp only [Option.bind_some]
   rw [hrr]
   dsimp only
   repeat' (first|refine a8 ?_|refine a0 ?_|refine ah ?_|refine a5 ?_|refine a6 ?_|refine a7 a4 rfl rfl ?_|(apply aE; first|refine aD a4 ?_|refine aA a4 ?_)|refine bB rfl ?_)
   refine bj 6 [(0, .v), (1, .v), (2, .v), (3, .v), (4, .v), (5, .v)] none ?_ trivial rfl (by kernel_rfl) (by kernel_rfl) (by kernel_rfl) c9 (by kernel_rfl) rfl
   repeat' (first|refine aC ?_|refine bh a4 ?_|fail)
   refine yg a4 r.In.length rfl rfl rfl rfl rfl rfl (by rw [show (dr r).In = r.In from rfl, hril]) (by rw [show (dr r).In = r.In from rfl, hril]) (by omega) trivial ?_
   rw [show (cD ((dh E.ms e.l.Ignore run i).take (e9 e.l.Rules))).take r.In.length = cD (cM E.ms e.l run i r) by rw [← hpl]; unfold cD aU; rw [← List.map_take, ← List.map_take]]
   repeat' (first|refine aC ?_|refine bh a4 ?_|fail)
   refine bv [8, 99] rfl rfl ?_
   repeat' (first|refine ae ?_|refine a5 ?_|refine a6 ?_|refine a7 a4 rfl rfl ?_)
   exact aJ rfl rfl rfl ⟨rfl, rfl⟩
 ·have hm : dp E.ms e.l run i forms = none := by
   unfold dp
   rw [if_neg]
   unfold jl
   rw [List.getElem?_eq_none (by omega)]
   exact fun h => by cases h
  unfold iA
  rw [hm]
  repeat' (first|refine a8 ?_|refine a0 ?_|refine a5 ?_|refine a6 ?_|refine a7 a4 rfl rfl ?_|refine an rfl rfl ?_|(apply bD; first|refine ai a4 0 rfl rfl rfl rfl rfl ?_|refine ai a4 1 rfl rfl rfl rfl rfl ?_|refine ai a4 2 rfl rfl rfl rfl rfl ?_|refine ai a4 3 rfl rfl rfl rfl rfl ?_|refine ax a4 0 rfl rfl rfl rfl rfl ?_|refine ax a4 1 rfl rfl rfl rfl rfl ?_|refine ax a4 2 rfl rfl rfl rfl rfl ?_|refine ai a4 1 rfl rfl rfl (by assumption) rfl ?_|refine ai a4 0 rfl rfl rfl (by assumption) rfl ?_|fail)|fail)
  refine bG [0, 1, 2, 3] True rfl (fun Q' K => ?_) (fun hC => ?_) (fun hC => absurd trivial hC)
  ·repeat' (first|fail)
   refine jv a4 rfl hq rfl rfl ?_
   repeat' (first|refine a6 ?_|refine a7 a4 rfl rfl ?_|refine an rfl rfl ?_|refine aw rfl rfl rfl rfl ?_|refine aG rfl rfl rfl (fun _ => ?_) (fun _ => ?_))
   ·rename_i h
    have := Dy h
    omega
   ·exact K _ _ rfl rfl (by simp)
  ·repeat' (first|refine a8 ?_|refine a0 ?_|refine ae ?_|refine a5 ?_|refine am ?_|refine a6 ?_|refine a7 a4 rfl rfl ?_)
   exact aJ rfl rfl rfl ⟨rfl, rfl⟩
end Go.Proofs.YtpmdfoaadejmkaaGreatDoor
namespace Go.Proofs.YtpmdfoaadejmkaaGreatDoor
open Go.RowKit
section
variable {P : Program} {tt : TT} {l : List Oper} {fr : bw} {fin : jh} {sk : lg} {acc : bw} {L : AL} {k : Nat} {dd : Option Tmp} {ty t : TypeId} {pos : String} {af : Array Edge} {g : Option (Nat × Bool)}
theorem wa (ok : dg P tt) {zs : List Value} (hz : zI tt t = some zs) (h1 : zs.all (·.oneCell') = true) (hg : iK ⟨dd, .alloc t, ty, pos, af, g⟩ acc) (h : ∀ b, DA P l fr fin sk ((k, .sc (.pointer (some ⟨b, 0, none⟩))) :: acc) ((b, .box (zs.map .sc) t) :: L)) :
  cA P l fr fin k .a ⟨dd, .alloc t, ty, pos, af, g⟩ sk acc L :=
 AE (fun c L' ⟨b, _, h2⟩ => ⟨[(b, _)], h2⟩) hg (fun _ => q4 (eD ok hz) h1) fun c L' ⟨b, h1, h2⟩ => by subst h1; subst h2; exact h b
end
end Go.Proofs.YtpmdfoaadejmkaaGreatDoor
namespace Go.Proofs.YtpmdfoaadejmkaaGreatDoor
open Go.RowKit
attribute [local irreducible] AT bf AX AO Av Kt aZ df DA cA
theorem iu {run : List aF} {i j : Nat} {x : aF} (y : aF) (v : AV) (junk : List AV) (h : run[i]? = some x) (hj : j < 6) (hy : bM y = (bM x).set j v) : eE (bo run ++ junk) (0 + ((i : Nat) : Int).toNat * 6 + j) [v] = bo (run.set i y) ++ junk := by
 rw [fI, Int.toNat_natCast, Nat.zero_add]
 have hi := (Dp h).1
 have hl := cw run
 rw [List.set_append, if_pos (by omega)]
 congr 1
 unfold bo
 have hm : (run.map bM)[i]? = some (bM x) := by simp [h]
 rw [qB (sz := 6) (run.map bM) i j (bM x) v (fun e he => by obtain ⟨z, _, rfl⟩ := List.mem_map.1 he; rfl) hm hj, ← hy, List.map_set]
theorem kU (run : List aF) (junk : List AV) {k : Nat} (h : k ≤ run.length) : (bo run ++ junk).take (k * 6) = bo (run.take k) := by
 have e : bo run = bo (run.take k) ++ bo (run.drop k) := by rw [← fj, List.take_append_drop]
 have hl := cw (run.take k)
 rw [List.length_take, Nat.min_eq_left h] at hl
 rw [e, List.append_assoc, ← hl, List.take_left]
theorem o9 (run : List aF) (junk : List AV) {k : Nat} (h : k ≤ run.length) : ((bo run ++ junk).drop (k * 6)).take ((run.length - k) * 6) = bo (run.drop k) := by
 have e : bo run = bo (run.take k) ++ bo (run.drop k) := by rw [← fj, List.take_append_drop]
 have hl := cw (run.take k)
 rw [List.length_take, Nat.min_eq_left h] at hl
 have hl2 := cw (run.drop k)
 rw [List.length_drop] at hl2
 rw [e, List.append_assoc, ← hl, List.drop_left, ← hl2, List.take_left]
theorem uq (run : List aF) (junk : List AV) {i : Nat} {x : aF} (h : run[i]? = some x) : ((bo run ++ junk).drop (i * 6)).take 6 = bM x := by
 have hi := (Dp h).1
 have e : bo run = bo (run.take i) ++ (bM x ++ bo (run.drop (i + 1))) := by
  rw [← jr, ← fj]
  congr 1
  rw [← (Dp h).2, List.getElem_cons_drop, List.take_append_drop]
 have hl := cw (run.take i)
 rw [List.length_take, Nat.min_eq_left (by omega)] at hl
 rw [e, List.append_assoc, ← hl, List.drop_left, List.append_assoc]
 exact List.take_left (l₁ := bM x)
theorem wy (b k n : Nat) (cs : List AV) (hk : k * 6 ≤ cs.length) (hk1 : k ≤ 1000000) (hn1 : n ≤ 2000000) : AC Tryz.prog 259 [.sc (.slice (some ⟨b, 0, none⟩) k k), az n] [(b, .box cs 67)] fun c L =>
  (n = 0 ∧ c = .sc (.slice (some ⟨b, 0, none⟩) k k) ∧ L = [(b, .box cs 67)]) ∨
  (0 < n ∧ ∃ b' cs' cap', c = .sc (.slice (some ⟨b', 0, none⟩) k cap') ∧ cap' * 6 ≤ cs'.length ∧ cs'.take (k * 6) = cs.take (k * 6) ∧ k + n ≤ cap' ∧ cap' ≤ maxLen ∧ L = [(b', .box cs' 67), (b, .box cs 67)]) := by
 refine aB Tryz.func259 rfl Tryz.ntmps259 rfl fun B => ?_
 repeat' (first|refine a8 ?_|refine a0 ?_|refine ah ?_|refine a5 ?_|refine a6 ?_|refine a7 a4 rfl rfl ?_|refine bB rfl ?_)
 refine pj a4 rfl rfl rfl ?_
 repeat' (first|refine a8 ?_|refine a0 ?_|refine a5 ?_|refine a6 ?_|refine a7 a4 rfl rfl ?_|(apply aS; refine aR ?_)|fail)
 refine aq rfl (fun h => ?_) fun h => ?_
 ·have hn0 : 0 < n := by have := Dz h; omega
  repeat' (first|refine a0 ?_|refine a7 a4 rfl rfl ?_)
  refine pj a4 rfl rfl rfl ?_
  repeat' (first|fail)
  refine tu a4 k rfl rfl rfl rfl (Nat.le_refl _) rfl ?_
  repeat' (first|refine a7 a4 rfl rfl ?_)
  refine sm a4 0 n rfl rfl rfl Tryz.underlying3 rfl rfl (by omega) hn0 rfl hk (Nat.le_refl _) (by omega) (by unfold maxLen; omega) (by omega) rfl fun b' cs' cap' h1 h2 h3 h4 => ?_
  repeat' (first|refine a7 a4 rfl rfl ?_)
  refine tu a4 k rfl rfl rfl rfl (by omega) rfl ?_
  repeat' (first|refine a8 ?_|refine a0 ?_|refine ae ?_|refine a5 ?_|refine a6 ?_|refine a7 a4 rfl rfl ?_)
  exact ak rfl rfl (.inr ⟨hn0, b', cs', cap', rfl, h1, h2, h3, h4, rfl⟩)
 ·have hn0 : n = 0 := by have := Dy h; omega
  repeat' (first|refine a8 ?_|refine a0 ?_|refine ah ?_|refine ae ?_|refine a5 ?_|refine a6 ?_|refine a7 a4 rfl rfl ?_)
  exact ak rfl rfl (.inl ⟨hn0, rfl, rfl⟩)
theorem oF {fr : bw} {B : Bs} {L : AL} {y : Operand} {sz c : Nat} {A : Option Addr} (hy : aW fr y = some (.sc (.slice A 0 c))) : rr fr B L y sz 0 [] := fun σ ρ w hρ _ => ⟨A, c, [], (hρ y _ hy).sc_inv, cI.nil, by simp, by simp, fun h => by omega⟩
theorem rX {run : List aF} (junk : List AV) {i : Nat} {x : aF} (h : run[i]? = some x) : ((bo run ++ junk).drop (0 + ((i : Nat) : Int).toNat * 6)).take 6 = bM x := by
 rw [Int.toNat_natCast, Nat.zero_add]
 exact uq run junk h
def sv (x : aF) (l : List Int) : List aF := l.map fun g => { x with Glyph := g }
theorem x8 (x : aF) (l : List Int) : (sv x l).length = l.length := by simp [sv]
theorem B7 {a b : Nat × AB} {X : AL} : (a :: b :: X).Perm (b :: a :: X) := List.Perm.swap ..
theorem CD {a b c d : Nat × AB} : [a, b, c, d].Perm [c, b, d, a] := (List.Perm.cons a (List.Perm.swap c b _)).trans ((List.Perm.swap c a _).trans ((((List.Perm.swap b a _).trans ((List.Perm.swap d a _).cons b))).cons c))
theorem CE {a b c d : Nat × AB} {X : AL} : ((a :: X) ++ [b, c, d]).Perm (b :: a :: c :: d :: X) := (List.perm_append_comm (l₁ := a :: X) (l₂ := [b, c, d])).trans (((List.Perm.swap a d _).cons c |>.trans (List.Perm.swap a c _)).cons b)
set_option maxHeartbeats 4000000 in
theorem wQ (E : lZ) (wb : Nat) (m : ei) (run : List aF) (hq : cR (some m) run) (hr : run.length ≤ 1000000) (i : Nat) (x : aF) (hx : run[i]? = some x) (r : aT) (ho : r.Out.length ≤ 1000000) : AC Tryz.prog 191 [eh wb, az i, .imm 1 (aU r.Out)] (g7 wb E (some m) run) fun _ L => ∃ q', cR q' (fF r i run) ∧ L = g7 wb E q' (fF r i run) := by
 refine aB Tryz.func191 rfl Tryz.ntmps191 rfl fun B => ?_
 have hil := (Dp hx).1
 have hol := b6 r.Out
 obtain ⟨h1, h2, h3⟩ := hq.fit m rfl
 have hfl := cw run
 have hmv : fF r i run = if run.length - 1 + r.Out.length > 500 ∧ 1 < r.Out.length then run else run.take i ++ sv x r.Out ++ run.drop (i + 1) := by
  unfold fF
  rw [hx]
  rfl
 have hit := rX m.junk hx
 unfold maxLen at h2
 repeat' (first|refine a8 ?_|refine a0 ?_|refine a5 ?_|refine a6 ?_|refine a7 a4 rfl rfl ?_|(apply bD; first|refine ai a4 0 rfl rfl rfl rfl rfl ?_|refine ai a4 1 rfl rfl rfl rfl rfl ?_|refine ai a4 2 rfl rfl rfl rfl rfl ?_|refine ai a4 3 rfl rfl rfl rfl rfl ?_|refine ax a4 0 rfl rfl rfl rfl rfl ?_|refine ax a4 1 rfl rfl rfl rfl rfl ?_|refine ax a4 2 rfl rfl rfl rfl rfl ?_|refine ai a4 1 rfl rfl rfl (by assumption) rfl ?_|refine ai a4 0 rfl rfl rfl (by assumption) rfl ?_|fail)|(apply aS; refine aR ?_)|fail)
 refine bG [0, 1, 2] (run.length - 1 + r.Out.length > 500 ∧ 1 < r.Out.length) rfl (fun Q' K => ?_) (fun hC => ?_) (fun hC => ?_)
 ·repeat' (first|refine a6 ?_|refine a7 a4 rfl rfl ?_|refine an rfl rfl ?_|refine aw rfl rfl rfl rfl ?_|refine aG rfl rfl rfl (fun _ => ?_) (fun _ => ?_))
  all_goals exact K _ _ rfl rfl (by simp_all <;> omega)
 ·rw [if_pos hC] at hmv
  repeat' (first|refine ae ?_|refine am ?_)
  exact m8 rfl ⟨some m, by rw [hmv]; exact hq, by rw [hmv]⟩
 rw [if_neg hC] at hmv
 repeat' (first|refine a8 ?_|refine ah ?_|refine a5 ?_)
 refine mp [.cell (wb, 1, dq (some m) run)] 17 [(0, .v), (1, .v), (2, .v), (3, .l), (4, .v), (5, .v), (6, .l), (7, .v), (8, .v), (9, .v), (10, .k), (11, .v), (12, .v), (13, .v), (14, .a), (15, .f), (16, .v)] none ?_ trivial rfl (by kernel_rfl) (by kernel_rfl) (by kernel_rfl) c9 (by kernel_rfl) rfl
 repeat' (first|refine aC ?_|refine bh a4 ?_|refine bW a4 0 rfl rfl rfl rfl (by first|trivial|rfl) ?_)
 refine cJ a4 rfl rfl rfl ⟨by omega, by omega⟩ trivial ?_
 repeat' (first|refine aC ?_|fail)
 refine t5 a4 1 rfl rfl rfl (Nat.ble_eq_true_of_le (by rw [Int.toNat_natCast]; simp; omega)) trivial ?_
 rw [hit]
 repeat' (first|refine aC ?_|refine bh a4 ?_|fail)
 refine t6 a4 0 rfl rfl rfl (jY 0 rfl rfl) trivial ?_
 repeat' (first|refine aC ?_|refine bh a4 ?_|(apply io;refine lx ?_)|fail)
 refine t4 a4 (i + 1) rfl rfl rfl (by omega) (by omega) h1 trivial ?_
 repeat' (first|refine aC ?_|fail)
 refine wa a4 rfl rfl trivial fun ib => ?_
 repeat' (first|refine aC ?_|fail)
 refine wd a4 0 rfl rfl rfl rfl rfl rfl rfl (jY 1 rfl rfl) trivial fun _ => ?_
 repeat' (first|refine aC ?_|refine bh a4 ?_|fail)
 refine bv [0, 1, 2, 7, 8] rfl rfl ?_
 repeat' (first|refine a8 ?_|refine a0 ?_|refine a5 ?_|refine a6 ?_|refine a7 a4 rfl rfl ?_|(apply bD; first|refine ai a4 0 rfl rfl rfl rfl rfl ?_|refine ai a4 1 rfl rfl rfl rfl rfl ?_|refine ai a4 2 rfl rfl rfl rfl rfl ?_|refine ai a4 3 rfl rfl rfl rfl rfl ?_|refine ax a4 0 rfl rfl rfl rfl rfl ?_|refine ax a4 1 rfl rfl rfl rfl rfl ?_|refine ax a4 2 rfl rfl rfl rfl rfl ?_|refine ai a4 1 rfl rfl rfl (by assumption) rfl ?_|refine ai a4 0 rfl rfl rfl (by assumption) rfl ?_|fail)|fail)
 refine AW a4 i rfl rfl rfl rfl rfl rfl (by omega) rfl ?_
 repeat' (first|refine a7 a4 rfl rfl ?_|(apply aS; refine aR ?_)|fail)
 have hfll : (bo run ++ m.junk).length = run.length * 6 + m.junk.length := by rw [List.length_append, hfl]
 have hti := kU run m.junk (Nat.le_of_lt hil)
 have hgr := wy m.rb i (r.Out.length + (run.length - (i + 1))) (bo run ++ m.junk) (by omega) (by omega) (by omega)
 refine aP (aV (L' := (m.rb, .box (bo run ++ m.junk) 67) :: [(wb, .box [.iptr (d9 E), dq (some m) run] 102), cz, (ib, .box (bM x) 67)]) ?_) ?_
 ·exact CD
 refine aN [(m.rb, .box (bo run ++ m.junk) 67)] [(wb, .box [.iptr (d9 E), dq (some m) run] 102), cz, (ib, .box (bM x) 67)] hgr rfl (by rw [hol]; rfl) (Do _) rfl fun c L1 hp => ?_
 obtain ⟨db, dcs, dcap, X, hc, hL, hd1, hd2, hd3, kY, hX⟩ : ∃ db dcs dcap X, c = .sc (.slice (some ⟨db, 0, none⟩) i dcap) ∧ L1 = (db, .box dcs 67) :: X ∧ dcap * 6 ≤ dcs.length ∧ dcs.take (i * 6) = bo (run.take i) ∧ i + (r.Out.length + (run.length - (i + 1))) ≤ dcap ∧ dcap ≤ maxLen ∧ (r.Out.length + (run.length - (i + 1)) = 0 ∨ X = [(m.rb, .box (bo run ++ m.junk) 67)]) := by
  rcases hp with ⟨h0, hc, hL⟩ | ⟨h0, b', cs', cap', hc, h4, h5, h6, h7, hL⟩
  ·exact ⟨m.rb, _, i, [], hc, hL, by omega, hti, by omega, by unfold maxLen; omega, .inl h0⟩
  ·exact ⟨b', cs', cap', _, hc, hL, h4, by rw [h5, hti], h6, h7, .inr rfl⟩
 subst hc; subst hL
 unfold maxLen at kY
 refine aP (aV (L' := (wb, .box [.iptr (d9 E), dq (some m) run] 102) :: (db, .box dcs 67) :: cz :: (ib, .box (bM x) 67) :: X) ?_) ?_
 ·exact CE
 repeat' (first|refine a8 ?_|refine a0 ?_|refine aj ?_|refine a5 ?_|refine a6 ?_|refine a7 a4 rfl rfl ?_)
 refine aK [0, 7, 8, 59, 60] (α := Nat × Int × List AV) (fun s => [(61, az s.1), (9, .sc (.slice (some ⟨db, 0, none⟩) (i + s.1 : Nat) dcap))]) (fun s => s.1 ≤ r.Out.length ∧ dcap * 6 ≤ s.2.2.length ∧ s.2.2.take ((i + s.1) * 6) = bo (run.take i ++ sv x (r.Out.take s.1))) (fun s => (wb, .box [.iptr (d9 E), dq (some m) run] 102) :: (db, .box s.2.2 67) :: cz :: (ib, .box (bM { x with Glyph := s.2.1 }) 67) :: X) (fun s => r.Out.length - s.1) (0, x.Glyph, dcs) rfl ⟨rfl, rfl, trivial⟩ ⟨Nat.zero_le _, hd1, by simpa [sv] using hd2⟩ (fun _ _ h => h) ?_
 rintro ⟨k, g, cs⟩ ⟨hk, hcl, hct⟩
 dsimp only at hk hcl hct ⊢
 try dsimp only [Ds, Dr, Dq, Dn]
 repeat' (first|refine a8 ?_|refine a0 ?_|refine a5 ?_|refine a6 ?_|refine a7 a4 rfl rfl ?_)
 refine aq rfl (fun h => ?_) (fun h => ?_)
 ·have hk2 : k < r.Out.length := by have := Dz h; omega
  obtain ⟨y, hy⟩ : ∃ z, r.Out[k]? = some z := ⟨_, Bj hk2⟩
  have hyg := bI hy
  clear h
  repeat' (first|refine a8 ?_|refine a0 ?_|refine aj ?_|refine ah ?_|refine a5 ?_|refine a6 ?_|refine a7 a4 rfl rfl ?_|(apply aE; first|refine aD a4 ?_|refine aA a4 ?_)|(apply aO; first|refine aa a4 0 rfl rfl rfl rfl rfl rfl rfl ?_|refine aa a4 1 rfl rfl rfl rfl rfl rfl rfl ?_|refine aa a4 2 rfl rfl rfl rfl rfl rfl rfl ?_|refine aa a4 3 rfl rfl rfl rfl rfl rfl rfl ?_|fail))
  refine ax a4 3 rfl rfl rfl rfl rfl ?_
  repeat' (first|refine cj a4 ?_|fail)
  refine iX a4 1 rfl rfl rfl rfl (r7 rfl rfl) rfl hcl (by omega) (by unfold maxLen; omega) (by simp; unfold maxLen; omega) (by simp; omega) rfl fun b' cs' cap' e1 e2 e3 e4 e5 => ?_
  obtain ⟨e6, e7, e8⟩ := e5 (by simp; omega)
  subst e6; subst e7
  refine aP (aV B7) ?_
  repeat' (first|refine a0 ?_|refine a5 ?_|refine aH ?_|refine a6 ?_|refine a7 a4 rfl rfl ?_|(apply aS; refine aR ?_)|fail)
  refine ay (k + 1, y, cs') rfl ⟨by rw [Dv]; rfl, rfl, trivial⟩ ⟨hk2, e1, ?_⟩ (by dsimp only; omega) (fun _ _ h => h)
  rw [← Nat.add_assoc]
  refine e2.trans ?_
  rw [hct, show r.Out.take (k + 1) = r.Out.take k ++ [y] by rw [List.take_add_one, hy]; rfl]
  unfold sv
  rw [List.map_append, ← List.append_assoc]
  refine Eq.trans ?_ (fj _ _).symm
  rfl
 ·have hke : k = r.Out.length := by have := Dy h; omega
  subst hke
  rw [List.take_length] at hct
  have hsrc : ∀ fr y B, aW fr y = some (.sc (.slice (some ⟨m.rb, if m.cap = i + 1 then 0 else (i + 1) * 6, none⟩) (run.length - (i + 1)) (m.cap - (i + 1)))) → rr fr B ((wb, .box [.iptr (d9 E), dq (some m) run] 102) :: (db, .box cs 67) :: cz :: (ib, .box (bM { x with Glyph := g }) 67) :: X) y 6 (run.length - (i + 1)) (bo (run.drop (i + 1))) := by
   intro fr y B hy
   by_cases hz : run.length - (i + 1) = 0
   ·rw [hz] at hy ⊢
    rw [List.drop_eq_nil_of_le (by omega)]
    exact oF hy
   ·rcases hX with hX | hX
    ·omega
    ·subst hX
     have hs := r8 (B := B) (sz := 6) (L := (wb, .box [.iptr (d9 E), dq (some m) run] 102) :: (db, .box cs 67) :: cz :: (ib, .box (bM { x with Glyph := g }) 67) :: [(m.rb, .box (bo run ++ m.junk) 67)]) 4 hy rfl (by split <;> omega)
     rw [if_neg (by omega), o9 run m.junk hil] at hs
     exact hs
  repeat' (first|refine a0 ?_|refine aL ?_|refine a5 ?_|refine ar ?_|refine av ?_|refine au ?_|refine a7 a4 rfl rfl ?_)
  refine iX a4 1 rfl rfl rfl rfl (hsrc _ _ _ rfl) rfl hcl (by omega) (by unfold maxLen; omega) (by unfold maxLen; omega) (by omega) rfl fun b' cs' cap' e1 e2 e3 e4 e5 => ?_
  obtain ⟨e6, e7, e8⟩ := e5 (by omega)
  subst e6; subst e7
  refine aP (aV B7) ?_
  repeat' (first|refine a6 ?_|refine a7 a4 rfl rfl ?_|(apply aO; first|refine aa a4 0 rfl rfl rfl rfl rfl rfl rfl ?_|refine aa a4 1 rfl rfl rfl rfl rfl rfl rfl ?_|refine aa a4 2 rfl rfl rfl rfl rfl rfl rfl ?_|refine aa a4 3 rfl rfl rfl rfl rfl rfl rfl ?_|fail))
  have hrun : fF r i run = run.take i ++ sv x r.Out ++ run.drop (i + 1) := hmv
  have hlen : (fF r i run).length = i + r.Out.length + (run.length - (i + 1)) := by
   rw [hrun, List.length_append, List.length_append, List.length_take, List.length_drop, x8]
   omega
  have hfl2 := cw (fF r i run)
  have hcs : cs' = bo (fF r i run) ++ cs'.drop ((i + r.Out.length + (run.length - (i + 1))) * 6) := by
   conv => lhs; rw [← List.take_append_drop ((i + r.Out.length + (run.length - (i + 1))) * 6) cs', e2, hct]
   rw [hrun, fj _ (run.drop (i + 1))]
  refine du (L' := [(wb, .box [.iptr (d9 E), .sc (.slice (some ⟨b', 0, none⟩) (i + r.Out.length + (run.length - (i + 1)) : Nat) cap')] 102), (b', .box cs' 67), cz]) (.cons_cons _ (.cons_cons _ (.cons_cons _ (List.nil_sublist _)))) ?_
  refine c8 rfl ⟨some ⟨b', cap', cs'.drop ((i + r.Out.length + (run.length - (i + 1))) * 6)⟩, ⟨fun h => (by cases h), fun m' hm' => ?_⟩, ?_⟩
  ·cases hm'
   refine ⟨by rw [hlen]; dsimp only; omega, by dsimp only; unfold maxLen; omega, ?_⟩
   dsimp only
   rw [← hcs]
   exact e1
  ·unfold dq l9
   dsimp only
   rw [hlen, ← hcs]
   rfl
end Go.Proofs.YtpmdfoaadejmkaaGreatDoor
