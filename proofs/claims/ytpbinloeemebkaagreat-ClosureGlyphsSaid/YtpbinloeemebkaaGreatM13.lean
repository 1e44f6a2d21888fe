/-
  The program: a heap of numbers.
-/
import Derived.Test.YtpbinloeemebkaaGreatM12
import Derived.Test.YtpbinloeemebkaaGreatM06
namespace Go.Proofs.YtpbinloeemebkaaGreat
open Go.RowKit
attribute [local irreducible] AT bN AX AO Av Kt bi dE DA d6
instance : bt Tryz.prog 305 := ⟨ay Tryz.func305 (by kernel_rfl) rfl⟩
instance : bt Tryz.prog 306 := ⟨ay Tryz.func306 (by kernel_rfl) rfl⟩
instance : bt Tryz.prog 307 := ⟨ay Tryz.func307 (by kernel_rfl) rfl⟩
instance : bt Tryz.prog 308 := ⟨ay Tryz.func308 (by kernel_rfl) rfl⟩
instance : bt Tryz.prog 309 := ⟨ay Tryz.func309 (by kernel_rfl) rfl⟩
theorem wy : ky Tryz.prog 333 "Len" 305 false 328 := gk (by kernel_rfl)
theorem nz : ky Tryz.prog 333 "Less" 306 false 328 := gk (by kernel_rfl)
theorem nA : ky Tryz.prog 333 "Swap" 307 false 328 := gk (by kernel_rfl)
theorem Bj : ky Tryz.prog 333 "Pop" 308 true 328 := gk (by kernel_rfl)
theorem A3 : ky Tryz.prog 333 "Push" 309 true 328 := gk (by kernel_rfl)
section
variable {P : Program} {fr : c9} {d : Option Tmp} {ty t t' : TypeId} {pos : String} {af : Array Edge} {g : Option (Nat × Bool)} {x y : Operand}
theorem zu {z : Int} {n : Nat} (hz : z = (n : Int) - 1) (hx : bB fr x = some (aQ z)) (hy : bB fr y = some (aQ 2)) (hn : n ≤ 9223372036854775807) : Av P ⟨d, .binOp .quo t x y t', ty, pos, af, g⟩ fr (aQ (((n - 1) / 2 : Nat) : Int)) := by
 have h := vu (P := P) (d := d) (ty := ty) (pos := pos) (af := af) (g := g) (t := t) (t' := t') hx hy (by omega)
 have e : IntKind.i64.wrap (z.tdiv 2) = (((n - 1) / 2 : Nat) : Int) := by
  subst hz
  have : ((n : Int) - 1).tdiv 2 = (((n - 1) / 2 : Nat) : Int) := by
   cases n with
   | zero => rfl
   | succ m =>
    rw [show (((m + 1 : Nat) : Int) - 1) = (m : Int) by omega, Int.tdiv_eq_ediv_of_nonneg (by omega)]
    simp
  rw [this, ly (by omega)]
 rwa [e] at h
end
abbrev HI (p : Nat) : AV := .sc (.iface 333 (.pointer (some ⟨p, 0, none⟩)))
def qN (k : Option (Nat × List AV)) (n : Nat) : Value := match k with
 | none => .slice none 0 0
 | some (b, cs) => .slice (some ⟨b, 0, none⟩) n cs.length
def nm (k : Option (Nat × List AV)) : AL := match k with
 | none => []
 | some (b, cs) => [(b, .box cs 3)]
def hst (p : Nat) (k : Option (Nat × List AV)) (l : List Int) : AL := (p, .box [.sc (qN k l.length)] 328) :: nm k
def lU (k : Option (Nat × List AV)) (l : List Int) : Prop := match k with
 | none => l = []
 | some (_, cs) => cs.take l.length = l.map aQ ∧ l.length ≤ cs.length ∧ 0 < cs.length
theorem lU.get {b : Nat} {cs : List AV} {l : List Int} (h : lU (some (b, cs)) l) {a : Int} (h0 : 0 ≤ a) (h1 : a < l.length) : ∃ x, l[a.toNat]? = some x ∧ cs[0 + a.toNat * 1]? = some (aQ x) := by
 obtain ⟨x, hx⟩ : ∃ x, l[a.toNat]? = some x := ⟨_, List.getElem?_eq_getElem (by omega)⟩
 refine ⟨x, hx, ?_⟩
 have h2 := congrArg (fun q => q[a.toNat]?) h.1
 simp only [List.getElem?_take, List.getElem?_map, hx] at h2
 rw [if_pos (by omega)] at h2
 rw [Nat.zero_add, Nat.mul_one]
 exact h2
theorem sd (v : Value) (n c : Nat) (A : Option Addr) (hv : v = .slice A n c) : bo Tryz.prog 305 [.sc v] (aQ n) := by
 subst hv
 refine aU Tryz.func305 rfl Tryz.ntmps305 rfl fun B => ?_
 (repeat' (first|refine ah ?_|refine a6 ?_|refine au ?_|refine a8 ?_|refine aa ?_|refine ae a7 rfl rfl ?_|fail))
 exact aB rfl rfl rfl
theorem kQ {b n c : Nat} {cs : List AV} {x y a e : Int} (ha : 0 ≤ a ∧ a < n) (he : 0 ≤ e ∧ e < n) (hx : cs[0 + a.toNat * 1]? = some (aQ x)) (hy : cs[0 + e.toNat * 1]? = some (aQ y)) : AC Tryz.prog 306 [.sc (.slice (some ⟨b, 0, none⟩) n c), aQ a, aQ e] [(b, .box cs 3)] fun r L => r = c8 (decide (x < y)) ∧ L = [(b, .box cs 3)] := by
 refine aU Tryz.func306 rfl Tryz.ntmps306 rfl fun B => ?_
 (repeat' (first|refine ah ?_|refine a6 ?_|refine a8 ?_|refine aa ?_|refine ae a7 rfl rfl ?_|fail))
 refine bj 8 [(0, .v), (1, .v), (2, .v), (3, .l), (4, .v), (5, .v), (6, .v), (7, .l)] none ?_ trivial rfl (by kernel_rfl) (by kernel_rfl) (by kernel_rfl) mixed (by kernel_rfl) rfl
 (repeat' (first|refine aN ?_|refine bf a7 ?_|fail))
 refine e9 a7 rfl rfl rfl ha trivial ?_
 (repeat' (first|refine aN ?_|fail))
 refine dI a7 0 rfl rfl rfl hx trivial ?_
 (repeat' (first|refine aN ?_|refine bf a7 ?_|fail))
 refine e9 a7 rfl rfl rfl he trivial ?_
 (repeat' (first|refine aN ?_|fail))
 refine dI a7 0 rfl rfl rfl hy trivial ?_
 (repeat' (first|fail))
 refine bl [10, 14] rfl rfl ?_
 (repeat' (first|refine au ?_|refine a8 ?_|refine aa ?_|refine ae a7 rfl rfl ?_|fail))
 exact aB rfl rfl ⟨rfl, rfl⟩
theorem la {b n c : Nat} {cs : List AV} {x y a e : Int} (ha : 0 ≤ a ∧ a < n) (he : 0 ≤ e ∧ e < n) (hx : cs[0 + a.toNat * 1]? = some (aQ x)) (hy : cs[0 + e.toNat * 1]? = some (aQ y)) (hn : n ≤ cs.length) : AC Tryz.prog 307 [.sc (.slice (some ⟨b, 0, none⟩) n c), aQ a, aQ e] [(b, .box cs 3)] fun _ L => L = [(b, .box ((cs.set a.toNat (aQ y)).set e.toNat (aQ x)) 3)] := by
 refine aU Tryz.func307 rfl Tryz.ntmps307 rfl fun B => ?_
 (repeat' (first|fail))
 refine bj 14 [(0, .v), (1, .v), (2, .v), (3, .v), (4, .v), (5, .v), (6, .v), (7, .l), (8, .v), (9, .v), (10, .v), (11, .l), (12, .v), (13, .e)] none ?_ trivial rfl (by kernel_rfl) (by kernel_rfl) (by kernel_rfl) mixed (by kernel_rfl) rfl
 (repeat' (first|refine aN ?_|refine bf a7 ?_|fail))
 refine e9 a7 rfl rfl rfl he trivial ?_
 (repeat' (first|refine aN ?_|fail))
 refine dI a7 0 rfl rfl rfl hy trivial ?_
 (repeat' (first|refine aN ?_|refine bf a7 ?_|fail))
 refine e9 a7 rfl rfl rfl ha trivial ?_
 (repeat' (first|refine aN ?_|fail))
 refine dI a7 0 rfl rfl rfl hx trivial ?_
 (repeat' (first|refine aN ?_|fail))
 refine e9 a7 rfl rfl rfl ha trivial ?_
 (repeat' (first|refine aN ?_|fail))
 refine vW a7 0 rfl rfl rfl rfl rfl rfl (by rw [Nat.ble_eq]; show _ + 1 ≤ _; omega) trivial fun _ => ?_
 (repeat' (first|fail))
 refine bl [8, 9, 17] rfl rfl ?_
 (repeat' (first|(apply aP; first|refine aO a7 ?_|refine aI a7 ?_)|fail))
 refine aj a7 0 rfl rfl rfl rfl rfl rfl (by rw [Nat.ble_eq]; show _ + 1 ≤ (jI _ _ _).length; rw [l5]; omega) ?_
 (repeat' (first|refine aa ?_|fail))
 refine cB rfl ?_
 simp only [gA, jI, Nat.zero_add, Nat.mul_one]
theorem lU.swap {b : Nat} {cs : List AV} {l : List Int} (h : lU (some (b, cs)) l) {a e x y : Int} (ha : 0 ≤ a ∧ a < l.length) (he : 0 ≤ e ∧ e < l.length) (hx : l[a.toNat]? = some x) (hy : l[e.toNat]? = some y) : lU (some (b, (cs.set a.toNat (aQ y)).set e.toNat (aQ x))) ((l.set a.toNat y).set e.toNat x) ∧ ((l.set a.toNat y).set e.toNat x).Perm l := by
 obtain ⟨h1, h2, h3⟩ := h
 refine ⟨⟨?_, by simpa using h2, by simpa using h3⟩, ?_⟩
 ·simp only [List.length_set]
  rw [List.take_set, List.take_set, h1, List.map_set, List.map_set]
 ·obtain ⟨hx1, hx2⟩ := List.getElem?_eq_some_iff.1 hx
  obtain ⟨hy1, hy2⟩ := List.getElem?_eq_some_iff.1 hy
  subst hx2; subst hy2
  exact List.set_set_perm hx1 hy1
set_option maxHeartbeats 4000000 in
theorem tc (p b : Nat) (cs0 : List AV) (l0 : List Int) (h : lU (some (b, cs0)) l0) (i0 n : Nat) (hn : n ≤ l0.length) (hl : l0.length ≤ 1000000) (hi0 : i0 ≤ 1000000) : AC Tryz.prog 282 [HI p, aQ i0, aQ n] (hst p (some (b, cs0)) l0) fun _ L => ∃ cs' l', L = hst p (some (b, cs')) l' ∧ lU (some (b, cs')) l' ∧ l'.Perm l0 := by
 refine aU Tryz.func282 rfl Tryz.ntmps282 rfl fun B => ?_
 (repeat' (first|refine ah ?_|refine a6 ?_|refine am ?_|refine a8 ?_|refine aa ?_|refine ae a7 rfl rfl ?_|fail))
 refine aL [0, 1, 2] (α := Nat × List AV × List Int) (fun x => [(7, aQ x.1)]) (fun x => x.1 ≤ 1000000 ∧ lU (some (b, x.2.1)) x.2.2 ∧ x.2.2.Perm l0) (fun x => hst p (some (b, x.2.1)) x.2.2) (fun x => 1000001 - x.1) (i0, cs0, l0) rfl ⟨rfl, trivial⟩ ⟨hi0, h, List.Perm.refl _⟩ (fun _ _ h => h) ?_
 rintro ⟨i, cs, l⟩ ⟨hi, hok, hpm⟩
 dsimp only at hi hok hpm ⊢
 have hll := hpm.length_eq
 unfold hst nm qN
 dsimp only
 try dsimp only [List.cons_append, List.nil_append, List.map_cons, List.map_nil]
 (repeat' (first|refine ah ?_|refine a6 ?_|refine am ?_|refine a8 ?_|refine aa ?_|refine ae a7 rfl rfl ?_|(apply aX; refine aW ?_)|fail))
 refine ci [0, 1, 2, 7, 8] (¬ (2 * (i : Int) + 1 < n)) rfl (fun Q' K => ?_) (fun hC => ?_) (fun hC => ?_)
 ·(repeat' (first|refine aa ?_|refine ae a7 rfl rfl ?_|refine aw rfl rfl ?_|refine aD rfl rfl rfl rfl ?_|refine aS rfl rfl rfl (fun _ => ?_) (fun _ => ?_)|fail))
  all_goals exact K _ _ rfl rfl (by clear K; simp_all <;> omega)
 ·(repeat' (first|refine ah ?_|refine a6 ?_|refine au ?_|refine aR ?_|refine a8 ?_|refine az ?_|refine aC ?_|refine ei rfl ?_|refine aA ?_|refine aa ?_|refine ae a7 rfl rfl ?_|fail))
  exact aB rfl rfl ⟨cs, l, rfl, hok, hpm⟩
 have hC := Decidable.not_not.1 hC
 obtain ⟨x, hx, hxc⟩ := hok.get (a := i) (by omega) (by omega)
 (repeat' (first|refine ah ?_|refine a6 ?_|refine ak ?_|refine a8 ?_|refine aa ?_|refine ae a7 rfl rfl ?_|(apply aX; refine aW ?_)|fail))
 refine aS rfl rfl rfl (fun h2 => ?_) (fun h2 => ?_)
 ·have h2' := of_decide_eq_true h2
  obtain ⟨u, hu, huc⟩ := hok.get (a := 2 * (i : Int) + 1 + 1) (by omega) (by omega)
  obtain ⟨v, hv, hvc⟩ := hok.get (a := 2 * (i : Int) + 1) (by omega) (by omega)
  (repeat' (first|refine ae a7 rfl rfl ?_|refine aw rfl rfl ?_|fail))
  refine dg 0 [(b, .box cs 3)] [(p, .box [.sc (.slice (some ⟨b, 0, none⟩) l.length cs.length)] 328)] nz (co a7 rfl) rfl rfl rfl rfl (List.Perm.swap ..) (kQ (x := u) (y := v) ⟨by omega, by omega⟩ ⟨by omega, by omega⟩ huc hvc) rfl rfl fun c L1 ⟨hc, hL⟩ => ?_
  subst hc; subst hL
  refine bh (bc (List.Perm.swap ..)) ?_
  (repeat' (first|refine a8 ?_|refine aa ?_|refine ae a7 rfl rfl ?_|fail))
  refine av rfl (fun h3 => ?_) (fun h3 => ?_)
  ·clear h3
   (repeat' (first|refine ah ?_|refine a6 ?_|refine a8 ?_|refine aa ?_|refine ae a7 rfl rfl ?_|fail))
   obtain ⟨y, hy, hyc⟩ := hok.get (a := (2 * (i : Int) + 1 + 1)) (by omega) (by omega)
   refine dg 0 [(b, .box cs 3)] [(p, .box [.sc (.slice (some ⟨b, 0, none⟩) l.length cs.length)] 328)] nz (co a7 rfl) rfl rfl rfl rfl (List.Perm.swap ..) (kQ (x := y) (y := x) ⟨by omega, by omega⟩ ⟨by omega, by omega⟩ hyc hxc) rfl rfl fun c L1 ⟨hc, hL⟩ => ?_
   subst hc; subst hL
   (repeat' (first|refine a8 ?_|refine aa ?_|refine ae a7 rfl rfl ?_|fail))
   refine av rfl (fun h5 => ?_) (fun h5 => ?_)
   ·(repeat' (first|refine ah ?_|refine a6 ?_|refine au ?_|refine aR ?_|refine a8 ?_|refine az ?_|refine aC ?_|refine ei rfl ?_|refine aA ?_|refine aa ?_|refine ae a7 rfl rfl ?_|fail))
    refine bU (bc (List.Perm.swap ..)) ?_
    exact aB rfl rfl ⟨cs, l, rfl, hok, hpm⟩
   (repeat' (first|refine ah ?_|refine a6 ?_|refine ak ?_|refine a8 ?_|refine ae a7 rfl rfl ?_|fail))
   refine bh (bc (List.Perm.swap ..)) ?_
   refine dg 0 [(b, .box cs 3)] [(p, .box [.sc (.slice (some ⟨b, 0, none⟩) l.length cs.length)] 328)] nA (co a7 rfl) rfl rfl rfl rfl (List.Perm.swap ..) (la (x := x) (y := y) ⟨by omega, by omega⟩ ⟨by omega, by omega⟩ hxc hyc hok.2.1) rfl rfl fun c L1 hL => ?_
   subst hL
   (repeat' (first|refine a6 ?_|refine a8 ?_|refine aJ ?_|refine aa ?_|refine ae a7 rfl rfl ?_|fail))
   have hs := hok.swap (a := i) (e := (2 * (i : Int) + 1 + 1)) ⟨by omega, by omega⟩ ⟨by omega, by omega⟩ hx hy
   refine aE (((2 * (i : Int) + 1 + 1)).toNat, (cs.set ((i : Int)).toNat (aQ y)).set ((2 * (i : Int) + 1 + 1)).toNat (aQ x), (l.set ((i : Int)).toNat y).set ((2 * (i : Int) + 1 + 1)).toNat x) rfl ⟨by rw [show ((((2 * (i : Int) + 1 + 1)).toNat : Nat) : Int) = (2 * (i : Int) + 1 + 1) by omega]; rfl, trivial⟩ ⟨by dsimp only; omega, hs.1, hs.2.trans hpm⟩ (by dsimp only; omega) (fun σ w h => ?_)
   have h := h.perm (List.Perm.swap ..)
   simpa [hst, qN, nm, List.length_set] using h
  ·clear h3
   (repeat' (first|refine ah ?_|refine a6 ?_|refine ak ?_|refine a8 ?_|refine ae a7 rfl rfl ?_|fail))
   obtain ⟨y, hy, hyc⟩ := hok.get (a := (2 * (i : Int) + 1)) (by omega) (by omega)
   refine dg 0 [(b, .box cs 3)] [(p, .box [.sc (.slice (some ⟨b, 0, none⟩) l.length cs.length)] 328)] nz (co a7 rfl) rfl rfl rfl rfl (List.Perm.swap ..) (kQ (x := y) (y := x) ⟨by omega, by omega⟩ ⟨by omega, by omega⟩ hyc hxc) rfl rfl fun c L1 ⟨hc, hL⟩ => ?_
   subst hc; subst hL
   (repeat' (first|refine a8 ?_|refine aa ?_|refine ae a7 rfl rfl ?_|fail))
   refine av rfl (fun h5 => ?_) (fun h5 => ?_)
   ·(repeat' (first|refine ah ?_|refine a6 ?_|refine au ?_|refine aR ?_|refine a8 ?_|refine az ?_|refine aC ?_|refine ei rfl ?_|refine aA ?_|refine aa ?_|refine ae a7 rfl rfl ?_|fail))
    refine bU (bc (List.Perm.swap ..)) ?_
    exact aB rfl rfl ⟨cs, l, rfl, hok, hpm⟩
   (repeat' (first|refine ah ?_|refine a6 ?_|refine ak ?_|refine a8 ?_|refine ae a7 rfl rfl ?_|fail))
   refine bh (bc (List.Perm.swap ..)) ?_
   refine dg 0 [(b, .box cs 3)] [(p, .box [.sc (.slice (some ⟨b, 0, none⟩) l.length cs.length)] 328)] nA (co a7 rfl) rfl rfl rfl rfl (List.Perm.swap ..) (la (x := x) (y := y) ⟨by omega, by omega⟩ ⟨by omega, by omega⟩ hxc hyc hok.2.1) rfl rfl fun c L1 hL => ?_
   subst hL
   (repeat' (first|refine a6 ?_|refine a8 ?_|refine aJ ?_|refine aa ?_|refine ae a7 rfl rfl ?_|fail))
   have hs := hok.swap (a := i) (e := (2 * (i : Int) + 1)) ⟨by omega, by omega⟩ ⟨by omega, by omega⟩ hx hy
   refine aE (((2 * (i : Int) + 1)).toNat, (cs.set ((i : Int)).toNat (aQ y)).set ((2 * (i : Int) + 1)).toNat (aQ x), (l.set ((i : Int)).toNat y).set ((2 * (i : Int) + 1)).toNat x) rfl ⟨by rw [show ((((2 * (i : Int) + 1)).toNat : Nat) : Int) = (2 * (i : Int) + 1) by omega]; rfl, trivial⟩ ⟨by dsimp only; omega, hs.1, hs.2.trans hpm⟩ (by dsimp only; omega) (fun σ w h => ?_)
   have h := h.perm (List.Perm.swap ..)
   simpa [hst, qN, nm, List.length_set] using h
 ·have h2' : ¬ (2 * (i : Int) + 1 + 1 < n) := of_decide_eq_false (by simpa using h2)
  (repeat' (first|refine ah ?_|refine a6 ?_|refine ak ?_|refine a8 ?_|refine aa ?_|refine ae a7 rfl rfl ?_|refine aD rfl rfl rfl rfl ?_|refine bV rfl ?_|fail))
  obtain ⟨y, hy, hyc⟩ := hok.get (a := (2 * (i : Int) + 1)) (by omega) (by omega)
  refine dg 0 [(b, .box cs 3)] [(p, .box [.sc (.slice (some ⟨b, 0, none⟩) l.length cs.length)] 328)] nz (co a7 rfl) rfl rfl rfl rfl (List.Perm.swap ..) (kQ (x := y) (y := x) ⟨by omega, by omega⟩ ⟨by omega, by omega⟩ hyc hxc) rfl rfl fun c L1 ⟨hc, hL⟩ => ?_
  subst hc; subst hL
  (repeat' (first|refine a8 ?_|refine aa ?_|refine ae a7 rfl rfl ?_|fail))
  refine av rfl (fun h5 => ?_) (fun h5 => ?_)
  ·(repeat' (first|refine ah ?_|refine a6 ?_|refine au ?_|refine aR ?_|refine a8 ?_|refine az ?_|refine aC ?_|refine ei rfl ?_|refine aA ?_|refine aa ?_|refine ae a7 rfl rfl ?_|fail))
   refine bU (bc (List.Perm.swap ..)) ?_
   exact aB rfl rfl ⟨cs, l, rfl, hok, hpm⟩
  (repeat' (first|refine ah ?_|refine a6 ?_|refine ak ?_|refine a8 ?_|refine ae a7 rfl rfl ?_|fail))
  refine bh (bc (List.Perm.swap ..)) ?_
  refine dg 0 [(b, .box cs 3)] [(p, .box [.sc (.slice (some ⟨b, 0, none⟩) l.length cs.length)] 328)] nA (co a7 rfl) rfl rfl rfl rfl (List.Perm.swap ..) (la (x := x) (y := y) ⟨by omega, by omega⟩ ⟨by omega, by omega⟩ hxc hyc hok.2.1) rfl rfl fun c L1 hL => ?_
  subst hL
  (repeat' (first|refine a6 ?_|refine a8 ?_|refine aJ ?_|refine aa ?_|refine ae a7 rfl rfl ?_|fail))
  have hs := hok.swap (a := i) (e := (2 * (i : Int) + 1)) ⟨by omega, by omega⟩ ⟨by omega, by omega⟩ hx hy
  refine aE (((2 * (i : Int) + 1)).toNat, (cs.set ((i : Int)).toNat (aQ y)).set ((2 * (i : Int) + 1)).toNat (aQ x), (l.set ((i : Int)).toNat y).set ((2 * (i : Int) + 1)).toNat x) rfl ⟨by rw [show ((((2 * (i : Int) + 1)).toNat : Nat) : Int) = (2 * (i : Int) + 1) by omega]; rfl, trivial⟩ ⟨by dsimp only; omega, hs.1, hs.2.trans hpm⟩ (by dsimp only; omega) (fun σ w h => ?_)
  have h := h.perm (List.Perm.swap ..)
  simpa [hst, qN, nm, List.length_set] using h
theorem BB (p b : Nat) (cs0 : List AV) (l0 : List Int) (h : lU (some (b, cs0)) l0) (j0 : Nat) (hj0 : j0 < l0.length) (hl : l0.length ≤ 1000000) : AC Tryz.prog 283 [HI p, aQ j0] (hst p (some (b, cs0)) l0) fun _ L => ∃ cs' l', L = hst p (some (b, cs')) l' ∧ lU (some (b, cs')) l' ∧ l'.Perm l0 := by
 refine aU Tryz.func283 rfl Tryz.ntmps283 rfl fun B => ?_
 (repeat' (first|refine am ?_|fail))
 refine aL [0] (α := Nat × List AV × List Int) (fun x => [(1, aQ x.1)]) (fun x => x.1 < l0.length ∧ lU (some (b, x.2.1)) x.2.2 ∧ x.2.2.Perm l0) (fun x => hst p (some (b, x.2.1)) x.2.2) (fun x => x.1) (j0, cs0, l0) rfl ⟨rfl, trivial⟩ ⟨hj0, h, List.Perm.refl _⟩ (fun _ _ h => h) ?_
 rintro ⟨j, cs, l⟩ ⟨hi, hok, hpm⟩
 dsimp only at hi hok hpm ⊢
 have hll := hpm.length_eq
 unfold hst nm qN
 dsimp only
 try dsimp only [List.cons_append, List.nil_append, List.map_cons, List.map_nil]
 (repeat' (first|refine ah ?_|refine a6 ?_|refine am ?_|refine ae a7 rfl rfl ?_|(apply aX; refine aW ?_)|fail))
 refine aW ?_ (zu (n := j) rfl rfl rfl (by omega))
 obtain ⟨x, hx, hxc⟩ := hok.get (a := j) (by omega) (by omega)
 obtain ⟨y, hy, hyc⟩ := hok.get (a := (((j - 1) / 2 : Nat) : Int)) (by omega) (by omega)
 (repeat' (first|refine ah ?_|refine a6 ?_|refine a8 ?_|refine aa ?_|refine ae a7 rfl rfl ?_|fail))
 refine aS rfl rfl rfl (fun h2 => ?_) (fun h2 => ?_)
 ·have h2' := of_decide_eq_false h2
  (repeat' (first|refine ae a7 rfl rfl ?_|refine aw rfl rfl ?_|fail))
  refine dg 0 [(b, .box cs 3)] [(p, .box [.sc (.slice (some ⟨b, 0, none⟩) l.length cs.length)] 328)] nz (co a7 rfl) rfl rfl rfl rfl (List.Perm.swap ..) (kQ (x := x) (y := y) ⟨by omega, by omega⟩ ⟨by omega, by omega⟩ hxc hyc) rfl rfl fun c L1 ⟨hc, hL⟩ => ?_
  subst hc; subst hL
  refine bh (bc (List.Perm.swap ..)) ?_
  (repeat' (first|refine a8 ?_|refine aa ?_|refine ae a7 rfl rfl ?_|refine aw rfl rfl ?_|fail))
  refine av rfl (fun h3 => ?_) (fun h3 => ?_)
  ·(repeat' (first|refine aR ?_|refine az ?_|refine aC ?_|refine ei rfl ?_|refine aA ?_|fail))
   exact cB rfl ⟨cs, l, rfl, hok, hpm⟩
  (repeat' (first|refine ah ?_|refine a6 ?_|refine ak ?_|refine a8 ?_|refine ae a7 rfl rfl ?_|fail))
  refine dg 0 [(b, .box cs 3)] [(p, .box [.sc (.slice (some ⟨b, 0, none⟩) l.length cs.length)] 328)] nA (co a7 rfl) rfl rfl rfl rfl (List.Perm.swap ..) (la (x := y) (y := x) ⟨by omega, by omega⟩ ⟨by omega, by omega⟩ hyc hxc hok.2.1) rfl rfl fun c L1 hL => ?_
  subst hL
  (repeat' (first|refine a6 ?_|refine a8 ?_|refine aJ ?_|refine aa ?_|refine ae a7 rfl rfl ?_|fail))
  have hs := hok.swap (a := (((j - 1) / 2 : Nat) : Int)) (e := j) ⟨by omega, by omega⟩ ⟨by omega, by omega⟩ hy hx
  refine aE ((j - 1) / 2, (cs.set (((j - 1) / 2 : Nat) : Int).toNat (aQ x)).set (j : Int).toNat (aQ y), (l.set (((j - 1) / 2 : Nat) : Int).toNat x).set (j : Int).toNat y) rfl ⟨rfl, trivial⟩ ⟨by dsimp only; omega, hs.1, hs.2.trans hpm⟩ (by dsimp only; omega) (fun σ w h => ?_)
  have h := h.perm (List.Perm.swap ..)
  simpa [hst, qN, nm, List.length_set] using h
 ·(repeat' (first|refine aR ?_|refine a8 ?_|refine az ?_|refine aC ?_|refine ei rfl ?_|refine aA ?_|refine aa ?_|refine ae a7 rfl rfl ?_|refine aD rfl rfl rfl rfl ?_|refine bI rfl ?_|fail))
  exact cB rfl ⟨cs, l, rfl, hok, hpm⟩
theorem Ai (p b : Nat) (cs : List AV) (l : List Int) (h : lU (some (b, cs)) l) (h0 : 0 < l.length) (hl : l.length ≤ 1000000) : AC Tryz.prog 308 [.sc (.pointer (some ⟨p, 0, none⟩))] (hst p (some (b, cs)) l) fun c L => ∃ z l', c = .sc (.iface 3 (.int .i64 z)) ∧ L = hst p (some (b, cs)) l' ∧ lU (some (b, cs)) l' ∧ l = l' ++ [z] := by
 refine aU Tryz.func308 rfl Tryz.ntmps308 rfl fun B => ?_
 unfold hst nm qN
 dsimp only
 obtain ⟨z, hz, hzc⟩ := h.get (a := (l.length : Int) - 1) (by omega) (by omega)
 have hcl := h.2.1
 have hc1 := h.2.2
 (repeat' (first|refine ah ?_|refine a6 ?_|refine a8 ?_|refine aa ?_|refine ae a7 rfl rfl ?_|(apply bn; first|refine aq a7 0 rfl rfl rfl rfl rfl ?_|refine aq a7 1 rfl rfl rfl rfl rfl ?_|refine aq a7 2 rfl rfl rfl rfl rfl ?_|refine aq a7 3 rfl rfl rfl rfl rfl ?_|refine aF a7 0 rfl rfl rfl rfl rfl ?_|refine aF a7 1 rfl rfl rfl rfl rfl ?_|refine aF a7 2 rfl rfl rfl rfl rfl ?_|refine aq a7 1 rfl rfl rfl (by assumption) rfl ?_|refine aq a7 0 rfl rfl rfl (by assumption) rfl ?_|fail)|(apply aX; refine aW ?_)|(apply aP; first|refine aO a7 ?_|refine aI a7 ?_)|fail))
 refine wH a7 (l.length - 1) rfl rfl rfl (by omega) (by omega) (by omega) rfl ?_
 (repeat' (first|refine ah ?_|refine a6 ?_|refine a8 ?_|refine aa ?_|refine ae a7 rfl rfl ?_|(apply aT; first|refine aj a7 0 rfl rfl rfl rfl rfl rfl rfl ?_|refine aj a7 1 rfl rfl rfl rfl rfl rfl rfl ?_|refine aj a7 2 rfl rfl rfl rfl rfl rfl rfl ?_|refine aj a7 3 rfl rfl rfl rfl rfl rfl rfl ?_|fail)|fail))
 refine kU (by kernel_rfl) rfl rfl ?_
 (repeat' (first|refine au ?_|refine a8 ?_|refine aa ?_|refine ae a7 rfl rfl ?_|fail))
 have hlast : l.take (l.length - 1) ++ [z] = l := by
  have h1 : l.take (l.length - 1 + 1) = l := List.take_of_length_le (by omega)
  rw [List.take_add_one, show l[l.length - 1]? = some z by rw [← hz]; congr 1; omega] at h1
  exact h1
 have hlen : (l.take (l.length - 1)).length = l.length - 1 := by rw [List.length_take]; omega
 refine aB rfl rfl ⟨z, l.take (l.length - 1), rfl, ?_, ⟨?_, by rw [hlen]; omega, hc1⟩, hlast.symm⟩
 ·rw [hlen]
  rfl
 ·rw [hlen, List.map_take, ← h.1, List.take_take]
  congr 1
  omega
theorem yr (p : Nat) (k : Option (Nat × List AV)) (l : List Int) (z : Int) (h : lU k l) (hl : l.length ≤ 1000000) : AC Tryz.prog 309 [.sc (.pointer (some ⟨p, 0, none⟩)), .sc (.iface 3 (.int .i64 z))] (hst p k l) fun _ L => ∃ b cs, L = hst p (some (b, cs)) (l ++ [z]) ∧ lU (some (b, cs)) (l ++ [z]) := by
 refine aU Tryz.func309 rfl Tryz.ntmps309 rfl fun B => ?_
 unfold hst nm qN
 cases k with
 | none =>
  have hl0 : l = [] := h
  subst hl0
  dsimp only
  (repeat' (first|fail))
  refine bj 8 [(0, .v), (1, .v), (2, .v), (3, .l), (4, .v), (5, .v), (6, .v), (7, .e)] none ?_ trivial rfl (by kernel_rfl) (by kernel_rfl) (by kernel_rfl) mixed (by kernel_rfl) rfl
  (repeat' (first|refine aN ?_|refine bf a7 ?_|refine dI a7 0 rfl rfl rfl rfl (by first|trivial|rfl) ?_|fail))
  refine qr (by kernel_rfl) rfl trivial ?_
  (repeat' (first|refine aN ?_|refine m7 a7 ?_|fail))
  refine u5 a7 rfl rfl rfl rfl rfl rfl trivial fun b' cs' h1 h2 => ?_
  (repeat' (first|fail))
  refine bl [4, 11] rfl rfl ?_
  (repeat' (first|refine aa ?_|refine ae a7 rfl rfl ?_|(apply aT; first|refine aj a7 0 rfl rfl rfl rfl rfl rfl rfl ?_|refine aj a7 1 rfl rfl rfl rfl rfl rfl rfl ?_|refine aj a7 2 rfl rfl rfl rfl rfl rfl rfl ?_|refine aj a7 3 rfl rfl rfl rfl rfl rfl rfl ?_|fail)|fail))
  exact bU (bc (List.Perm.swap ..)) (cB rfl ⟨b', cs', rfl, h1, h2, h2⟩)
 | some q =>
  obtain ⟨b, cs⟩ := q
  dsimp only
  (repeat' (first|fail))
  refine bj 8 [(0, .v), (1, .v), (2, .v), (3, .l), (4, .v), (5, .v), (6, .v), (7, .e)] none ?_ trivial rfl (by kernel_rfl) (by kernel_rfl) (by kernel_rfl) mixed (by kernel_rfl) rfl
  (repeat' (first|refine aN ?_|refine bf a7 ?_|refine dI a7 0 rfl rfl rfl rfl (by first|trivial|rfl) ?_|fail))
  refine qr (by kernel_rfl) rfl trivial ?_
  (repeat' (first|refine aN ?_|refine m7 a7 ?_|fail))
  refine u4 a7 1 rfl rfl rfl rfl rfl rfl rfl h.2.1 (by omega) (by omega) trivial fun b' cs' h1 h2 => ?_
  (repeat' (first|fail))
  refine bl [4, 11] rfl rfl ?_
  (repeat' (first|refine aa ?_|refine ae a7 rfl rfl ?_|(apply aT; first|refine aj a7 0 rfl rfl rfl rfl rfl rfl rfl ?_|refine aj a7 1 rfl rfl rfl rfl rfl rfl rfl ?_|refine aj a7 2 rfl rfl rfl rfl rfl rfl rfl ?_|refine aj a7 3 rfl rfl rfl rfl rfl rfl rfl ?_|fail)|fail))
  refine bU (bc (List.Perm.swap ..)) (cB rfl ⟨b', cs', ?_, ?_, by simpa using h2, by omega⟩)
  ·rw [List.length_append]
   rfl
  ·rw [List.length_append, List.map_append, ← h.1]
   exact h1
theorem gj (p b : Nat) (cs : List AV) (l : List Int) : hst p (some (b, cs)) l = [(p, .box [.sc (.slice (some ⟨b, 0, none⟩) l.length cs.length)] 328), (b, .box cs 3)] := rfl
set_option maxHeartbeats 1000000 in
theorem wf (p : Nat) (k : Option (Nat × List AV)) (l : List Int) (z : Int) (h : lU k l) (hl : l.length < 1000000) : AC Tryz.prog 271 [HI p, .sc (.iface 3 (.int .i64 z))] (hst p k l) fun _ L => ∃ b cs l', L = hst p (some (b, cs)) l' ∧ lU (some (b, cs)) l' ∧ l'.Perm (l ++ [z]) := by
 refine aU Tryz.func271 rfl Tryz.ntmps271 rfl fun B => ?_
 (repeat' (first|refine ah ?_|refine a6 ?_|refine ae a7 rfl rfl ?_|fail))
 refine qX (hst p k l) [] A3 rfl rfl (by rw [List.append_nil]) (yr p k l z h (by omega)) rfl rfl fun c L1 ⟨b, cs, hL, hok⟩ => ?_
 subst hL
 rw [List.append_nil, gj]
 have hll : (l ++ [z]).length = l.length + 1 := by simp
 (repeat' (first|refine a6 ?_|refine a8 ?_|refine aa ?_|refine ae a7 rfl rfl ?_|fail))
 refine dg 0 [] [(p, .box [.sc (.slice (some ⟨b, 0, none⟩) (l ++ [z]).length cs.length)] 328), (b, .box cs 3)] wy (co a7 rfl) rfl rfl rfl rfl (List.Perm.refl _) (sd _ (l ++ [z]).length _ _ rfl) rfl rfl fun c L1 hc => ?_
 have hc : c = aQ (l ++ [z]).length := hc
 subst hc
 refine bh (dA (List.sublist_append_right ..)) ?_
 rw [hll]
 (repeat' (first|(apply aX; refine aW ?_)|fail))
 have hup := BB p b cs (l ++ [z]) hok l.length (by rw [hll]; omega) (by rw [hll]; omega)
 rw [gj, hll] at hup
 rw [show (((l.length + 1 : Nat) : Int) - 1) = (l.length : Int) by omega]
 refine aZ _ [] hup rfl rfl (by rw [List.append_nil]) rfl fun c L1 ⟨cs', l', hL, hok', hpm⟩ => ?_
 subst hL
 rw [List.append_nil]
 (repeat' (first|refine aa ?_|fail))
 exact cB rfl ⟨b, cs', l', rfl, hok', hpm⟩
set_option maxHeartbeats 1000000 in
theorem y9 (p b : Nat) (cs : List AV) (l : List Int) (h : lU (some (b, cs)) l) (h0 : 0 < l.length) (hl : l.length ≤ 1000000) : AC Tryz.prog 270 [HI p] (hst p (some (b, cs)) l) fun c L => ∃ z cs' l', c = .sc (.iface 3 (.int .i64 z)) ∧ L = hst p (some (b, cs')) l' ∧ lU (some (b, cs')) l' ∧ (l' ++ [z]).Perm l := by
 refine aU Tryz.func270 rfl Tryz.ntmps270 rfl fun B => ?_
 rw [gj]
 (repeat' (first|refine ah ?_|refine a6 ?_|refine a8 ?_|refine aa ?_|refine ae a7 rfl rfl ?_|fail))
 refine dg 0 [] [(p, .box [.sc (.slice (some ⟨b, 0, none⟩) l.length cs.length)] 328), (b, .box cs 3)] wy (co a7 rfl) rfl rfl rfl rfl (List.Perm.refl _) (sd _ l.length _ _ rfl) rfl rfl fun c L1 hc => ?_
 have hc : c = aQ l.length := hc
 subst hc
 refine bh (dA (List.sublist_append_right ..)) ?_
 (repeat' (first|refine ah ?_|refine a6 ?_|refine a8 ?_|refine aa ?_|refine ae a7 rfl rfl ?_|(apply aX; refine aW ?_)|fail))
 obtain ⟨x, hx, hxc⟩ := h.get (a := 0) (by omega) (by omega)
 obtain ⟨y, hy, hyc⟩ := h.get (a := (l.length : Int) - 1) (by omega) (by omega)
 refine dg 0 [(b, .box cs 3)] [(p, .box [.sc (.slice (some ⟨b, 0, none⟩) l.length cs.length)] 328)] nA (co a7 rfl) rfl rfl rfl rfl (List.Perm.swap ..) (la (x := x) (y := y) ⟨by omega, by omega⟩ ⟨by omega, by omega⟩ hxc hyc h.2.1) rfl rfl fun c L1 hL => ?_
 subst hL
 have hs := h.swap (a := 0) (e := (l.length : Int) - 1) ⟨by omega, by omega⟩ ⟨by omega, by omega⟩ hx hy
 have hsl := hs.2.length_eq
 refine bh (bc (List.Perm.swap ..)) ?_
 (repeat' (first|refine ah ?_|refine a6 ?_|refine a8 ?_|refine aa ?_|refine ae a7 rfl rfl ?_|fail))
 have hdn := tc p b _ _ hs.1 0 (l.length - 1) (by rw [hsl]; omega) (by rw [hsl]; omega) (by omega)
 rw [gj, hsl, show (((l.length - 1 : Nat)) : Int) = (l.length : Int) - 1 by omega] at hdn
 rw [show cs.length = ((cs.set (0 : Int).toNat (aQ y)).set ((l.length : Int) - 1).toNat (aQ x)).length by simp]
 refine aZ _ [] hdn rfl rfl (by rw [List.append_nil]) rfl fun c L1 ⟨cs', l', hL, hok', hpm⟩ => ?_
 subst hL
 rw [List.append_nil]
 (repeat' (first|refine ah ?_|refine a6 ?_|refine a8 ?_|refine aa ?_|refine ae a7 rfl rfl ?_|fail))
 have hl' := hpm.length_eq
 refine qX (hst p (some (b, cs')) l') [] Bj rfl rfl (by rw [List.append_nil]) (Ai p b cs' l' hok' (by omega) (by omega)) rfl rfl fun c L1 ⟨z, l2, hc, hL, hok2, he⟩ => ?_
 subst hc; subst hL
 rw [List.append_nil]
 (repeat' (first|refine au ?_|refine a8 ?_|refine aa ?_|refine ae a7 rfl rfl ?_|fail))
 refine aB rfl rfl ⟨z, cs', l2, rfl, rfl, hok2, ?_⟩
 rw [← he]
 exact hpm.trans hs.2
theorem zU {k : Option (Nat × List AV)} {l : List Int} (h : lU k l) : ∃ A c, qN k l.length = .slice A l.length c := by
 cases k with
 | none => rw [show l = [] from h]; exact ⟨_, _, rfl⟩
 | some q => exact ⟨_, _, rfl⟩
section
variable {P : Program} {fr : c9} {d : Option Tmp} {ty t t' : TypeId} {pos : String} {af : Array Edge} {g : Option (Nat × Bool)} {x y : Operand}
theorem xo {n : Nat} (hx : bB fr x = some (aQ n)) (hy : bB fr y = some (aQ 2)) (hn : n ≤ 9223372036854775807) : Av P ⟨d, .binOp .quo t x y t', ty, pos, af, g⟩ fr (aQ ((n / 2 : Nat) : Int)) := by
 have h := vu (P := P) (d := d) (ty := ty) (pos := pos) (af := af) (g := g) (t := t) (t' := t') hx hy (by omega)
 have e : IntKind.i64.wrap ((n : Int).tdiv 2) = ((n / 2 : Nat) : Int) := by
  have : (n : Int).tdiv 2 = ((n / 2 : Nat) : Int) := by
   rw [Int.tdiv_eq_ediv_of_nonneg (by omega)]
   simp
  rw [this, ly (by omega)]
 rwa [e] at h
end
set_option maxHeartbeats 1000000 in
theorem we (p : Nat) (k : Option (Nat × List AV)) (l : List Int) (h : lU k l) (hl : l.length ≤ 1000000) : AC Tryz.prog 269 [HI p] (hst p k l) fun _ L => ∃ k' l', L = hst p k' l' ∧ lU k' l' ∧ l'.Perm l := by
 refine aU Tryz.func269 rfl Tryz.ntmps269 rfl fun B => ?_
 obtain ⟨A, cc, hA⟩ := zU h
 (repeat' (first|refine ah ?_|refine a6 ?_|refine ae a7 rfl rfl ?_|fail))
 refine dg 0 [] (hst p k l) wy (co a7 rfl) rfl rfl rfl rfl (List.Perm.refl _) (sd _ l.length cc A hA) rfl rfl fun c L1 hc => ?_
 have hc : c = aQ l.length := hc
 subst hc
 refine bh (dA (List.sublist_append_right ..)) ?_
 (repeat' (first|refine ah ?_|refine a6 ?_|refine a8 ?_|refine aa ?_|refine ae a7 rfl rfl ?_|fail))
 refine aW ?_ (xo (n := l.length) rfl rfl (by omega))
 (repeat' (first|refine am ?_|refine a8 ?_|refine aa ?_|refine ae a7 rfl rfl ?_|(apply aX; refine aW ?_)|fail))
 refine aL [0, 2] (α := Nat × Option (Nat × List AV) × List Int) (fun x => [(3, aQ ((x.1 : Int) - 1))]) (fun x => x.1 ≤ l.length / 2 ∧ lU x.2.1 x.2.2 ∧ x.2.2.Perm l) (fun x => hst p x.2.1 x.2.2) (fun x => x.1) (l.length / 2, k, l) rfl ⟨rfl, trivial⟩ ⟨Nat.le_refl _, h, List.Perm.refl _⟩ (fun _ _ h => h) ?_
 rintro ⟨m, k, l'⟩ ⟨hm, hok, hpm⟩
 dsimp only at hm hok hpm ⊢
 have hll := hpm.length_eq
 try dsimp only [List.cons_append, List.nil_append, List.map_cons, List.map_nil]
 (repeat' (first|refine ah ?_|refine a6 ?_|refine a8 ?_|refine aa ?_|refine ae a7 rfl rfl ?_|fail))
 refine av rfl (fun h2 => ?_) (fun h2 => ?_)
 ·have h2' := of_decide_eq_true h2
  cases k with
  | none => rw [show l' = [] from hok] at hll; simp at hll; omega
  | some q =>
   obtain ⟨b, cs⟩ := q
   (repeat' (first|refine ah ?_|refine a6 ?_|refine am ?_|refine ak ?_|refine a8 ?_|refine ae a7 rfl rfl ?_|fail))
   have hdn := tc p b cs l' hok (m - 1) l.length (by omega) (by omega) (by omega)
   rw [show (((m - 1 : Nat)) : Int) = (m : Int) - 1 by omega] at hdn
   refine aZ _ [] hdn rfl rfl (by rw [List.append_nil]) rfl fun c L1 ⟨cs', l2, hL, hok', hpm'⟩ => ?_
   subst hL
   rw [List.append_nil]
   (repeat' (first|refine a6 ?_|refine a8 ?_|refine aJ ?_|refine aa ?_|refine ae a7 rfl rfl ?_|(apply aX; refine aW ?_)|fail))
   exact aE (m - 1, some (b, cs'), l2) rfl ⟨by rw [show (((m - 1 : Nat)) : Int) = (m : Int) - 1 by omega]; rfl, trivial⟩ ⟨by dsimp only; omega, hok', hpm'.trans hpm⟩ (by dsimp only; omega) (fun _ _ h => h)
 ·(repeat' (first|refine aR ?_|refine az ?_|refine aC ?_|refine aA ?_|fail))
  exact cB rfl ⟨k, l', rfl, hok, hpm⟩
end Go.Proofs.YtpbinloeemebkaaGreat

namespace Go.Proofs.YtpbinloeemebkaaGreat
open Go.RowKit
attribute [local irreducible] AT bN AX AO Av Kt bi dE DA d6
def iT (fs : List ByteArray) (l : List bA) : List Int := (l.map fun t => if gi fs t.Name then t.Lookups else []).flatten
theorem qj (fs : List ByteArray) (l : List bA) (i : Nat) {t : bA} (h : l[i]? = some t) : iT fs (l.take (i + 1)) = iT fs (l.take i) ++ (if gi fs t.Name then t.Lookups else []) := by
 unfold iT
 rw [List.take_add_one, h, List.map_append, List.flatten_append]
 simp
theorem vI (fs : List ByteArray) (l : List bA) (i : Nat) : (iT fs (l.take i)).length ≤ (l.map (·.Lookups.length)).sum := by
 unfold iT
 induction l generalizing i with
 | nil => simp
 | cons t l ih =>
  cases i with
  | zero => simp
  | succ i =>
   have := ih i
   rw [List.take_succ_cons, List.map_cons, List.flatten_cons, List.length_append, List.map_cons, List.sum_cons]
   split
   ·omega
   ·simp only [List.length_nil]; omega
theorem mV {fs : List ByteArray} {l : List bA} {z : Int} : z ∈ iT fs l ↔ ∃ t ∈ l, gi fs t.Name = true ∧ z ∈ t.Lookups := by
 unfold iT
 rw [List.mem_flatten]
 constructor
 ·rintro ⟨q, hq, hz⟩
  rw [List.mem_map] at hq
  obtain ⟨t, ht, rfl⟩ := hq
  refine ⟨t, ht, ?_⟩
  split at hz
  ·exact ⟨by assumption, hz⟩
  ·cases hz
 ·rintro ⟨t, ht, h1, h2⟩
  exact ⟨_, List.mem_map.2 ⟨t, ht, rfl⟩, by rw [if_pos h1]; exact h2⟩
def CallsIn (f : aH) (l : List Int) (cs : List iQ) : Prop := ∀ c ∈ cs, gP f c.Lookup = true → c.Lookup ∈ l
def fS (f : aH) (l : List Int) (rs : List bJ) : Prop := ∀ r ∈ rs, CallsIn f l r.Calls
structure dH (f : aH) (fs : List ByteArray) (l : List Int) (i : Nat) : Prop where
 reach : ∀ z ∈ l, gM f fs z
 nodup : l.Nodup
 base : ∀ z ∈ iT fs f.Features, 0 ≤ z → z < f.Lookups.length → z ∈ l
 done : ∀ j < i, ∀ z, l[j]? = some z → ∀ x, f.Lookups[z.toNat]? = some x → x.Kind = 4 → fS f l x.Rules
theorem CallsIn.mono {f : aH} {l k : List Int} {cs : List iQ} (h : CallsIn f l cs) (hs : ∀ z ∈ l, z ∈ k) : CallsIn f k cs := fun c hc hn => hs _ (h c hc hn)
theorem fS.mono {f : aH} {l k : List Int} {rs : List bJ} (h : fS f l rs) (hs : ∀ z ∈ l, z ∈ k) : fS f k rs := fun r hr => (h r hr).mono hs
theorem dH.len {f : aH} {fs : List ByteArray} {l : List Int} {i : Nat} (h : dH f fs l i) : l.length ≤ f.Lookups.length := eb h.nodup fun z hz => (h.reach z hz).in
theorem dH.add {f : aH} {fs : List ByteArray} {l : List Int} {i : Nat} {n : Int} (h : dH f fs l i) (hn : gM f fs n) (hl : n ∉ l) (hi : i ≤ l.length) : dH f fs (l ++ [n]) i where
 reach z hz := by
  rcases List.mem_append.1 hz with hz | hz
  ·exact h.reach z hz
  ·rw [List.mem_singleton.1 hz]; exact hn
 nodup := by
  rw [List.nodup_append]
  refine ⟨h.nodup, by simp, fun a ha b hb => ?_⟩
  rw [List.mem_singleton.1 hb]
  exact fun e => hl (e ▸ ha)
 base z hz h0 h1 := List.mem_append.2 (Or.inl (h.base z hz h0 h1))
 done j hj z hz x hx hk := by
  rw [List.getElem?_append_left (by omega)] at hz
  exact (h.done j hj z hz x hx hk).mono fun z hz => List.mem_append.2 (Or.inl hz)
theorem dH.start {f : aH} {fs : List ByteArray} : dH f fs (d3 (iT fs f.Features) f.Lookups.length) 0 where
 reach z hz := by
  obtain ⟨h1, h2, h3⟩ := dL.1 hz
  obtain ⟨t, ht, h4, h5⟩ := mV.1 h1
  exact .base ht h4 h5 h2 h3
 nodup := iD _ _
 base z hz h0 h1 := dL.2 ⟨hz, h0, h1⟩
 done j hj := absurd hj (Nat.not_lt_zero _)
theorem dH.end {f : aH} {fs : List ByteArray} {l : List Int} (h : dH f fs l l.length) : d3 l f.Lookups.length = dc f fs := by
 refine nU fun z h0 h1 => ⟨h.reach z, fun hr => ?_⟩
 clear h0 h1
 induction hr with
 | base ht hn hm h0 h1 => exact h.base _ (mV.2 ⟨_, ht, hn, hm⟩) h0 h1
 | call hm hl hk hr hc hn ih =>
  obtain ⟨j, hj⟩ := List.mem_iff_getElem?.1 ih
  exact h.done j (List.getElem?_eq_some_iff.1 hj).1 _ hj _ hl hk _ hr _ hc hn
theorem dH.next {f : aH} {fs : List ByteArray} {l : List Int} {i : Nat} {z : Int} {x : bC} (h : dH f fs l i) (hz : l[i]? = some z) (hx : f.Lookups[z.toNat]? = some x) (hd : x.Kind = 4 → fS f l x.Rules) : dH f fs l (i + 1) where
 reach := h.reach
 nodup := h.nodup
 base := h.base
 done j hj y hy w hw hk := by
  by_cases e : j = i
  ·subst e
   rw [hz] at hy
   injection hy with hy
   subst hy
   rw [hx] at hw
   injection hw with hw
   subst hw
   exact hd hk
  ·exact h.done j (by omega) y hy w hw hk
theorem sa {f : aH} {n : Int} {l : bC} (hl : f.Lookups[n.toNat]? = some l) : gP f n = true ↔ 0 ≤ n ∧ 1 ≤ l.Kind ∧ l.Kind ≤ 4 := by
 unfold gP
 rw [hl]
 simp only [decide_eq_true_iff]
 omega
set_option maxHeartbeats 2000000 in
theorem qT (f : aH) (fs : List ByteArray) (hs : ck f) : bo Tryz.prog 14 [bw f, .imm 1 (jJ fs)] (.imm 1 (aV (dc f fs))) := by
 refine aU Tryz.func14 rfl Tryz.ntmps14 rfl fun B => ?_
 have hF := hs.features
 have hLk := hs.lookups
 (repeat' (first|refine ah ?_|refine a6 ?_|refine am ?_|refine a8 ?_|refine aa ?_|refine ae a7 rfl rfl ?_|refine b6 ?_|refine nF (n := 0) a7 fun _=>?_|fail))
 rename_i b12
 refine aL [1, 2] (α := Nat × Option (Nat × Nat)) (fun x => [(5, .vec x.2 1 (aV (iT fs (f.Features.take x.1)))), (6, aQ x.1)]) (fun x => x.1 ≤ f.Features.length) (fun x => tok x.2 3 1 (aV (iT fs (f.Features.take x.1))).length) (fun x => f.Features.length - x.1) (0, some (b12, 0)) rfl ⟨rfl, rfl, trivial⟩ (Nat.zero_le _) (fun _ _ h => h) ?_
 rintro ⟨i, k⟩ hi
 dsimp only at hi ⊢
 have hal := vI fs f.Features i
 have hfe := hs.feats
 try dsimp only [List.cons_append, List.nil_append, List.map_cons, List.map_nil]
 (repeat' (first|refine ah ?_|refine a6 ?_|refine a8 ?_|refine aa ?_|refine ae a7 rfl rfl ?_|fail))
 refine av rfl (fun h => ?_) (fun h => ?_)
 ·have hil : i < f.Features.length := by have := of_decide_eq_true h; simp at this; omega
  obtain ⟨t, ht⟩ : ∃ z, f.Features[i]? = some z := ⟨_, List.getElem?_eq_getElem hil⟩
  have htg := b5 (c := bS) ht
  have had := qj fs f.Features i ht
  (repeat' (first|refine ah ?_|refine a6 ?_|refine am ?_|refine ak ?_|refine a8 ?_|refine aa ?_|refine ae a7 rfl rfl ?_|(apply aP; first|refine aO a7 ?_|refine aI a7 ?_)|(apply ba;refine aY ?_)|fail))
  refine av rfl (fun h2 => ?_) (fun h2 => ?_)
  ·rw [if_pos h2] at had
   have htl : t.Lookups.length ≤ 2000 := by
    have := l9 (g := fun t : bA => t.Lookups.length) (List.mem_of_getElem? ht)
    omega
   (repeat' (first|refine a6 ?_|refine ae a7 rfl rfl ?_|(apply aP; first|refine aO a7 ?_|refine aI a7 ?_)|fail))
   refine cF a7 [] rfl rfl rfl rfl (by simp) (by rw [aM, aM]; omega) (by rw [aM, aM]; omega) rfl fun k' => ?_
   (repeat' (first|refine a6 ?_|refine a8 ?_|refine aJ ?_|refine aa ?_|refine ae a7 rfl rfl ?_|(apply aX; refine aW ?_)|fail))
   rw [cE, ← had]
   refine aE (i + 1, k') rfl ⟨rfl, by rw [Int.natCast_add]; rfl, trivial⟩ (by dsimp only; omega) (by dsimp only; omega) (fun _ _ h => by simpa using h)
  ·rw [h2] at had
   simp only [Bool.false_eq_true, if_false, List.append_nil] at had
   (repeat' (first|refine a6 ?_|refine ak ?_|refine a8 ?_|refine aJ ?_|refine aa ?_|refine ae a7 rfl rfl ?_|(apply aX; refine aW ?_)|fail))
   rw [← had]
   refine aE (i + 1, k) rfl ⟨rfl, by rw [Int.natCast_add]; rfl, trivial⟩ (by dsimp only; omega) (by dsimp only; omega) (fun _ _ h => h)
 ·have hil : i = f.Features.length := by have := of_decide_eq_false h; simp at this; omega
  subst hil
  rw [List.take_length]
  (repeat' (first|refine ah ?_|refine a6 ?_|refine aR ?_|refine a8 ?_|refine az ?_|refine aC ?_|refine aA ?_|refine ae a7 rfl rfl ?_|fail))
  refine yj (tB (iT fs f.Features) (f.Lookups.map bq).length (by simpa using by omega)) rfl rfl rfl fun k2 => ?_
  rw [List.length_map]
  (repeat' (first|refine ah ?_|refine a6 ?_|refine am ?_|refine a8 ?_|refine aa ?_|refine ae a7 rfl rfl ?_|fail))
  refine aL [2] (α := List Int × Nat × Option (Nat × Nat)) (fun x => [(5, .vec x.2.2 1 (aV x.1)), (7, aQ x.2.1)]) (fun x => x.2.1 ≤ x.1.length ∧ dH f fs x.1 x.2.1) (fun x => tok x.2.2 3 1 (aV x.1).length) (fun x => f.Lookups.length - x.2.1) (_, 0, k2) rfl ⟨rfl, rfl, trivial⟩ ⟨Nat.zero_le _, dH.start⟩ (fun _ _ h => h.sublist (List.sublist_append_left ..)) ?_
  rintro ⟨l, i, k3⟩ ⟨hi, hw⟩
  dsimp only at hi hw ⊢
  have hll := hw.len
  try dsimp only [List.cons_append, List.nil_append, List.map_cons, List.map_nil]
  (repeat' (first|refine ah ?_|refine a6 ?_|refine a8 ?_|refine aa ?_|refine ae a7 rfl rfl ?_|fail))
  refine av rfl (fun h => ?_) (fun h => ?_)
  ·have hil : i < l.length := by have := of_decide_eq_true h; rw [aM] at this; omega
   obtain ⟨z, hz⟩ : ∃ z, l[i]? = some z := ⟨_, List.getElem?_eq_getElem hil⟩
   have hzg := bk hz
   have hzr := (hw.reach z (List.mem_of_getElem? hz)).in
   obtain ⟨x, hx⟩ : ∃ x, f.Lookups[z.toNat]? = some x := ⟨_, List.getElem?_eq_getElem (by omega)⟩
   have hxg := b5 (c := bq) hx
   (repeat' (first|refine ah ?_|refine am ?_|refine ak ?_|refine a8 ?_|fail))
   refine bj 9 [(0, .v), (1, .v), (2, .v), (3, .v), (4, .v), (5, .v), (6, .v), (7, .v)] (some (8, .box _ 70)) ?_ ⟨_, rfl, rfl, fun _ _ _ => kB (eN a7 rfl) rfl⟩ rfl (by kernel_rfl) (by kernel_rfl) (by kernel_rfl) mixed (by kernel_rfl) rfl
   (repeat' (first|refine aN ?_|refine bf a7 ?_|(apply bs;refine bH a7 ?_)|fail))
   refine pp [2, 5, 7, 8, 54] (fun _ => _) (fun _ => rfl) rfl fun _ => ?_
   refine bh (bc List.perm_append_comm) ?_
   (repeat' (first|refine ah ?_|refine a6 ?_|refine am ?_|refine a8 ?_|refine aa ?_|refine ae a7 rfl rfl ?_|(apply aT; first|refine ai 8 a7 0 rfl rfl rfl rfl rfl rfl rfl rfl ?_|refine ai 8 a7 1 rfl rfl rfl rfl rfl rfl rfl rfl ?_|refine ai 8 a7 2 rfl rfl rfl rfl rfl rfl rfl rfl ?_|refine aj a7 0 rfl rfl rfl rfl rfl rfl rfl ?_|refine aj a7 1 rfl rfl rfl rfl rfl rfl rfl ?_|refine aj a7 2 rfl rfl rfl rfl rfl rfl rfl ?_|refine aj a7 3 rfl rfl rfl rfl rfl rfl rfl ?_|fail)|fail))
   have hRl := hs.rulesL (List.mem_of_getElem? hx)
   refine aL [2, 7, 8] (α := List Int × Nat × Option (Nat × Nat)) (fun y => [(5, .vec y.2.2 1 (aV y.1)), (9, aQ y.2.1)]) (fun y => y.2.1 ≤ x.Rules.length ∧ i < y.1.length ∧ y.1[i]? = some z ∧ dH f fs y.1 i ∧ (x.Kind = 4 → fS f y.1 (x.Rules.take y.2.1))) (fun x => tok x.2.2 3 1 (aV x.1).length) (fun y => x.Rules.length - y.2.1) (l, 0, k3) rfl ⟨rfl, rfl, trivial⟩ ⟨Nat.zero_le _, hil, hz, hw, fun _ r hr => by cases hr⟩ (fun _ _ h => h) ?_
   clear hi hw hll hil hz hzg h
   rintro ⟨l, k, k3⟩ ⟨hk, hil, hz, hw, hR⟩
   dsimp only at hk hil hz hw hR ⊢
   have hll := hw.len
   try dsimp only [List.cons_append, List.nil_append, List.map_cons, List.map_nil]
   (repeat' (first|refine ah ?_|refine a6 ?_|refine ae a7 rfl rfl ?_|fail))
   refine ci [2, 5, 7, 8, 9] (k < x.Rules.length ∧ x.Kind = 4) rfl (fun Q' K => ?_) (fun hC => ?_) (fun hC => ?_)
   ·(repeat' (first|refine aa ?_|refine ae a7 rfl rfl ?_|refine aw rfl rfl ?_|refine aD rfl rfl rfl rfl ?_|refine aS rfl rfl rfl (fun _ => ?_) (fun _ => ?_)|fail))
    all_goals exact K _ _ rfl rfl (by simp_all <;> omega)
   ·obtain ⟨hkl, hK4⟩ := hC
    obtain ⟨r, hr⟩ : ∃ r, x.Rules[k]? = some r := ⟨_, List.getElem?_eq_getElem hkl⟩
    have hrg := b5 (c := ca) hr
    have hCl := hs.calls (List.mem_of_getElem? hx) (List.mem_of_getElem? hr)
    (repeat' (first|refine ah ?_|refine a6 ?_|refine am ?_|refine ak ?_|refine a8 ?_|refine aa ?_|refine ae a7 rfl rfl ?_|fail))
    refine aL [2, 7, 8, 9] (α := List Int × Nat × Option (Nat × Nat)) (fun y => [(5, .vec y.2.2 1 (aV y.1)), (10, aQ y.2.1)]) (fun y => y.2.1 ≤ r.Calls.length ∧ i < y.1.length ∧ y.1[i]? = some z ∧ dH f fs y.1 i ∧ fS f y.1 (x.Rules.take k) ∧ CallsIn f y.1 (r.Calls.take y.2.1)) (fun x => tok x.2.2 3 1 (aV x.1).length) (fun y => r.Calls.length - y.2.1) (l, 0, k3) rfl ⟨rfl, rfl, trivial⟩ ⟨Nat.zero_le _, hil, hz, hw, hR hK4, fun c hc => by cases hc⟩ (fun _ _ h => h) ?_
    clear hil hz hw hR hll
    rintro ⟨l, c, k3⟩ ⟨hc, hil, hz, hw, hR, hCs⟩
    dsimp only at hc hil hz hw hR hCs ⊢
    have hll := hw.len
    try dsimp only [List.cons_append, List.nil_append, List.map_cons, List.map_nil]
    (repeat' (first|refine ah ?_|refine a6 ?_|refine a8 ?_|refine aa ?_|refine ae a7 rfl rfl ?_|(apply aP; first|refine aO a7 ?_|refine aI a7 ?_)|fail))
    refine av rfl (fun h => ?_) (fun h => ?_)
    ·have hcl : c < r.Calls.length := by have := of_decide_eq_true h; simp at this; omega
     obtain ⟨q, hq⟩ : ∃ q, r.Calls[c]? = some q := ⟨_, List.getElem?_eq_getElem hcl⟩
     have hqg := b5 (c := g8) hq
     (repeat' (first|refine ah ?_|refine a6 ?_|refine am ?_|refine ak ?_|refine a8 ?_|refine aa ?_|refine ae a7 rfl rfl ?_|(apply aP; first|refine aO a7 ?_|refine aI a7 ?_)|fail))
     refine ci [2, 5, 7, 8, 9, 10, 11] (gP f q.Lookup = true ∧ q.Lookup ∉ l) rfl (fun Q' K => ?_) (fun hC => ?_) (fun hC => ?_)
     ·by_cases hin : 0 ≤ q.Lookup ∧ q.Lookup < f.Lookups.length
      ·obtain ⟨y, hy⟩ : ∃ y, f.Lookups[q.Lookup.toNat]? = some y := ⟨_, List.getElem?_eq_getElem (by omega)⟩
       have hyg := b5 (c := bq) hy
       have hcn := sa hy
       clear hR hCs hw hz hrg hqg
       (repeat' (first|refine aa ?_|refine ae a7 rfl rfl ?_|refine aw rfl rfl ?_|refine aD rfl rfl rfl rfl ?_|(apply aP; first|refine aO a7 ?_|refine aI a7 ?_)|(apply ba;refine aY ?_)|refine aS rfl rfl rfl (fun _ => ?_) (fun _ => ?_)|fail))
       all_goals exact K _ _ rfl rfl (by simp_all <;> omega)
      ·have hcn : gP f q.Lookup = false := by
        rw [Bool.eq_false_iff]
        exact fun e => hin (mZ e)
       clear hR hCs hw hz hrg hqg
       (repeat' (first|refine aa ?_|refine ae a7 rfl rfl ?_|refine aw rfl rfl ?_|refine aD rfl rfl rfl rfl ?_|refine aS rfl rfl rfl (fun _ => ?_) (fun _ => ?_)|fail))
       all_goals first
        | exact K _ _ rfl rfl (by simp_all)
        | (rename_i e1 e2; have e3 := of_decide_eq_true e2; rw [List.length_map] at e3; exact absurd ⟨of_decide_eq_true e1, e3⟩ hin)
     ·(repeat' (first|refine a6 ?_|refine ae a7 rfl rfl ?_|refine bM a7 ?_|fail))
      refine cF a7 [] rfl rfl rfl rfl (by simp) (by rw [aM]; simp; omega) (by rw [aM]; simp; omega) rfl fun k' => ?_
      (repeat' (first|refine a6 ?_|refine a8 ?_|refine aJ ?_|refine aa ?_|refine ae a7 rfl rfl ?_|(apply aX; refine aW ?_)|fail))
      have hin : aV l ++ [[aQ q.Lookup]] = aV (l ++ [q.Lookup]) := (cE l [q.Lookup])
      have hsub : ∀ z ∈ l, z ∈ l ++ [q.Lookup] := fun z hz => List.mem_append.2 (Or.inl hz)
      rw [hin]
      refine aE (l ++ [q.Lookup], c + 1, k') rfl ⟨rfl, by rw [Int.natCast_add]; rfl, trivial⟩ ⟨by dsimp only; omega, by dsimp only; rw [List.length_append]; omega, by dsimp only; rw [List.getElem?_append_left hil]; exact hz, hw.add (.call (hw.reach z (List.mem_of_getElem? hz)) hx hK4 (List.mem_of_getElem? hr) (List.mem_of_getElem? hq) hC.1) hC.2 (by omega), hR.mono hsub, ?_⟩ (by dsimp only; omega) (fun _ _ h => by simpa using h)
      intro y hy hyn
      dsimp only at hy ⊢
      rw [List.take_add_one, hq] at hy
      rcases List.mem_append.1 hy with hy | hy
      ·exact hsub _ (hCs y hy hyn)
      ·simp at hy; subst hy; simp
     ·(repeat' (first|refine a6 ?_|refine ak ?_|refine a8 ?_|refine aJ ?_|refine aa ?_|refine ae a7 rfl rfl ?_|(apply aX; refine aW ?_)|fail))
      refine aE (l, c + 1, k3) rfl ⟨rfl, by rw [Int.natCast_add]; rfl, trivial⟩ ⟨by dsimp only; omega, hil, hz, hw, hR, ?_⟩ (by dsimp only; omega) (fun _ _ h => h)
      intro y hy hyn
      dsimp only at hy ⊢
      rw [List.take_add_one, hq] at hy
      rcases List.mem_append.1 hy with hy | hy
      ·exact hCs y hy hyn
      ·simp at hy; subst hy; exact Classical.byContradiction fun hn => hC ⟨hyn, hn⟩
    ·have hcl : c = r.Calls.length := by have := of_decide_eq_false h; simp at this; omega
     subst hcl
     rw [List.take_length] at hCs
     (repeat' (first|refine a6 ?_|refine aR ?_|refine a8 ?_|refine az ?_|refine aJ ?_|refine aC ?_|refine aA ?_|refine aa ?_|refine ae a7 rfl rfl ?_|(apply aX; refine aW ?_)|fail))
     refine aE (l, k + 1, k3) rfl ⟨rfl, by rw [Int.natCast_add]; rfl, trivial⟩ ⟨by dsimp only; omega, hil, hz, hw, fun _ y hy => ?_⟩ (by dsimp only; omega) (fun _ _ h => h)
     dsimp only at hy ⊢
     rw [List.take_add_one, hr] at hy
     rcases List.mem_append.1 hy with hy | hy
     ·exact hR y hy
     ·simp at hy; subst hy; exact hCs
   ·(repeat' (first|refine a6 ?_|refine aR ?_|refine a8 ?_|refine az ?_|refine aJ ?_|refine aC ?_|refine aA ?_|refine aa ?_|refine ae a7 rfl rfl ?_|(apply aX; refine aW ?_)|fail))
    refine aE (l, i + 1, k3) rfl ⟨rfl, by rw [Int.natCast_add]; rfl, trivial⟩ ⟨hil, hw.next hz hx fun hK4 => ?_⟩ (by dsimp only; omega) (fun _ _ h => h)
    have hkl : k = x.Rules.length := by
     have : ¬ k < x.Rules.length := fun h => hC ⟨h, hK4⟩
     omega
    subst hkl
    have := hR hK4
    rwa [List.take_length] at this
  ·have hil : i = l.length := by have := of_decide_eq_false h; rw [aM] at this; omega
   subst hil
   have hset := AD.mk (P := Tryz.prog) (jD l (f.Lookups.map bq).length (by simpa using by omega))
   rw [List.length_map, hw.end, ← List.length_map (f := bq)] at hset
   (repeat' (first|refine ah ?_|refine a6 ?_|refine au ?_|refine aR ?_|refine a8 ?_|refine az ?_|refine aC ?_|refine aA ?_|refine aa ?_|refine ae a7 rfl rfl ?_|(apply ba;refine aY ?_)|fail))
   exact kD rfl rfl rfl rfl
end Go.Proofs.YtpbinloeemebkaaGreat

namespace Go.Proofs.YtpbinloeemebkaaGreat
open Go.RowKit
attribute [local irreducible] AT bN AX AO Av Kt bi dE DA d6
def dZ (l : List Int) (n : Nat) : List AV := (List.range n).map fun (i : Nat) => c8 (l.contains (i : Int))
theorem jw (l : List Int) (n : Nat) : (dZ l n).length = n := by simp [dZ]
theorem jv (l : List Int) (n : Nat) {z : Int} (h0 : 0 ≤ z) (h1 : z < n) : (dZ l n)[0 + z.toNat * 1]? = some (c8 (l.contains z)) := by
 rw [Nat.zero_add, Nat.mul_one]
 unfold dZ
 rw [List.getElem?_map, List.getElem?_range (by omega)]
 simp only [Option.map_some]
 rw [show ((z.toNat : Nat) : Int) = z by omega]
theorem lA (l : List Int) (n : Nat) {z : Int} (h0 : 0 ≤ z) (h1 : z < n) : (dZ l n).set (0 + z.toNat * 1) (c8 true) = dZ (l ++ [z]) n := by
 rw [Nat.zero_add, Nat.mul_one]
 apply List.ext_getElem?
 intro i
 rw [List.getElem?_set, jw]
 unfold dZ
 by_cases hi : z.toNat = i
 ·subst hi
  rw [if_pos rfl, if_pos (by omega), List.getElem?_map, List.getElem?_range (by omega)]
  simp
  omega
 ·rw [if_neg hi, List.getElem?_map, List.getElem?_map]
  by_cases hn : i < n
  ·rw [List.getElem?_range hn]
   simp only [Option.map_some, Option.some.injEq]
   refine congrArg c8 ?_
   rw [Bool.eq_iff_iff, List.contains_iff_mem, List.contains_iff_mem, List.mem_append, List.mem_singleton]
   constructor
   ·exact Or.inl
   ·rintro (h | h)
    ·exact h
    ·omega
  ·rw [List.getElem?_eq_none (by simp; omega)]
   rfl
theorem lz (n : Nat) : (List.replicate n [c8 false]).flatten = dZ [] n := by
 have : ∀ m, (List.replicate m [c8 false]).flatten = List.replicate m (c8 false) := by
  intro m
  induction m with
  | zero => rfl
  | succ m ih => rw [List.replicate_succ, List.flatten_cons, ih, List.replicate_succ]; rfl
 rw [this]
 unfold dZ
 apply List.ext_getElem?
 intro i
 rw [List.getElem?_replicate, List.getElem?_map]
 by_cases h : i < n
 ·rw [if_pos h, List.getElem?_range h]; rfl
 ·rw [if_neg h, List.getElem?_eq_none (by simp; omega)]; rfl
def addOne (n : Nat) (l : List Int) (z : Int) : List Int := if 0 ≤ z ∧ z < n ∧ z ∉ l then l ++ [z] else l
def bR (n : Nat) (l ns : List Int) : List Int := ns.foldl (addOne n) l
theorem oC {n : Nat} {l ns : List Int} {i : Nat} {z : Int} (h : ns[i]? = some z) : bR n l (ns.take (i + 1)) = addOne n (bR n l (ns.take i)) z := by
 unfold bR
 rw [List.take_add_one, h, List.foldl_append]
 rfl
structure cm (n : Nat) (l : List Int) : Prop where
 nodup : l.Nodup
 dom : ∀ z ∈ l, 0 ≤ z ∧ z < n
theorem cm.len {n : Nat} {l : List Int} (h : cm n l) : l.length ≤ n := eb h.nodup h.dom
theorem cm.nil {n : Nat} : cm n [] := ⟨by simp, by simp⟩
theorem cm.one {n : Nat} {l : List Int} (h : cm n l) (z : Int) : cm n (addOne n l z) := by
 unfold addOne
 split
 ·rename_i hz
  refine ⟨?_, fun y hy => ?_⟩
  ·rw [List.nodup_append]
   refine ⟨h.nodup, by simp, fun a ha b hb => ?_⟩
   rw [List.mem_singleton.1 hb]
   exact fun e => hz.2.2 (e ▸ ha)
  ·rcases List.mem_append.1 hy with hy | hy
   ·exact h.dom y hy
   ·rw [List.mem_singleton.1 hy]; exact ⟨hz.1, hz.2.1⟩
 ·exact h
theorem cm.add {n : Nat} {l : List Int} (h : cm n l) (ns : List Int) : cm n (bR n l ns) := by
 unfold bR
 induction ns generalizing l with
 | nil => exact h
 | cons z ns ih => exact ih (h.one z)
def cW (p b n : Nat) (k : Option (Nat × Nat)) (l : List Int) : AL := (p, .box [.sc (.slice (some ⟨b, 0, none⟩) n n), .vec k 1 (aV l)] 123) :: (b, .box (dZ l n) 4) :: tok k 81 1 (aV l).length
abbrev eV (p : Nat) : AV := .sc (.pointer (some ⟨p, 0, none⟩))
theorem z6 (n : Nat) (hn : n ≤ 1000000) : AC Tryz.prog 26 [aQ n] [] fun c L => ∃ p b, c = eV p ∧ L = cW p b n none [] := by
 refine aU Tryz.func26 rfl Tryz.ntmps26 rfl fun B => ?_
 (repeat' (first|refine ah ?_|refine a6 ?_|refine a8 ?_|refine aa ?_|refine ae a7 rfl rfl ?_|fail))
 refine jb a7 n rfl rfl rfl rfl rfl rfl rfl (by omega) (by omega) rfl fun b => ?_
 rw [show (List.replicate n (List.map AV.sc [Value.bool false])).flatten = dZ [] n from lz n]
 (repeat' (first|refine au ?_|refine a8 ?_|refine aa ?_|refine ae a7 rfl rfl ?_|refine wF fun _=>?_|fail))
 refine bU (iF 0 (cs' := [.sc (.slice (some ⟨b, 0, none⟩) n n), .vec none 1 []]) rfl fun σ vs h => ?_) (aB rfl rfl ⟨_, b, rfl, rfl⟩)
 obtain ⟨v, ws, rfl, h1, h2⟩ := h.inv
 obtain ⟨v', ws', rfl, h3, h4⟩ := h2.inv
 exact .cons h1 (.cons (jm 1 h3) h4)
theorem vw (p b n : Nat) (k : Option (Nat × Nat)) (l ns : List Int) (hn : n ≤ 1000000) (hl : cm n l) : AC Tryz.prog 27 [eV p, .imm 1 (aV ns)] (cW p b n k l) fun _ L => ∃ k', L = cW p b n k' (bR n l ns) := by
 refine aU Tryz.func27 rfl Tryz.ntmps27 rfl fun B => ?_
 refine cg 1 rfl rfl fun hlen => ?_
 rw [aM] at hlen
 (repeat' (first|refine ah ?_|refine a6 ?_|refine am ?_|refine a8 ?_|refine aa ?_|refine ae a7 rfl rfl ?_|fail))
 refine aL [0, 6, 7] (α := Nat × Option (Nat × Nat)) (fun x => [(8, aQ x.1)]) (fun x => x.1 ≤ ns.length) (fun x => cW p b n x.2 (bR n l (ns.take x.1))) (fun x => ns.length - x.1) (0, k) rfl ⟨rfl, trivial⟩ (Nat.zero_le _) (fun _ _ h => h) ?_
 rintro ⟨i, k⟩ hi
 dsimp only at hi ⊢
 have hok := hl.add (ns.take i)
 have hok1 := hok.len
 try dsimp only [List.cons_append, List.nil_append, List.map_cons, List.map_nil]
 (repeat' (first|refine ah ?_|refine a6 ?_|refine a8 ?_|refine aa ?_|refine ae a7 rfl rfl ?_|fail))
 refine av rfl (fun h => ?_) (fun h => ?_)
 ·have hil : i < ns.length := by have := of_decide_eq_true h; simp [aM] at this; omega
  obtain ⟨z, hz⟩ : ∃ z, ns[i]? = some z := ⟨_, List.getElem?_eq_getElem hil⟩
  have hzg := bk hz
  have had := oC (n := n) (l := l) hz
  generalize bR n l (ns.take i) = l1 at *
  (repeat' (first|refine ah ?_|refine a6 ?_|refine am ?_|refine ak ?_|refine a8 ?_|refine aa ?_|refine ae a7 rfl rfl ?_|(apply aP; first|refine aO a7 ?_|refine aI a7 ?_)|fail))
  refine ci [0, 5, 6, 7, 8] (0 ≤ z ∧ z < n ∧ z ∉ l1) rfl (fun Q' K => ?_) (fun hC => ?_) (fun hC => ?_)
  ·by_cases hin : 0 ≤ z ∧ z < n
   ·obtain ⟨hz0, hz1⟩ := hin
    have hfg := jv l1 n hz0 hz1
    clear had hok hl
    (repeat' (first|refine aa ?_|refine ae a7 rfl rfl ?_|refine aw rfl rfl ?_|refine aD rfl rfl rfl rfl ?_|(apply bn; first|refine aq a7 0 rfl rfl rfl rfl rfl ?_|refine aq a7 1 rfl rfl rfl rfl rfl ?_|refine aq a7 2 rfl rfl rfl rfl rfl ?_|refine aq a7 3 rfl rfl rfl rfl rfl ?_|refine aF a7 0 rfl rfl rfl rfl rfl ?_|refine aF a7 1 rfl rfl rfl rfl rfl ?_|refine aF a7 2 rfl rfl rfl rfl rfl ?_|refine aq a7 1 rfl rfl rfl (by assumption) rfl ?_|refine aq a7 0 rfl rfl rfl (by assumption) rfl ?_|fail)|(apply aP; first|refine aO a7 ?_|refine aI a7 ?_)|refine aS rfl rfl rfl (fun _ => ?_) (fun _ => ?_)|fail))
    all_goals exact K _ _ rfl rfl (by simp_all)
   ·clear had hok hl
    (repeat' (first|refine aa ?_|refine ae a7 rfl rfl ?_|refine aw rfl rfl ?_|refine aD rfl rfl rfl rfl ?_|(apply bn; first|refine aq a7 0 rfl rfl rfl rfl rfl ?_|refine aq a7 1 rfl rfl rfl rfl rfl ?_|refine aq a7 2 rfl rfl rfl rfl rfl ?_|refine aq a7 3 rfl rfl rfl rfl rfl ?_|refine aF a7 0 rfl rfl rfl rfl rfl ?_|refine aF a7 1 rfl rfl rfl rfl rfl ?_|refine aF a7 2 rfl rfl rfl rfl rfl ?_|refine aq a7 1 rfl rfl rfl (by assumption) rfl ?_|refine aq a7 0 rfl rfl rfl (by assumption) rfl ?_|fail)|refine aS rfl rfl rfl (fun _ => ?_) (fun _ => ?_)|fail))
    all_goals first
     | (refine K _ _ rfl rfl ?_; exact ⟨fun e => (by cases e), fun hh => absurd (And.intro hh.1 hh.2.1) hin⟩)
     | (rename_i e1 e2; exact absurd ⟨of_decide_eq_true e1, of_decide_eq_true e2⟩ hin)
  ·obtain ⟨hz0, hz1, hz2⟩ := hC
   have had' : bR n l (ns.take (i + 1)) = l1 ++ [z] := by rw [had]; unfold addOne; rw [if_pos ⟨hz0, hz1, hz2⟩]
   (repeat' (first|refine ah ?_|refine a6 ?_|refine ae a7 rfl rfl ?_|(apply bn; first|refine aq a7 0 rfl rfl rfl rfl rfl ?_|refine aq a7 1 rfl rfl rfl rfl rfl ?_|refine aq a7 2 rfl rfl rfl rfl rfl ?_|refine aq a7 3 rfl rfl rfl rfl rfl ?_|refine aF a7 0 rfl rfl rfl rfl rfl ?_|refine aF a7 1 rfl rfl rfl rfl rfl ?_|refine aF a7 2 rfl rfl rfl rfl rfl ?_|refine aq a7 1 rfl rfl rfl (by assumption) rfl ?_|refine aq a7 0 rfl rfl rfl (by assumption) rfl ?_|fail)|(apply aP; first|refine aO a7 ?_|refine aI a7 ?_)|fail))
   refine aj a7 1 rfl rfl rfl rfl rfl rfl (by rw [Nat.ble_eq, jw]; show _ + 1 ≤ n; omega) ?_
   rw [dU, lA l1 n hz0 hz1]
   (repeat' (first|refine a6 ?_|refine a8 ?_|refine aa ?_|refine ae a7 rfl rfl ?_|(apply bn; first|refine aq a7 0 rfl rfl rfl rfl rfl ?_|refine aq a7 1 rfl rfl rfl rfl rfl ?_|refine aq a7 2 rfl rfl rfl rfl rfl ?_|refine aq a7 3 rfl rfl rfl rfl rfl ?_|refine aF a7 0 rfl rfl rfl rfl rfl ?_|refine aF a7 1 rfl rfl rfl rfl rfl ?_|refine aF a7 2 rfl rfl rfl rfl rfl ?_|refine aq a7 1 rfl rfl rfl (by assumption) rfl ?_|refine aq a7 0 rfl rfl rfl (by assumption) rfl ?_|fail)|refine bM a7 ?_|fail))
   refine cF a7 [(p, .box [.sc (.slice (some ⟨b, 0, none⟩) n n), .vec k 1 (aV l1)] 123), (b, .box (dZ (l1 ++ [z]) n) 4)] rfl rfl rfl rfl (List.perm_append_comm (l₁ := [(p, AB.box [.sc (.slice (some ⟨b, 0, none⟩) n n), .vec k 1 (aV l1)] 123), (b, AB.box (dZ (l1 ++ [z]) n) 4)])) (by rw [aM]; simp; omega) (by rw [aM]; simp; omega) rfl fun k' => ?_
   refine bh (bc List.perm_append_comm) ?_
   (repeat' (first|refine a6 ?_|refine a8 ?_|refine aJ ?_|refine aa ?_|refine ae a7 rfl rfl ?_|(apply aX; refine aW ?_)|(apply aT; first|refine aj a7 0 rfl rfl rfl rfl rfl rfl rfl ?_|refine aj a7 1 rfl rfl rfl rfl rfl rfl rfl ?_|refine aj a7 2 rfl rfl rfl rfl rfl rfl rfl ?_|refine aj a7 3 rfl rfl rfl rfl rfl rfl rfl ?_|fail)|fail))
   rw [show aV l1 ++ [[aQ z]] = aV (l1 ++ [z]) from cE l1 [z], ← had']
   refine aE (i + 1, k') rfl ⟨by rw [Int.natCast_add]; rfl, trivial⟩ (by dsimp only; omega) (by dsimp only; omega) (fun _ _ h => h)
  ·have had' : bR n l (ns.take (i + 1)) = l1 := by rw [had]; unfold addOne; rw [if_neg hC]
   (repeat' (first|refine a6 ?_|refine ak ?_|refine a8 ?_|refine aJ ?_|refine aa ?_|refine ae a7 rfl rfl ?_|(apply aX; refine aW ?_)|fail))
   refine aE (i + 1, k) rfl ⟨by rw [Int.natCast_add]; rfl, trivial⟩ (by dsimp only; omega) (by dsimp only; omega) (fun _ _ h => by dsimp only; rw [had']; exact h)
 ·have hil : i = ns.length := by have := of_decide_eq_false h; simp [aM] at this; omega
  subst hil
  rw [List.take_length]
  (repeat' (first|refine aR ?_|refine az ?_|refine aC ?_|refine aA ?_|fail))
  exact cB rfl ⟨k, rfl⟩
end Go.Proofs.YtpbinloeemebkaaGreat
