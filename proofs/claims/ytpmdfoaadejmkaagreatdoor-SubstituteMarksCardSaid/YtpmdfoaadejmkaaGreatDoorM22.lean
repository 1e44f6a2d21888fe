/-
  The program: a heap of numbers.
-/
import Derived.Test.YtpmdfoaadejmkaaGreatDoorM21
import Derived.Test.YtpmdfoaadejmkaaGreatDoorM11
import Derived.Test.YtpmdfoaadejmkaaGreatDoorM14
import Derived.Test.YtpmdfoaadejmkaaGreatDoorM06
namespace Go.Proofs.YtpmdfoaadejmkaaGreatDoor
open Go.RowKit
attribute [local irreducible] AT bh AX AO Av Kt b6 di DA cC
theorem Ey {P : Program} {f : FuncId} {fn : Func} {c : Code} (hf : P.funcs[f]? = some fn) (hn : (fn.name == "runtime.NumGoroutine") = false := by kernel_rfl) (hb : fn.body = some c := by rfl) : bj P f := ⟨ae hf hn hb⟩
instance : bj Tryz.prog 338 := Ey Tryz.func338
instance : bj Tryz.prog 339 := Ey Tryz.func339
instance : bj Tryz.prog 340 := Ey Tryz.func340
instance : bj Tryz.prog 341 := Ey Tryz.func341
instance : bj Tryz.prog 342 := Ey Tryz.func342
theorem wR : jJ Tryz.prog 344 "Len" 338 false 339 := fH (by kernel_rfl)
theorem mY : jJ Tryz.prog 344 "Less" 339 false 339 := fH (by kernel_rfl)
theorem mZ : jJ Tryz.prog 344 "Swap" 340 false 339 := fH (by kernel_rfl)
theorem BY : jJ Tryz.prog 344 "Pop" 341 true 339 := fH (by kernel_rfl)
theorem AS : jJ Tryz.prog 344 "Push" 342 true 339 := fH (by kernel_rfl)
section
variable {P : Program} {fr : bw} {d : Option Tmp} {ty t t' : TypeId} {pos : String} {af : Array Edge} {g : Option (Nat × Bool)} {x y : Operand}
theorem Al {z : Int} {n : Nat} (hz : z = (n : Int) - 1) (hx : aX fr x = some (aA z)) (hy : aX fr y = some (aA 2)) (hn : n ≤ 9223372036854775807) : Av P ⟨d, .binOp .quo t x y t', ty, pos, af, g⟩ fr (aA (((n - 1) / 2 : Nat) : Int)) := by
 have h := zM (P := P) (d := d) (ty := ty) (pos := pos) (af := af) (g := g) (t := t) (t' := t') hx hy (by omega)
 have e : IntKind.i64.wrap (z.tdiv 2) = (((n - 1) / 2 : Nat) : Int) := by
  subst hz
  have : ((n : Int) - 1).tdiv 2 = (((n - 1) / 2 : Nat) : Int) := by
   cases n with
   | zero => rfl
   | succ m =>
    rw [show (((m + 1 : Nat) : Int) - 1) = (m : Int) by omega, Int.tdiv_eq_ediv_of_nonneg (by omega)]
    simp
  rw [this, mQ (by omega)]
 rwa [e] at h
end
abbrev HI (p : Nat) : AV := .sc (.iface 344 (.pointer (some ⟨p, 0, none⟩)))
def vr (k : Option (Nat × List AV)) (n : Nat) : Value := match k with
 | none => .slice none 0 0
 | some (b, cs) => .slice (some ⟨b, 0, none⟩) n cs.length
def mU (k : Option (Nat × List AV)) : AL := match k with
 | none => []
 | some (b, cs) => [(b, .box cs 3)]
def hst (p : Nat) (k : Option (Nat × List AV)) (l : List Int) : AL := (p, .box [.sc (vr k l.length)] 339) :: mU k
def lp (k : Option (Nat × List AV)) (l : List Int) : Prop := match k with
 | none => l = []
 | some (_, cs) => cs.take l.length = l.map aA ∧ l.length ≤ cs.length ∧ 0 < cs.length
theorem lp.get {b : Nat} {cs : List AV} {l : List Int} (h : lp (some (b, cs)) l) {a : Int} (h0 : 0 ≤ a) (h1 : a < l.length) : ∃ x, l[a.toNat]? = some x ∧ cs[0 + a.toNat * 1]? = some (aA x) := by
 obtain ⟨x, hx⟩ : ∃ x, l[a.toNat]? = some x := ⟨_, Bn (by omega)⟩
 refine ⟨x, hx, ?_⟩
 have h2 := congrArg (fun q => q[a.toNat]?) h.1
 simp only [List.getElem?_take, List.getElem?_map, hx] at h2
 rw [if_pos (by omega)] at h2
 rw [Nat.zero_add, Nat.mul_one]
 exact h2
theorem sg (v : Value) (n c : Nat) (A : Option Addr) (hv : v = .slice A n c) : bn Tryz.prog 338 [.sc v] (aA n) := by
 subst hv
 refine aC Tryz.func338 rfl Tryz.ntmps338 rfl fun B => ?_
 repeat' (first|refine a9 ?_|refine a4 ?_|refine ah ?_|refine a6 ?_|refine a7 ?_|refine a8 a5 rfl rfl ?_)
 exact an rfl rfl rfl
theorem kc {b n c : Nat} {cs : List AV} {x y a e : Int} (ha : 0 ≤ a ∧ a < n) (he : 0 ≤ e ∧ e < n) (hx : cs[0 + a.toNat * 1]? = some (aA x)) (hy : cs[0 + e.toNat * 1]? = some (aA y)) : AC Tryz.prog 339 [.sc (.slice (some ⟨b, 0, none⟩) n c), aA a, aA e] [(b, .box cs 3)] fun r L => r = dx (decide (x < y)) ∧ L = [(b, .box cs 3)] := by
 refine aC Tryz.func339 rfl Tryz.ntmps339 rfl fun B => ?_
 repeat' (first|refine a9 ?_|refine a4 ?_|refine a6 ?_|refine a7 ?_|refine a8 a5 rfl rfl ?_)
 refine bk 8 [(0, .v), (1, .v), (2, .v), (3, .l), (4, .v), (5, .v), (6, .v), (7, .l)] none ?_ trivial rfl (by kernel_rfl) (by kernel_rfl) (by kernel_rfl) c9 (by kernel_rfl) rfl
 repeat' (first|refine aD ?_|refine bi a5 ?_|fail)
 refine cK a5 rfl rfl rfl ha trivial ?_
 repeat' (first|refine aD ?_|fail)
 refine bX a5 0 rfl rfl rfl hx trivial ?_
 repeat' (first|refine aD ?_|refine bi a5 ?_|fail)
 refine cK a5 rfl rfl rfl he trivial ?_
 repeat' (first|refine aD ?_|fail)
 refine bX a5 0 rfl rfl rfl hy trivial ?_
 repeat' (first|fail)
 refine bz [10, 14] rfl rfl ?_
 repeat' (first|refine ah ?_|refine a6 ?_|refine a7 ?_|refine a8 a5 rfl rfl ?_)
 exact an rfl rfl ⟨rfl, rfl⟩
theorem kw {b n c : Nat} {cs : List AV} {x y a e : Int} (ha : 0 ≤ a ∧ a < n) (he : 0 ≤ e ∧ e < n) (hx : cs[0 + a.toNat * 1]? = some (aA x)) (hy : cs[0 + e.toNat * 1]? = some (aA y)) (hn : n ≤ cs.length) : AC Tryz.prog 340 [.sc (.slice (some ⟨b, 0, none⟩) n c), aA a, aA e] [(b, .box cs 3)] fun _ L => L = [(b, .box ((cs.set a.toNat (aA y)).set e.toNat (aA x)) 3)] := by
 refine aC Tryz.func340 rfl Tryz.ntmps340 rfl fun B => ?_
 repeat' (first|fail)
 refine bk 14 [(0, .v), (1, .v), (2, .v), (3, .v), (4, .v), (5, .v), (6, .v), (7, .l), (8, .v), (9, .v), (10, .v), (11, .l), (12, .v), (13, .e)] none ?_ trivial rfl (by kernel_rfl) (by kernel_rfl) (by kernel_rfl) c9 (by kernel_rfl) rfl
 repeat' (first|refine aD ?_|refine bi a5 ?_|fail)
 refine cK a5 rfl rfl rfl he trivial ?_
 repeat' (first|refine aD ?_|fail)
 refine bX a5 0 rfl rfl rfl hy trivial ?_
 repeat' (first|refine aD ?_|refine bi a5 ?_|fail)
 refine cK a5 rfl rfl rfl ha trivial ?_
 repeat' (first|refine aD ?_|fail)
 refine bX a5 0 rfl rfl rfl hx trivial ?_
 repeat' (first|refine aD ?_|fail)
 refine cK a5 rfl rfl rfl ha trivial ?_
 repeat' (first|refine aD ?_|fail)
 refine wl a5 0 rfl rfl rfl rfl rfl rfl (by rw [Nat.ble_eq]; show _ + 1 ≤ _; omega) trivial fun _ => ?_
 repeat' (first|fail)
 refine bz [8, 9, 17] rfl rfl ?_
 repeat' (first|(apply aF; first|refine aE a5 ?_|refine aB a5 ?_)|fail)
 refine ad a5 0 rfl rfl rfl rfl rfl rfl (by rw [Nat.ble_eq]; show _ + 1 ≤ (eI _ _ _).length; rw [fL]; omega) ?_
 repeat' (first|refine a7 ?_)
 refine c8 rfl ?_
 simp only [eQ, eI, Nat.zero_add, Nat.mul_one]
theorem lp.swap {b : Nat} {cs : List AV} {l : List Int} (h : lp (some (b, cs)) l) {a e x y : Int} (ha : 0 ≤ a ∧ a < l.length) (he : 0 ≤ e ∧ e < l.length) (hx : l[a.toNat]? = some x) (hy : l[e.toNat]? = some y) : lp (some (b, (cs.set a.toNat (aA y)).set e.toNat (aA x))) ((l.set a.toNat y).set e.toNat x) ∧ ((l.set a.toNat y).set e.toNat x).Perm l := by
 obtain ⟨h1, h2, h3⟩ := h
 refine ⟨⟨?_, by simpa using h2, by simpa using h3⟩, ?_⟩
 ·simp only [List.length_set]
  rw [List.take_set, List.take_set, h1, List.map_set, List.map_set]
 ·obtain ⟨hx1, hx2⟩ := Dp hx
  obtain ⟨hy1, hy2⟩ := Dp hy
  subst hx2; subst hy2
  exact List.set_set_perm hx1 hy1
set_option maxHeartbeats 4000000 in
theorem te (p b : Nat) (cs0 : List AV) (l0 : List Int) (h : lp (some (b, cs0)) l0) (i0 n : Nat) (hn : n ≤ l0.length) (hl : l0.length ≤ 1000000) (hi0 : i0 ≤ 1000000) : AC Tryz.prog 289 [HI p, aA i0, aA n] (hst p (some (b, cs0)) l0) fun _ L => ∃ cs' l', L = hst p (some (b, cs')) l' ∧ lp (some (b, cs')) l' ∧ l'.Perm l0 := by
 refine aC Tryz.func289 rfl Tryz.ntmps289 rfl fun B => ?_
 repeat' (first|refine a9 ?_|refine a4 ?_|refine ak ?_|refine a6 ?_|refine a7 ?_|refine a8 a5 rfl rfl ?_)
 refine aL [0, 1, 2] (α := Nat × List AV × List Int) (fun x => [(7, aA x.1)]) (fun x => x.1 ≤ 1000000 ∧ lp (some (b, x.2.1)) x.2.2 ∧ x.2.2.Perm l0) (fun x => hst p (some (b, x.2.1)) x.2.2) (fun x => 1000001 - x.1) (i0, cs0, l0) rfl ⟨rfl, trivial⟩ ⟨hi0, h, Do _⟩ (fun _ _ h => h) ?_
 rintro ⟨i, cs, l⟩ ⟨hi, hok, hpm⟩
 dsimp only at hi hok hpm ⊢
 have hll := hpm.length_eq
 unfold hst mU vr
 dsimp only
 try dsimp only [Ds, Dr, Dq, Dn]
 repeat' (first|refine a9 ?_|refine a4 ?_|refine ak ?_|refine a6 ?_|refine a7 ?_|refine a8 a5 rfl rfl ?_|(apply aU; refine aS ?_)|fail)
 refine bH [0, 1, 2, 7, 8] (¬ (2 * (i : Int) + 1 < n)) rfl (fun Q' K => ?_) (fun hC => ?_) (fun hC => ?_)
 ·repeat' (first|refine a7 ?_|refine a8 a5 rfl rfl ?_|refine am rfl rfl ?_|refine ax rfl rfl rfl rfl ?_|refine aI rfl rfl rfl (fun _ => ?_) (fun _ => ?_))
  all_goals exact K _ _ rfl rfl (by clear K; simp_all <;> omega)
 ·repeat' (first|refine a9 ?_|refine a4 ?_|refine ah ?_|refine aM ?_|refine a6 ?_|refine au ?_|refine aw ?_|refine cZ rfl ?_|refine av ?_|refine a7 ?_|refine a8 a5 rfl rfl ?_)
  exact an rfl rfl ⟨cs, l, rfl, hok, hpm⟩
 have hC := Decidable.not_not.1 hC
 obtain ⟨x, hx, hxc⟩ := hok.get (a := i) (by omega) (by omega)
 repeat' (first|refine a9 ?_|refine a4 ?_|refine ai ?_|refine a6 ?_|refine a7 ?_|refine a8 a5 rfl rfl ?_|(apply aU; refine aS ?_)|fail)
 refine aI rfl rfl rfl (fun h2 => ?_) (fun h2 => ?_)
 ·have h2' := Dz h2
  obtain ⟨u, hu, huc⟩ := hok.get (a := 2 * (i : Int) + 1 + 1) (by omega) (by omega)
  obtain ⟨v, hv, hvc⟩ := hok.get (a := 2 * (i : Int) + 1) (by omega) (by omega)
  repeat' (first|refine a8 a5 rfl rfl ?_|refine am rfl rfl ?_)
  refine cQ 0 [(b, .box cs 3)] [(p, .box [.sc (.slice (some ⟨b, 0, none⟩) l.length cs.length)] 339)] mY (ck a5 rfl) rfl rfl rfl rfl (List.Perm.swap ..) (kc (x := u) (y := v) ⟨by omega, by omega⟩ ⟨by omega, by omega⟩ huc hvc) rfl rfl fun c L1 ⟨hc, hL⟩ => ?_
  subst hc; subst hL
  refine aR (aY (List.Perm.swap ..)) ?_
  repeat' (first|refine a6 ?_|refine a7 ?_|refine a8 a5 rfl rfl ?_)
  refine ar rfl (fun h3 => ?_) (fun h3 => ?_)
  ·clear h3
   repeat' (first|refine a9 ?_|refine a4 ?_|refine a6 ?_|refine a7 ?_|refine a8 a5 rfl rfl ?_)
   obtain ⟨y, hy, hyc⟩ := hok.get (a := (2 * (i : Int) + 1 + 1)) (by omega) (by omega)
   refine cQ 0 [(b, .box cs 3)] [(p, .box [.sc (.slice (some ⟨b, 0, none⟩) l.length cs.length)] 339)] mY (ck a5 rfl) rfl rfl rfl rfl (List.Perm.swap ..) (kc (x := y) (y := x) ⟨by omega, by omega⟩ ⟨by omega, by omega⟩ hyc hxc) rfl rfl fun c L1 ⟨hc, hL⟩ => ?_
   subst hc; subst hL
   repeat' (first|refine a6 ?_|refine a7 ?_|refine a8 a5 rfl rfl ?_)
   refine ar rfl (fun h5 => ?_) (fun h5 => ?_)
   ·repeat' (first|refine a9 ?_|refine a4 ?_|refine ah ?_|refine aM ?_|refine a6 ?_|refine au ?_|refine aw ?_|refine cZ rfl ?_|refine av ?_|refine a7 ?_|refine a8 a5 rfl rfl ?_)
    refine bB (aY (List.Perm.swap ..)) ?_
    exact an rfl rfl ⟨cs, l, rfl, hok, hpm⟩
   repeat' (first|refine a9 ?_|refine a4 ?_|refine ai ?_|refine a6 ?_|refine a8 a5 rfl rfl ?_)
   refine aR (aY (List.Perm.swap ..)) ?_
   refine cQ 0 [(b, .box cs 3)] [(p, .box [.sc (.slice (some ⟨b, 0, none⟩) l.length cs.length)] 339)] mZ (ck a5 rfl) rfl rfl rfl rfl (List.Perm.swap ..) (kw (x := x) (y := y) ⟨by omega, by omega⟩ ⟨by omega, by omega⟩ hxc hyc hok.2.1) rfl rfl fun c L1 hL => ?_
   subst hL
   repeat' (first|refine a4 ?_|refine a6 ?_|refine aH ?_|refine a7 ?_|refine a8 a5 rfl rfl ?_)
   have hs := hok.swap (a := i) (e := (2 * (i : Int) + 1 + 1)) ⟨by omega, by omega⟩ ⟨by omega, by omega⟩ hx hy
   refine az (((2 * (i : Int) + 1 + 1)).toNat, (cs.set ((i : Int)).toNat (aA y)).set ((2 * (i : Int) + 1 + 1)).toNat (aA x), (l.set ((i : Int)).toNat y).set ((2 * (i : Int) + 1 + 1)).toNat x) rfl ⟨by rw [show ((((2 * (i : Int) + 1 + 1)).toNat : Nat) : Int) = (2 * (i : Int) + 1 + 1) by omega]; rfl, trivial⟩ ⟨by dsimp only; omega, hs.1, hs.2.trans hpm⟩ (by dsimp only; omega) (fun σ w h => ?_)
   have h := h.perm (List.Perm.swap ..)
   simpa [hst, vr, mU, List.length_set] using h
  ·clear h3
   repeat' (first|refine a9 ?_|refine a4 ?_|refine ai ?_|refine a6 ?_|refine a8 a5 rfl rfl ?_)
   obtain ⟨y, hy, hyc⟩ := hok.get (a := (2 * (i : Int) + 1)) (by omega) (by omega)
   refine cQ 0 [(b, .box cs 3)] [(p, .box [.sc (.slice (some ⟨b, 0, none⟩) l.length cs.length)] 339)] mY (ck a5 rfl) rfl rfl rfl rfl (List.Perm.swap ..) (kc (x := y) (y := x) ⟨by omega, by omega⟩ ⟨by omega, by omega⟩ hyc hxc) rfl rfl fun c L1 ⟨hc, hL⟩ => ?_
   subst hc; subst hL
   repeat' (first|refine a6 ?_|refine a7 ?_|refine a8 a5 rfl rfl ?_)
   refine ar rfl (fun h5 => ?_) (fun h5 => ?_)
   ·repeat' (first|refine a9 ?_|refine a4 ?_|refine ah ?_|refine aM ?_|refine a6 ?_|refine au ?_|refine aw ?_|refine cZ rfl ?_|refine av ?_|refine a7 ?_|refine a8 a5 rfl rfl ?_)
    refine bB (aY (List.Perm.swap ..)) ?_
    exact an rfl rfl ⟨cs, l, rfl, hok, hpm⟩
   repeat' (first|refine a9 ?_|refine a4 ?_|refine ai ?_|refine a6 ?_|refine a8 a5 rfl rfl ?_)
   refine aR (aY (List.Perm.swap ..)) ?_
   refine cQ 0 [(b, .box cs 3)] [(p, .box [.sc (.slice (some ⟨b, 0, none⟩) l.length cs.length)] 339)] mZ (ck a5 rfl) rfl rfl rfl rfl (List.Perm.swap ..) (kw (x := x) (y := y) ⟨by omega, by omega⟩ ⟨by omega, by omega⟩ hxc hyc hok.2.1) rfl rfl fun c L1 hL => ?_
   subst hL
   repeat' (first|refine a4 ?_|refine a6 ?_|refine aH ?_|refine a7 ?_|refine a8 a5 rfl rfl ?_)
   have hs := hok.swap (a := i) (e := (2 * (i : Int) + 1)) ⟨by omega, by omega⟩ ⟨by omega, by omega⟩ hx hy
   refine az (((2 * (i : Int) + 1)).toNat, (cs.set ((i : Int)).toNat (aA y)).set ((2 * (i : Int) + 1)).toNat (aA x), (l.set ((i : Int)).toNat y).set ((2 * (i : Int) + 1)).toNat x) rfl ⟨by rw [show ((((2 * (i : Int) + 1)).toNat : Nat) : Int) = (2 * (i : Int) + 1) by omega]; rfl, trivial⟩ ⟨by dsimp only; omega, hs.1, hs.2.trans hpm⟩ (by dsimp only; omega) (fun σ w h => ?_)
   have h := h.perm (List.Perm.swap ..)
   simpa [hst, vr, mU, List.length_set] using h
 ·have h2' : ¬ (2 * (i : Int) + 1 + 1 < n) := Dy (by simpa using h2)
  repeat' (first|refine a9 ?_|refine a4 ?_|refine ai ?_|refine a6 ?_|refine a7 ?_|refine a8 a5 rfl rfl ?_|refine ax rfl rfl rfl rfl ?_|refine bC rfl ?_)
  obtain ⟨y, hy, hyc⟩ := hok.get (a := (2 * (i : Int) + 1)) (by omega) (by omega)
  refine cQ 0 [(b, .box cs 3)] [(p, .box [.sc (.slice (some ⟨b, 0, none⟩) l.length cs.length)] 339)] mY (ck a5 rfl) rfl rfl rfl rfl (List.Perm.swap ..) (kc (x := y) (y := x) ⟨by omega, by omega⟩ ⟨by omega, by omega⟩ hyc hxc) rfl rfl fun c L1 ⟨hc, hL⟩ => ?_
  subst hc; subst hL
  repeat' (first|refine a6 ?_|refine a7 ?_|refine a8 a5 rfl rfl ?_)
  refine ar rfl (fun h5 => ?_) (fun h5 => ?_)
  ·repeat' (first|refine a9 ?_|refine a4 ?_|refine ah ?_|refine aM ?_|refine a6 ?_|refine au ?_|refine aw ?_|refine cZ rfl ?_|refine av ?_|refine a7 ?_|refine a8 a5 rfl rfl ?_)
   refine bB (aY (List.Perm.swap ..)) ?_
   exact an rfl rfl ⟨cs, l, rfl, hok, hpm⟩
  repeat' (first|refine a9 ?_|refine a4 ?_|refine ai ?_|refine a6 ?_|refine a8 a5 rfl rfl ?_)
  refine aR (aY (List.Perm.swap ..)) ?_
  refine cQ 0 [(b, .box cs 3)] [(p, .box [.sc (.slice (some ⟨b, 0, none⟩) l.length cs.length)] 339)] mZ (ck a5 rfl) rfl rfl rfl rfl (List.Perm.swap ..) (kw (x := x) (y := y) ⟨by omega, by omega⟩ ⟨by omega, by omega⟩ hxc hyc hok.2.1) rfl rfl fun c L1 hL => ?_
  subst hL
  repeat' (first|refine a4 ?_|refine a6 ?_|refine aH ?_|refine a7 ?_|refine a8 a5 rfl rfl ?_)
  have hs := hok.swap (a := i) (e := (2 * (i : Int) + 1)) ⟨by omega, by omega⟩ ⟨by omega, by omega⟩ hx hy
  refine az (((2 * (i : Int) + 1)).toNat, (cs.set ((i : Int)).toNat (aA y)).set ((2 * (i : Int) + 1)).toNat (aA x), (l.set ((i : Int)).toNat y).set ((2 * (i : Int) + 1)).toNat x) rfl ⟨by rw [show ((((2 * (i : Int) + 1)).toNat : Nat) : Int) = (2 * (i : Int) + 1) by omega]; rfl, trivial⟩ ⟨by dsimp only; omega, hs.1, hs.2.trans hpm⟩ (by dsimp only; omega) (fun σ w h => ?_)
  have h := h.perm (List.Perm.swap ..)
  simpa [hst, vr, mU, List.length_set] using h
theorem Ch (p b : Nat) (cs0 : List AV) (l0 : List Int) (h : lp (some (b, cs0)) l0) (j0 : Nat) (hj0 : j0 < l0.length) (hl : l0.length ≤ 1000000) : AC Tryz.prog 290 [HI p, aA j0] (hst p (some (b, cs0)) l0) fun _ L => ∃ cs' l', L = hst p (some (b, cs')) l' ∧ lp (some (b, cs')) l' ∧ l'.Perm l0 := by
 refine aC Tryz.func290 rfl Tryz.ntmps290 rfl fun B => ?_
 repeat' (first|refine ak ?_)
 refine aL [0] (α := Nat × List AV × List Int) (fun x => [(1, aA x.1)]) (fun x => x.1 < l0.length ∧ lp (some (b, x.2.1)) x.2.2 ∧ x.2.2.Perm l0) (fun x => hst p (some (b, x.2.1)) x.2.2) (fun x => x.1) (j0, cs0, l0) rfl ⟨rfl, trivial⟩ ⟨hj0, h, Do _⟩ (fun _ _ h => h) ?_
 rintro ⟨j, cs, l⟩ ⟨hi, hok, hpm⟩
 dsimp only at hi hok hpm ⊢
 have hll := hpm.length_eq
 unfold hst mU vr
 dsimp only
 try dsimp only [Ds, Dr, Dq, Dn]
 repeat' (first|refine a9 ?_|refine a4 ?_|refine ak ?_|refine a8 a5 rfl rfl ?_|(apply aU; refine aS ?_)|fail)
 refine aS ?_ (Al (n := j) rfl rfl rfl (by omega))
 obtain ⟨x, hx, hxc⟩ := hok.get (a := j) (by omega) (by omega)
 obtain ⟨y, hy, hyc⟩ := hok.get (a := (((j - 1) / 2 : Nat) : Int)) (by omega) (by omega)
 repeat' (first|refine a9 ?_|refine a4 ?_|refine a6 ?_|refine a7 ?_|refine a8 a5 rfl rfl ?_)
 refine aI rfl rfl rfl (fun h2 => ?_) (fun h2 => ?_)
 ·have h2' := Dy h2
  repeat' (first|refine a8 a5 rfl rfl ?_|refine am rfl rfl ?_)
  refine cQ 0 [(b, .box cs 3)] [(p, .box [.sc (.slice (some ⟨b, 0, none⟩) l.length cs.length)] 339)] mY (ck a5 rfl) rfl rfl rfl rfl (List.Perm.swap ..) (kc (x := x) (y := y) ⟨by omega, by omega⟩ ⟨by omega, by omega⟩ hxc hyc) rfl rfl fun c L1 ⟨hc, hL⟩ => ?_
  subst hc; subst hL
  refine aR (aY (List.Perm.swap ..)) ?_
  repeat' (first|refine a6 ?_|refine a7 ?_|refine a8 a5 rfl rfl ?_|refine am rfl rfl ?_)
  refine ar rfl (fun h3 => ?_) (fun h3 => ?_)
  ·repeat' (first|refine aM ?_|refine au ?_|refine aw ?_|refine cZ rfl ?_|refine av ?_)
   exact c8 rfl ⟨cs, l, rfl, hok, hpm⟩
  repeat' (first|refine a9 ?_|refine a4 ?_|refine ai ?_|refine a6 ?_|refine a8 a5 rfl rfl ?_)
  refine cQ 0 [(b, .box cs 3)] [(p, .box [.sc (.slice (some ⟨b, 0, none⟩) l.length cs.length)] 339)] mZ (ck a5 rfl) rfl rfl rfl rfl (List.Perm.swap ..) (kw (x := y) (y := x) ⟨by omega, by omega⟩ ⟨by omega, by omega⟩ hyc hxc hok.2.1) rfl rfl fun c L1 hL => ?_
  subst hL
  repeat' (first|refine a4 ?_|refine a6 ?_|refine aH ?_|refine a7 ?_|refine a8 a5 rfl rfl ?_)
  have hs := hok.swap (a := (((j - 1) / 2 : Nat) : Int)) (e := j) ⟨by omega, by omega⟩ ⟨by omega, by omega⟩ hy hx
  refine az ((j - 1) / 2, (cs.set (((j - 1) / 2 : Nat) : Int).toNat (aA x)).set (j : Int).toNat (aA y), (l.set (((j - 1) / 2 : Nat) : Int).toNat x).set (j : Int).toNat y) rfl ⟨rfl, trivial⟩ ⟨by dsimp only; omega, hs.1, hs.2.trans hpm⟩ (by dsimp only; omega) (fun σ w h => ?_)
  have h := h.perm (List.Perm.swap ..)
  simpa [hst, vr, mU, List.length_set] using h
 ·repeat' (first|refine aM ?_|refine a6 ?_|refine au ?_|refine aw ?_|refine cZ rfl ?_|refine av ?_|refine a7 ?_|refine a8 a5 rfl rfl ?_|refine ax rfl rfl rfl rfl ?_|refine bv rfl ?_)
  exact c8 rfl ⟨cs, l, rfl, hok, hpm⟩
theorem Bd (p b : Nat) (cs : List AV) (l : List Int) (h : lp (some (b, cs)) l) (h0 : 0 < l.length) (hl : l.length ≤ 1000000) : AC Tryz.prog 341 [.sc (.pointer (some ⟨p, 0, none⟩))] (hst p (some (b, cs)) l) fun c L => ∃ z l', c = .sc (.iface 3 (.int .i64 z)) ∧ L = hst p (some (b, cs)) l' ∧ lp (some (b, cs)) l' ∧ l = l' ++ [z] := by
 refine aC Tryz.func341 rfl Tryz.ntmps341 rfl fun B => ?_
 unfold hst mU vr
 dsimp only
 obtain ⟨z, hz, hzc⟩ := h.get (a := (l.length : Int) - 1) (by omega) (by omega)
 have hcl := h.2.1
 have hc1 := h.2.2
 repeat' (first|refine a9 ?_|refine a4 ?_|refine a6 ?_|refine a7 ?_|refine a8 a5 rfl rfl ?_|(apply bE; first|refine aj a5 0 rfl rfl rfl rfl rfl ?_|refine aj a5 1 rfl rfl rfl rfl rfl ?_|refine aj a5 2 rfl rfl rfl rfl rfl ?_|refine aj a5 3 rfl rfl rfl rfl rfl ?_|refine ay a5 0 rfl rfl rfl rfl rfl ?_|refine ay a5 1 rfl rfl rfl rfl rfl ?_|refine ay a5 2 rfl rfl rfl rfl rfl ?_|refine aj a5 1 rfl rfl rfl (by assumption) rfl ?_|refine aj a5 0 rfl rfl rfl (by assumption) rfl ?_|fail)|(apply aU; refine aS ?_)|(apply aF; first|refine aE a5 ?_|refine aB a5 ?_)|fail)
 refine x5 a5 (l.length - 1) rfl rfl rfl (by omega) (by omega) (by omega) rfl ?_
 repeat' (first|refine a9 ?_|refine a4 ?_|refine a6 ?_|refine a7 ?_|refine a8 a5 rfl rfl ?_|(apply aP; first|refine ad a5 0 rfl rfl rfl rfl rfl rfl rfl ?_|refine ad a5 1 rfl rfl rfl rfl rfl rfl rfl ?_|refine ad a5 2 rfl rfl rfl rfl rfl rfl rfl ?_|refine ad a5 3 rfl rfl rfl rfl rfl rfl rfl ?_|fail))
 refine ki (by kernel_rfl) rfl rfl ?_
 repeat' (first|refine ah ?_|refine a6 ?_|refine a7 ?_|refine a8 a5 rfl rfl ?_)
 have hlast : l.take (l.length - 1) ++ [z] = l := by
  have h1 : l.take (l.length - 1 + 1) = l := List.take_of_length_le (by omega)
  rw [List.take_add_one, show l[l.length - 1]? = some z by rw [← hz]; congr 1; omega] at h1
  exact h1
 have hlen : (l.take (l.length - 1)).length = l.length - 1 := by rw [List.length_take]; omega
 refine an rfl rfl ⟨z, l.take (l.length - 1), rfl, ?_, ⟨?_, by rw [hlen]; omega, hc1⟩, hlast.symm⟩
 ·rw [hlen]
  rfl
 ·rw [hlen, List.map_take, ← h.1, List.take_take]
  congr 1
  omega
theorem z5 (p : Nat) (k : Option (Nat × List AV)) (l : List Int) (z : Int) (h : lp k l) (hl : l.length ≤ 1000000) : AC Tryz.prog 342 [.sc (.pointer (some ⟨p, 0, none⟩)), .sc (.iface 3 (.int .i64 z))] (hst p k l) fun _ L => ∃ b cs, L = hst p (some (b, cs)) (l ++ [z]) ∧ lp (some (b, cs)) (l ++ [z]) := by
 refine aC Tryz.func342 rfl Tryz.ntmps342 rfl fun B => ?_
 unfold hst mU vr
 cases k with
 | none =>
  have hl0 : l = [] := h
  subst hl0
  dsimp only
  repeat' (first|fail)
  refine bk 8 [(0, .v), (1, .v), (2, .v), (3, .l), (4, .v), (5, .v), (6, .v), (7, .e)] none ?_ trivial rfl (by kernel_rfl) (by kernel_rfl) (by kernel_rfl) c9 (by kernel_rfl) rfl
  repeat' (first|refine aD ?_|refine bi a5 ?_|refine bX a5 0 rfl rfl rfl rfl (by first|trivial|rfl) ?_)
  refine qu (by kernel_rfl) rfl trivial ?_
  repeat' (first|refine aD ?_|refine lF a5 ?_|fail)
  refine ul a5 rfl rfl rfl rfl rfl rfl trivial fun b' cs' h1 h2 => ?_
  repeat' (first|fail)
  refine bz [4, 11] rfl rfl ?_
  repeat' (first|refine a7 ?_|refine a8 a5 rfl rfl ?_|(apply aP; first|refine ad a5 0 rfl rfl rfl rfl rfl rfl rfl ?_|refine ad a5 1 rfl rfl rfl rfl rfl rfl rfl ?_|refine ad a5 2 rfl rfl rfl rfl rfl rfl rfl ?_|refine ad a5 3 rfl rfl rfl rfl rfl rfl rfl ?_|fail))
  exact bB (aY (List.Perm.swap ..)) (c8 rfl ⟨b', cs', rfl, h1, h2, h2⟩)
 | some q =>
  obtain ⟨b, cs⟩ := q
  dsimp only
  repeat' (first|fail)
  refine bk 8 [(0, .v), (1, .v), (2, .v), (3, .l), (4, .v), (5, .v), (6, .v), (7, .e)] none ?_ trivial rfl (by kernel_rfl) (by kernel_rfl) (by kernel_rfl) c9 (by kernel_rfl) rfl
  repeat' (first|refine aD ?_|refine bi a5 ?_|refine bX a5 0 rfl rfl rfl rfl (by first|trivial|rfl) ?_)
  refine qu (by kernel_rfl) rfl trivial ?_
  repeat' (first|refine aD ?_|refine lF a5 ?_|fail)
  refine uk a5 1 rfl rfl rfl rfl rfl rfl rfl h.2.1 (by omega) (by omega) trivial fun b' cs' h1 h2 => ?_
  repeat' (first|fail)
  refine bz [4, 11] rfl rfl ?_
  repeat' (first|refine a7 ?_|refine a8 a5 rfl rfl ?_|(apply aP; first|refine ad a5 0 rfl rfl rfl rfl rfl rfl rfl ?_|refine ad a5 1 rfl rfl rfl rfl rfl rfl rfl ?_|refine ad a5 2 rfl rfl rfl rfl rfl rfl rfl ?_|refine ad a5 3 rfl rfl rfl rfl rfl rfl rfl ?_|fail))
  refine bB (aY (List.Perm.swap ..)) (c8 rfl ⟨b', cs', ?_, ?_, by simpa using h2, by omega⟩)
  ·rw [List.length_append]
   rfl
  ·rw [List.length_append, List.map_append, ← h.1]
   exact h1
theorem fF (p b : Nat) (cs : List AV) (l : List Int) : hst p (some (b, cs)) l = [(p, .box [.sc (.slice (some ⟨b, 0, none⟩) l.length cs.length)] 339), (b, .box cs 3)] := rfl
set_option maxHeartbeats 1000000 in
theorem wJ (p : Nat) (k : Option (Nat × List AV)) (l : List Int) (z : Int) (h : lp k l) (hl : l.length < 1000000) : AC Tryz.prog 267 [HI p, .sc (.iface 3 (.int .i64 z))] (hst p k l) fun _ L => ∃ b cs l', L = hst p (some (b, cs)) l' ∧ lp (some (b, cs)) l' ∧ l'.Perm (l ++ [z]) := by
 refine aC Tryz.func267 rfl Tryz.ntmps267 rfl fun B => ?_
 repeat' (first|refine a9 ?_|refine a4 ?_|refine a8 a5 rfl rfl ?_)
 refine qN (hst p k l) [] AS rfl rfl (by rw [List.append_nil]) (z5 p k l z h (by omega)) rfl rfl fun c L1 ⟨b, cs, hL, hok⟩ => ?_
 subst hL
 rw [List.append_nil, fF]
 have hll : (l ++ [z]).length = l.length + 1 := by simp
 repeat' (first|refine a4 ?_|refine a6 ?_|refine a7 ?_|refine a8 a5 rfl rfl ?_)
 refine cQ 0 [] [(p, .box [.sc (.slice (some ⟨b, 0, none⟩) (l ++ [z]).length cs.length)] 339), (b, .box cs 3)] wR (ck a5 rfl) rfl rfl rfl rfl (Do _) (sg _ (l ++ [z]).length _ _ rfl) rfl rfl fun c L1 hc => ?_
 have hc : c = aA (l ++ [z]).length := hc
 subst hc
 refine aR (cf (List.sublist_append_right ..)) ?_
 rw [hll]
 repeat' (first|(apply aU; refine aS ?_)|fail)
 have hup := Ch p b cs (l ++ [z]) hok l.length (by rw [hll]; omega) (by rw [hll]; omega)
 rw [fF, hll] at hup
 rw [show (((l.length + 1 : Nat) : Int) - 1) = (l.length : Int) by omega]
 refine aO _ [] hup rfl rfl (by rw [List.append_nil]) rfl fun c L1 ⟨cs', l', hL, hok', hpm⟩ => ?_
 subst hL
 rw [List.append_nil]
 repeat' (first|refine a7 ?_)
 exact c8 rfl ⟨b, cs', l', rfl, hok', hpm⟩
set_option maxHeartbeats 1000000 in
theorem yS (p b : Nat) (cs : List AV) (l : List Int) (h : lp (some (b, cs)) l) (h0 : 0 < l.length) (hl : l.length ≤ 1000000) : AC Tryz.prog 266 [HI p] (hst p (some (b, cs)) l) fun c L => ∃ z cs' l', c = .sc (.iface 3 (.int .i64 z)) ∧ L = hst p (some (b, cs')) l' ∧ lp (some (b, cs')) l' ∧ (l' ++ [z]).Perm l := by
 refine aC Tryz.func266 rfl Tryz.ntmps266 rfl fun B => ?_
 rw [fF]
 repeat' (first|refine a9 ?_|refine a4 ?_|refine a6 ?_|refine a7 ?_|refine a8 a5 rfl rfl ?_)
 refine cQ 0 [] [(p, .box [.sc (.slice (some ⟨b, 0, none⟩) l.length cs.length)] 339), (b, .box cs 3)] wR (ck a5 rfl) rfl rfl rfl rfl (Do _) (sg _ l.length _ _ rfl) rfl rfl fun c L1 hc => ?_
 have hc : c = aA l.length := hc
 subst hc
 refine aR (cf (List.sublist_append_right ..)) ?_
 repeat' (first|refine a9 ?_|refine a4 ?_|refine a6 ?_|refine a7 ?_|refine a8 a5 rfl rfl ?_|(apply aU; refine aS ?_)|fail)
 obtain ⟨x, hx, hxc⟩ := h.get (a := 0) (by omega) (by omega)
 obtain ⟨y, hy, hyc⟩ := h.get (a := (l.length : Int) - 1) (by omega) (by omega)
 refine cQ 0 [(b, .box cs 3)] [(p, .box [.sc (.slice (some ⟨b, 0, none⟩) l.length cs.length)] 339)] mZ (ck a5 rfl) rfl rfl rfl rfl (List.Perm.swap ..) (kw (x := x) (y := y) ⟨by omega, by omega⟩ ⟨by omega, by omega⟩ hxc hyc h.2.1) rfl rfl fun c L1 hL => ?_
 subst hL
 have hs := h.swap (a := 0) (e := (l.length : Int) - 1) ⟨by omega, by omega⟩ ⟨by omega, by omega⟩ hx hy
 have hsl := hs.2.length_eq
 refine aR (aY (List.Perm.swap ..)) ?_
 repeat' (first|refine a9 ?_|refine a4 ?_|refine a6 ?_|refine a7 ?_|refine a8 a5 rfl rfl ?_)
 have hdn := te p b _ _ hs.1 0 (l.length - 1) (by rw [hsl]; omega) (by rw [hsl]; omega) (by omega)
 rw [fF, hsl, show (((l.length - 1 : Nat)) : Int) = (l.length : Int) - 1 by omega] at hdn
 rw [show cs.length = ((cs.set (0 : Int).toNat (aA y)).set ((l.length : Int) - 1).toNat (aA x)).length by simp]
 refine aO _ [] hdn rfl rfl (by rw [List.append_nil]) rfl fun c L1 ⟨cs', l', hL, hok', hpm⟩ => ?_
 subst hL
 rw [List.append_nil]
 repeat' (first|refine a9 ?_|refine a4 ?_|refine a6 ?_|refine a7 ?_|refine a8 a5 rfl rfl ?_)
 have hl' := hpm.length_eq
 refine qN (hst p (some (b, cs')) l') [] BY rfl rfl (by rw [List.append_nil]) (Bd p b cs' l' hok' (by omega) (by omega)) rfl rfl fun c L1 ⟨z, l2, hc, hL, hok2, he⟩ => ?_
 subst hc; subst hL
 rw [List.append_nil]
 repeat' (first|refine ah ?_|refine a6 ?_|refine a7 ?_|refine a8 a5 rfl rfl ?_)
 refine an rfl rfl ⟨z, cs', l2, rfl, rfl, hok2, ?_⟩
 rw [← he]
 exact hpm.trans hs.2
theorem AN {k : Option (Nat × List AV)} {l : List Int} (h : lp k l) : ∃ A c, vr k l.length = .slice A l.length c := by
 cases k with
 | none => rw [show l = [] from h]; exact ⟨_, _, rfl⟩
 | some q => exact ⟨_, _, rfl⟩
section
variable {P : Program} {fr : bw} {d : Option Tmp} {ty t t' : TypeId} {pos : String} {af : Array Edge} {g : Option (Nat × Bool)} {x y : Operand}
theorem xZ {n : Nat} (hx : aX fr x = some (aA n)) (hy : aX fr y = some (aA 2)) (hn : n ≤ 9223372036854775807) : Av P ⟨d, .binOp .quo t x y t', ty, pos, af, g⟩ fr (aA ((n / 2 : Nat) : Int)) := by
 have h := zM (P := P) (d := d) (ty := ty) (pos := pos) (af := af) (g := g) (t := t) (t' := t') hx hy (by omega)
 have e : IntKind.i64.wrap ((n : Int).tdiv 2) = ((n / 2 : Nat) : Int) := by
  have : (n : Int).tdiv 2 = ((n / 2 : Nat) : Int) := by
   rw [Int.tdiv_eq_ediv_of_nonneg (by omega)]
   simp
  rw [this, mQ (by omega)]
 rwa [e] at h
end
set_option maxHeartbeats 1000000 in
theorem wI (p : Nat) (k : Option (Nat × List AV)) (l : List Int) (h : lp k l) (hl : l.length ≤ 1000000) : AC Tryz.prog 265 [HI p] (hst p k l) fun _ L => ∃ k' l', L = hst p k' l' ∧ lp k' l' ∧ l'.Perm l := by
 refine aC Tryz.func265 rfl Tryz.ntmps265 rfl fun B => ?_
 obtain ⟨A, cc, hA⟩ := AN h
 repeat' (first|refine a9 ?_|refine a4 ?_|refine a8 a5 rfl rfl ?_)
 refine cQ 0 [] (hst p k l) wR (ck a5 rfl) rfl rfl rfl rfl (Do _) (sg _ l.length cc A hA) rfl rfl fun c L1 hc => ?_
 have hc : c = aA l.length := hc
 subst hc
 refine aR (cf (List.sublist_append_right ..)) ?_
 repeat' (first|refine a9 ?_|refine a4 ?_|refine a6 ?_|refine a7 ?_|refine a8 a5 rfl rfl ?_)
 refine aS ?_ (xZ (n := l.length) rfl rfl (by omega))
 repeat' (first|refine ak ?_|refine a6 ?_|refine a7 ?_|refine a8 a5 rfl rfl ?_|(apply aU; refine aS ?_)|fail)
 refine aL [0, 2] (α := Nat × Option (Nat × List AV) × List Int) (fun x => [(3, aA ((x.1 : Int) - 1))]) (fun x => x.1 ≤ l.length / 2 ∧ lp x.2.1 x.2.2 ∧ x.2.2.Perm l) (fun x => hst p x.2.1 x.2.2) (fun x => x.1) (l.length / 2, k, l) rfl ⟨rfl, trivial⟩ ⟨Nat.le_refl _, h, Do _⟩ (fun _ _ h => h) ?_
 rintro ⟨m, k, l'⟩ ⟨hm, hok, hpm⟩
 dsimp only at hm hok hpm ⊢
 have hll := hpm.length_eq
 try dsimp only [Ds, Dr, Dq, Dn]
 repeat' (first|refine a9 ?_|refine a4 ?_|refine a6 ?_|refine a7 ?_|refine a8 a5 rfl rfl ?_)
 refine ar rfl (fun h2 => ?_) (fun h2 => ?_)
 ·have h2' := Dz h2
  cases k with
  | none => rw [show l' = [] from hok] at hll; simp at hll; omega
  | some q =>
   obtain ⟨b, cs⟩ := q
   repeat' (first|refine a9 ?_|refine a4 ?_|refine ak ?_|refine ai ?_|refine a6 ?_|refine a8 a5 rfl rfl ?_)
   have hdn := te p b cs l' hok (m - 1) l.length (by omega) (by omega) (by omega)
   rw [show (((m - 1 : Nat)) : Int) = (m : Int) - 1 by omega] at hdn
   refine aO _ [] hdn rfl rfl (by rw [List.append_nil]) rfl fun c L1 ⟨cs', l2, hL, hok', hpm'⟩ => ?_
   subst hL
   rw [List.append_nil]
   repeat' (first|refine a4 ?_|refine a6 ?_|refine aH ?_|refine a7 ?_|refine a8 a5 rfl rfl ?_|(apply aU; refine aS ?_)|fail)
   exact az (m - 1, some (b, cs'), l2) rfl ⟨by rw [show (((m - 1 : Nat)) : Int) = (m : Int) - 1 by omega]; rfl, trivial⟩ ⟨by dsimp only; omega, hok', hpm'.trans hpm⟩ (by dsimp only; omega) (fun _ _ h => h)
 ·repeat' (first|refine aM ?_|refine au ?_|refine aw ?_|refine av ?_)
  exact c8 rfl ⟨k, l', rfl, hok, hpm⟩
end Go.Proofs.YtpmdfoaadejmkaaGreatDoor
namespace Go.Proofs.YtpmdfoaadejmkaaGreatDoor
open Go.RowKit
attribute [local irreducible] AT bh AX AO Av Kt b6 di DA cC
def Cw (fs : List ByteArray) (l : List bQ) : List Int := (l.map fun t => if BV fs t.Name then t.Lookups else []).flatten
def CallsIn (f : aN) (l : List Int) (cs : List ic) : Prop := ∀ c ∈ cs, zP f c.Lookup = true → c.Lookup ∈ l
def xU (f : aN) (l : List Int) (rs : List aV) : Prop := ∀ r ∈ rs, CallsIn f l r.Calls
structure CR (f : aN) (fs : List ByteArray) (l : List Int) (i : Nat) : Prop where
 reach : ∀ z ∈ l, pW f fs z
 nodup : l.Nodup
 base : ∀ z ∈ Cw fs f.Features, 0 ≤ z → z < f.Lookups.length → z ∈ l
 done : ∀ j < i, ∀ z, l[j]? = some z → ∀ x, f.Lookups[z.toNat]? = some x → x.Kind = 4 → xU f l x.Rules
def CY (l : List Int) (n : Nat) : List AV := (List.range n).map fun (i : Nat) => dx (l.contains (i : Int))
def Ay (n : Nat) (l : List Int) (z : Int) : List Int := if 0 ≤ z ∧ z < n ∧ z ∉ l then l ++ [z] else l
def D6 (n : Nat) (l ns : List Int) : List Int := ns.foldl (Ay n) l
structure CU (n : Nat) (l : List Int) : Prop where
 nodup : l.Nodup
 dom : ∀ z ∈ l, 0 ≤ z ∧ z < n
abbrev Dl (p : Nat) : AV := .sc (.pointer (some ⟨p, 0, none⟩))
end Go.Proofs.YtpmdfoaadejmkaaGreatDoor
namespace Go.Proofs.YtpmdfoaadejmkaaGreatDoor
def bU (n : Nat) : List Int := (List.range n).map fun (i : Nat) => (i : Int)
theorem dH {n : Nat} {z : Int} : z ∈ bU n ↔ 0 ≤ z ∧ z < n := by
 simp only [bU, List.mem_map, List.mem_range]
 constructor
 ·rintro ⟨i, hi, rfl⟩; omega
 ·rintro ⟨h0, h1⟩; exact ⟨z.toNat, by omega, by omega⟩
theorem gY (n : Nat) : (bU n).Nodup := by
 unfold bU List.Nodup
 rw [List.pairwise_map]
 exact List.nodup_range.imp fun h e => h (by omega)
theorem dq (n : Nat) : (bU n).length = n := by simp [bU]
theorem gz {n i : Nat} (h : i < n) : (bU n)[i]? = some (i : Int) := by simp [bU, h]
theorem oO (n : Nat) : bU (n + 1) = bU n ++ [(n : Int)] := by
 unfold bU
 rw [List.range_succ, List.map_append]
 rfl
def bP (pr : Int → List Int) (gs : List Int) (z : Int) : List Int := gs.flatMap fun g => ((pr g).filter fun p => decide (p = z)).map fun _ => g
theorem jl (pr : Int → List Int) (z g : Int) : ∀ gs : List Int, gs.Nodup → (bP pr gs z).count g = if g ∈ gs then (pr g).count z else 0
 | [], _ => by simp [bP]
 | y :: gs, h => by
  have h' := List.nodup_cons.1 h
  have ih := jl pr z g gs h'.2
  unfold bP at ih ⊢
  rw [List.flatMap_cons, List.count_append, ih]
  by_cases e : y = g
  ·subst e
   rw [if_pos (List.mem_cons_self ..), if_neg h'.1, List.map_const', List.count_replicate_self, Nat.add_zero, List.count_eq_countP, List.countP_eq_length_filter]
   rfl
  ·rw [List.map_const', List.count_replicate, if_neg (by simpa using e), Nat.zero_add]
   by_cases hm : g ∈ gs
   ·rw [if_pos hm, if_pos (Dt _ hm)]
   ·rw [if_neg hm, if_neg (by simp [hm]; exact fun h => e h.symm)]
def jh (pr : Int → List Int) (T : List Int) (g : Int) : Nat := ((pr g).filter fun p => decide (p ∉ T)).length
theorem n5 (pr : Int → List Int) {T : List Int} {x : Int} (hx : x ∉ T) (g : Int) : jh pr (T ++ [x]) g + (pr g).count x = jh pr T g := by
 unfold jh
 induction pr g with
 | nil => rfl
 | cons p l ih =>
  rw [List.filter_cons, List.filter_cons, List.count_cons]
  by_cases e : p = x
  ·subst e
   rw [if_neg (by simp), if_pos (decide_eq_true hx)]
   rw [if_pos (by simp), List.length_cons]
   omega
  ·have e1 : decide (p ∉ T ++ [x]) = decide (p ∉ T) := by simp [e]
   rw [e1]
   have e2 : (p == x) = false := by simpa using e
   rw [e2]
   simp only [Bool.false_eq_true, if_false]
   split
   ·simp only [List.length_cons]; omega
   ·omega
theorem n6 {pr : Int → List Int} {T : List Int} {g : Int} : jh pr T g = 0 ↔ ∀ p ∈ pr g, p ∈ T := by
 unfold jh
 rw [List.length_eq_zero_iff, List.filter_eq_nil_iff]
 simp
def tY (pr : Int → List Int) (T : List Int) : Prop := ∀ (i : Nat) (x : Int), T[i]? = some x → ∀ p ∈ pr x, p ∈ T.take i
theorem tY.snoc {pr : Int → List Int} {T : List Int} {x : Int} (h : tY pr T) (hx : ∀ p ∈ pr x, p ∈ T) : tY pr (T ++ [x]) := by
 intro i y hy p hp
 by_cases hi : i < T.length
 ·rw [List.getElem?_append_left hi] at hy
  rw [List.take_append_of_le_length (by omega)]
  exact h i y hy p hp
 ·rw [List.getElem?_append_right (by omega)] at hy
  have hil : i - T.length = 0 := by
   rcases Nat.eq_zero_or_pos (i - T.length) with h0 | h0
   ·exact h0
   ·rw [List.getElem?_eq_none (by simp; omega)] at hy; cases hy
  rw [hil] at hy
  simp at hy
  subst hy
  rw [show i = T.length by omega, List.take_left]
  exact hx p hp
structure kJ (n : Nat) (pr : Int → List Int) (T R : List Int) (M : Int → Int) : Prop where
 nodup : (T ++ R).Nodup
 dom : ∀ z ∈ T ++ R, 0 ≤ z ∧ z < n
 miss : ∀ g : Int, 0 ≤ g → g < n → M g = jh pr T g
 ready : ∀ g : Int, 0 ≤ g → g < n → (g ∈ T ++ R ↔ M g = 0)
 topo : tY pr T
structure nF (n : Nat) (pr : Int → List Int) (T : List Int) (x : Int) (us : List Int) (R : List Int) (M : Int → Int) : Prop where
 nodup : (T ++ [x] ++ R).Nodup
 dom : ∀ z ∈ T ++ [x] ++ R, 0 ≤ z ∧ z < n
 miss : ∀ g : Int, 0 ≤ g → g < n → M g + us.count g = jh pr T g
 ready : ∀ g : Int, 0 ≤ g → g < n → (g ∈ T ++ [x] ++ R ↔ M g = 0)
 topo : tY pr (T ++ [x])
theorem kJ.perm {n : Nat} {pr : Int → List Int} {T R R' : List Int} {M : Int → Int} (h : kJ n pr T R M) (hp : R'.Perm R) : kJ n pr T R' M := by
 have hp' : (T ++ R').Perm (T ++ R) := List.Perm.append_left T hp
 exact ⟨hp'.nodup_iff.2 h.nodup, fun z hz => h.dom z (hp'.mem_iff.1 hz), h.miss, fun g h0 h1 => by rw [hp'.mem_iff]; exact h.ready g h0 h1, h.topo⟩
theorem nF.perm {n : Nat} {pr : Int → List Int} {T R R' us : List Int} {x : Int} {M : Int → Int} (h : nF n pr T x us R M) (hp : R'.Perm R) : nF n pr T x us R' M := by
 have hp' : (T ++ [x] ++ R').Perm (T ++ [x] ++ R) := List.Perm.append_left _ hp
 exact ⟨hp'.nodup_iff.2 h.nodup, fun z hz => h.dom z (hp'.mem_iff.1 hz), h.miss, fun g h0 h1 => by rw [hp'.mem_iff]; exact h.ready g h0 h1, h.topo⟩
theorem kJ.pop {n : Nat} {pr : Int → List Int} {T R : List Int} {x : Int} {M : Int → Int} (h : kJ n pr T (R ++ [x]) M) : nF n pr T x [] R M := by
 have hp : (T ++ [x] ++ R).Perm (T ++ (R ++ [x])) := by
  rw [List.append_assoc]
  exact List.Perm.append_left T List.perm_append_comm
 have hx := h.dom x (by simp)
 refine ⟨hp.nodup_iff.2 h.nodup, fun z hz => h.dom z (hp.mem_iff.1 hz), fun g h0 h1 => by simpa using h.miss g h0 h1, fun g h0 h1 => by rw [hp.mem_iff]; exact h.ready g h0 h1, h.topo.snoc ?_⟩
 have h1 := (h.ready x hx.1 hx.2).1 (by simp)
 rw [h.miss x hx.1 hx.2] at h1
 exact n6.1 (by omega)
theorem hY {all : List Int} {j : Nat} {u : Int} (h : all[j]? = some u) (g : Int) : (all.take (j + 1)).count g = (all.take j).count g + if u = g then 1 else 0 := by
 rw [List.take_add_one, h, Option.toList_some, List.count_append]
 by_cases e : u = g
 ·subst e; simp
 ·rw [if_neg e, List.count_singleton, if_neg (by simpa using e)]
theorem nF.step {n : Nat} {pr : Int → List Int} {T R all : List Int} {x u : Int} {j : Nat} {M : Int → Int} (hall : ∀ g : Int, 0 ≤ g → g < n → all.count g = (pr g).count x) (hx : x ∉ T) (h : nF n pr T x (all.take j) R M) (hu : all[j]? = some u) (h0 : 0 ≤ u) (h1 : u < n) :
  0 < M u ∧ nF n pr T x (all.take (j + 1)) (if M u - 1 = 0 then R ++ [u] else R) (fun g => if g = u then M u - 1 else M g) := by
 have hm := h.miss u h0 h1
 have hlt : (all.take (j + 1)).count u ≤ all.count u := (List.take_sublist _ _).count_le u
 have hsn := n5 pr hx u
 rw [hY hu, if_pos rfl, hall u h0 h1] at hlt
 have hpos : 0 < M u := by omega
 have hnot : u ∉ T ++ [x] ++ R := fun hm' => by have := (h.ready u h0 h1).1 hm'; omega
 refine ⟨hpos, ?_⟩
 have hmiss : ∀ g : Int, 0 ≤ g → g < n → (if g = u then M u - 1 else M g) + ((all.take (j + 1)).count g : Int) = jh pr T g := by
  intro g g0 g1
  rw [hY hu]
  by_cases e : g = u
  ·subst e
   rw [if_pos rfl, if_pos rfl]
   have := h.miss g g0 g1
   omega
  ·rw [if_neg e, if_neg (fun q => e q.symm)]
   have := h.miss g g0 g1
   omega
 by_cases hz : M u - 1 = 0
 ·rw [if_pos hz]
  refine ⟨?_, fun z hz' => ?_, hmiss, fun g g0 g1 => ?_, h.topo⟩
  ·rw [← List.append_assoc, List.nodup_append]
   refine ⟨h.nodup, by simp, fun a ha b hb => ?_⟩
   rw [List.mem_singleton.1 hb]
   exact fun e => hnot (e ▸ ha)
  ·rw [← List.append_assoc] at hz'
   rcases List.mem_append.1 hz' with hz' | hz'
   ·exact h.dom z hz'
   ·rw [List.mem_singleton.1 hz']; exact ⟨h0, h1⟩
  ·rw [← List.append_assoc, List.mem_append, List.mem_singleton]
   by_cases e : g = u
   ·subst e; simp [hz]
   ·rw [if_neg e, h.ready g g0 g1]
    simp [e]
 ·rw [if_neg hz]
  refine ⟨h.nodup, h.dom, hmiss, fun g g0 g1 => ?_, h.topo⟩
  by_cases e : g = u
  ·subst e
   rw [if_pos rfl]
   exact ⟨fun q => absurd q hnot, fun q => absurd q hz⟩
  ·rw [if_neg e]
   exact h.ready g g0 g1
theorem nF.done {n : Nat} {pr : Int → List Int} {T R all : List Int} {x : Int} {M : Int → Int} (hall : ∀ g : Int, 0 ≤ g → g < n → all.count g = (pr g).count x) (hx : x ∉ T) (h : nF n pr T x all R M) : kJ n pr (T ++ [x]) R M := by
 refine ⟨h.nodup, h.dom, fun g h0 h1 => ?_, h.ready, h.topo⟩
 have h2 := h.miss g h0 h1
 have h3 := n5 pr hx g
 rw [hall g h0 h1] at h2
 omega
structure fT (n : Nat) (pr : Int → List Int) (T : List Int) : Prop where
 nodup : T.Nodup
 dom : ∀ z ∈ T, 0 ≤ z ∧ z < n
 topo : tY pr T
 full : ∀ g : Int, 0 ≤ g → g < n → (∀ p ∈ pr g, p ∈ T) → g ∈ T
theorem kJ.fin {n : Nat} {pr : Int → List Int} {T : List Int} {M : Int → Int} (h : kJ n pr T [] M) : fT n pr T := by
 have h1 := h.nodup
 have h2 := h.dom
 have h3 := h.ready
 rw [List.append_nil] at h1 h2 h3
 exact ⟨h1, h2, h.topo, fun g h0 h4 hp => (h3 g h0 h4).2 (by rw [h.miss g h0 h4, n6.2 hp]; rfl)⟩
theorem kJ.start {n : Nat} {pr : Int → List Int} {M : Int → Int} (hM : ∀ g : Int, 0 ≤ g → g < n → M g = (pr g).length) : kJ n pr [] ((bU n).filter fun g => decide (M g = 0)) M := by
 refine ⟨by rw [Dr]; exact (gY n).filter _, fun z hz => ?_, fun g h0 h1 => ?_, fun g h0 h1 => ?_, fun i x h => by simp at h⟩
 ·rw [Dr, List.mem_filter, dH] at hz
  exact hz.1
 ·rw [hM g h0 h1]
  unfold jh
  rw [List.filter_eq_self.2 (by simp)]
 ·rw [Dr, List.mem_filter, dH, decide_eq_true_eq]
  exact ⟨fun h => h.2, fun h => ⟨⟨h0, h1⟩, h⟩⟩
def jc (n : Nat) (pr : Int → List Int) : Prop := ∃ r : Int → Nat, ∀ g : Int, 0 ≤ g → g < n → ∀ p ∈ pr g, r p < r g
theorem fT.all {n : Nat} {pr : Int → List Int} {T : List Int} (h : fT n pr T) (ha : jc n pr) (hp : ∀ g, ∀ p ∈ pr g, 0 ≤ p ∧ p < n) : ∀ g : Int, 0 ≤ g → g < n → g ∈ T := by
 obtain ⟨r, hr⟩ := ha
 have : ∀ (k : Nat) (g : Int), r g < k → 0 ≤ g → g < n → g ∈ T := by
  intro k
  induction k with
  | zero => intro g hk; exact absurd hk (Nat.not_lt_zero _)
  | succ k ih =>
   intro g hk h0 h1
   refine h.full g h0 h1 fun p hpp => ih p ?_ (hp g p hpp).1 (hp g p hpp).2
   have := hr g h0 h1 p hpp
   omega
 intro g h0 h1
 exact this (r g + 1) g (by omega) h0 h1
theorem fT.len {n : Nat} {pr : Int → List Int} {T : List Int} (h : fT n pr T) : T.length ≤ n := dR h.nodup h.dom
theorem kl : ∀ (l T : List Int), l.Nodup → (∀ x ∈ l, x ∈ T) → l.length ≤ T.length
 | [], _, _, _ => Nat.zero_le _
 | x :: l, T, h, hs => by
  have h' := List.nodup_cons.1 h
  have hx := hs x (List.mem_cons_self ..)
  have := kl l (T.erase x) h'.2 fun y hy => (List.mem_erase_of_ne (fun e => h'.1 (by rw [← e]; exact hy))).2 (hs y (Dt _ hy))
  rw [List.length_erase_of_mem hx] at this
  have hpos := List.length_pos_of_mem hx
  rw [List.length_cons]
  omega
theorem fT.len_all {n : Nat} {pr : Int → List Int} {T : List Int} (h : fT n pr T) (ha : ∀ g : Int, 0 ≤ g → g < n → g ∈ T) : T.length = n := by
 refine Nat.le_antisymm h.len ?_
 have := kl (bU n) T (gY n) fun z hz => by
  rw [dH] at hz
  exact ha z hz.1 hz.2
 rwa [dq] at this
theorem fT.all_of_len {n : Nat} {pr : Int → List Int} {T : List Int} (h : fT n pr T) (hl : T.length = n) : ∀ g : Int, 0 ≤ g → g < n → g ∈ T := by
 intro g h0 h1
 apply Classical.byContradiction
 intro hn
 have := dR (l := g :: T) (n := n) (List.nodup_cons.2 ⟨hn, h.nodup⟩) fun z hz => by
  rcases List.mem_cons.1 hz with rfl | hz
  ·exact ⟨h0, h1⟩
  ·exact h.dom z hz
 rw [List.length_cons] at this
 omega
theorem fT.acyc {n : Nat} {pr : Int → List Int} {T : List Int} (h : fT n pr T) (ha : ∀ g : Int, 0 ≤ g → g < n → g ∈ T) : jc n pr := by
 refine ⟨fun g => T.idxOf g, fun g h0 h1 p hp => ?_⟩
 have hg := ha g h0 h1
 have hi := List.idxOf_lt_length_iff.2 hg
 have h2 := h.topo (T.idxOf g) g (by rw [Bn hi, List.getElem_idxOf]) p hp
 obtain ⟨j, hj⟩ := List.mem_iff_getElem?.1 h2
 rw [List.getElem?_take] at hj
 split at hj
 ·rename_i hlt
  dsimp only
  obtain ⟨hjl, hje⟩ := Dp hj
  have : T.idxOf p ≤ j := by
   rw [← hje]
   have := h.nodup.idxOf_getElem j hjl
   omega
  omega
 ·cases hj
end Go.Proofs.YtpmdfoaadejmkaaGreatDoor
namespace Go.Proofs.YtpmdfoaadejmkaaGreatDoor
open Go.RowKit
attribute [local irreducible] AT bh AX AO Av Kt b6 di DA cC
theorem vj (f : aN) (n : Int) : bn Tryz.prog 288 [cz f, aA n] (dx (jd f n)) := by
 refine aC Tryz.func288 rfl Tryz.ntmps288 rfl fun B => ?_
 repeat' (first|refine a9 ?_|refine a4 ?_|refine a6 ?_|refine a7 ?_|refine a8 a5 rfl rfl ?_|refine aZ ?_|fail)
 refine cA (t := 4) [] (jd f n = true) rfl (fun Q' K => ?_) ?_
 ·repeat' (first|refine a7 ?_|refine a8 a5 rfl rfl ?_|refine am rfl rfl ?_|refine ax rfl rfl rfl rfl ?_|refine aI rfl rfl rfl (fun _ => ?_) (fun _ => ?_))
  all_goals exact K _ _ rfl rfl (by unfold jd; simp_all <;> omega)
 repeat' (first|refine ah ?_|refine a6 ?_)
 refine an rfl rfl ?_
 simp
instance (f : aN) (n : Int) : AD Tryz.prog 288 [cz f, aA n] (dx (jd f n)) := ⟨vj f n⟩
theorem uU (f : aN) (g : Int) : bn Tryz.prog 264 [cz f, aA g] (.fn 287 [.iptr (bV f), .iptr [aA g]]) := by
 refine aC Tryz.func264 rfl Tryz.ntmps264 rfl fun B => ?_
 repeat' (first|refine a9 ?_|refine a4 ?_|refine ah ?_|refine a6 ?_|refine a7 ?_|refine a8 a5 rfl rfl ?_|refine aZ ?_|fail)
 exact an rfl rfl rfl
instance (f : aN) (g : Int) : AD Tryz.prog 264 [cz f, aA g] (.fn 287 [.iptr (bV f), .iptr [aA g]]) := ⟨uU f g⟩
set_option maxHeartbeats 1000000 in
theorem z4 {α : Type} {σ0 : bK} {l : Nat} (f : aN) (g : Nat) (gl : bb) (hg : f.Glyphs[g]? = some gl) (E : α → AL) (J : Nat → α → Prop)
  (hy : ∀ i x p, J i x → gl.Parts[i]? = some p → jd f p.Glyph = true → AY Tryz.prog σ0 l [.agg (eZ p)] (E x) fun c L => c = dx true ∧ ∃ x', J (i + 1) x' ∧ L = E x')
  (hs : ∀ i x p, J i x → gl.Parts[i]? = some p → jd f p.Glyph = false → J (i + 1) x) (x0 : α) (h0 : J 0 x0) (hlen : gl.Parts.length ≤ 1000000) :
  zW Tryz.prog σ0 287 [.sc (.func (.yield l) #[] #[]), .iptr (bV f), .iptr [aA g]] (E x0) fun _ L => ∃ x, J gl.Parts.length x ∧ L = E x := by
 refine vI Tryz.func287 rfl Tryz.ntmps287 rfl fun B hB => ?_
 have hgg := bW (c := c7) hg
 repeat' (first|refine a9 ?_|refine a4 ?_|refine ak ?_|refine a6 ?_|refine a7 ?_|refine a8 a5 rfl rfl ?_|(apply aF; first|refine aE a5 ?_|refine aB a5 ?_)|fail)
 refine aL [0, 1, 11, 12] (α := Nat × α) (fun y => [(13, aA y.1)]) (fun y => y.1 ≤ gl.Parts.length ∧ J y.1 y.2) (fun y => E y.2) (fun y => gl.Parts.length - y.1) (0, x0) rfl ⟨rfl, trivial⟩ ⟨Nat.zero_le _, h0⟩ (fun _ _ h => h) ?_
 rintro ⟨i, x⟩ ⟨hi, hj⟩
 dsimp only at hi hj ⊢
 try dsimp only [Ds, Dr, Dq, Dn]
 repeat' (first|refine a9 ?_|refine a4 ?_|refine a6 ?_|refine a7 ?_|refine a8 a5 rfl rfl ?_)
 refine ar rfl (fun h => ?_) (fun h => ?_)
 ·have hil : i < gl.Parts.length := by have := Dz h; simp at this; omega
  obtain ⟨p, hp⟩ : ∃ z, gl.Parts[i]? = some z := ⟨_, Bn hil⟩
  have hpg := bW (c := eZ) hp
  repeat' (first|refine a9 ?_|refine a4 ?_|refine ak ?_|refine ai ?_|refine a6 ?_|refine a7 ?_|refine a8 a5 rfl rfl ?_|(apply aF; first|refine aE a5 ?_|refine aB a5 ?_)|(apply aP; first|refine aa 5 a5 0 rfl rfl rfl rfl rfl rfl rfl rfl ?_|refine aa 5 a5 1 rfl rfl rfl rfl rfl rfl rfl rfl ?_|refine aa 5 a5 2 rfl rfl rfl rfl rfl rfl rfl rfl ?_|refine ad a5 0 rfl rfl rfl rfl rfl rfl rfl ?_|refine ad a5 1 rfl rfl rfl rfl rfl rfl rfl ?_|refine ad a5 2 rfl rfl rfl rfl rfl rfl rfl ?_|refine ad a5 3 rfl rfl rfl rfl rfl rfl rfl ?_|fail)|refine b4 a5 fun _=>?_|(apply bc;refine b7 ?_)|fail)
  by_cases hG : jd f p.Glyph = true
  ·rw [hG]
   repeat' (first|refine a8 a5 rfl rfl ?_|refine am rfl rfl ?_)
   refine tD (E x) [] hB (hy i x p hj hp hG) rfl rfl rfl (by rw [List.append_nil]; exact Do _) rfl rfl fun c L1 ⟨hc, x', hj', hL⟩ => ?_
   subst hc; subst hL
   rw [List.append_nil]
   repeat' (first|refine a4 ?_|refine ai ?_|refine a6 ?_|refine aH ?_|refine a7 ?_|refine a8 a5 rfl rfl ?_|refine am rfl rfl ?_|(apply aU; refine aS ?_)|refine bC rfl ?_)
   exact az (i + 1, x') rfl ⟨by rw [Dv]; rfl, trivial⟩ ⟨by dsimp only; omega, hj'⟩ (by dsimp only; omega) (fun _ _ h => h)
  ·have hG' : jd f p.Glyph = false := by simpa using hG
   rw [hG']
   repeat' (first|refine a4 ?_|refine ai ?_|refine a6 ?_|refine aH ?_|refine a7 ?_|refine a8 a5 rfl rfl ?_|refine ax rfl rfl rfl rfl ?_|(apply aU; refine aS ?_)|refine bC rfl ?_)
   exact az (i + 1, x) rfl ⟨by rw [Dv]; rfl, trivial⟩ ⟨by dsimp only; omega, hs i x p hj hp hG'⟩ (by dsimp only; omega) (fun _ _ h => h)
 ·have hil : i = gl.Parts.length := by have := Dy h; simp at this; omega
  subst hil
  repeat' (first|refine aM ?_|refine au ?_|refine aw ?_|refine av ?_)
  exact c8 rfl ⟨x, hj, rfl⟩
end Go.Proofs.YtpmdfoaadejmkaaGreatDoor
