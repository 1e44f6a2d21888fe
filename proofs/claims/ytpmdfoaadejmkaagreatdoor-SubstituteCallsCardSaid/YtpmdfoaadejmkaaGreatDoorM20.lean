/-
  An engine is made: the walk.
-/
import Derived.Test.YtpmdfoaadejmkaaGreatDoorM19
import Derived.Test.YtpmdfoaadejmkaaGreatDoorM13
import Derived.Test.YtpmdfoaadejmkaaGreatDoorM12
import Derived.Test.YtpmdfoaadejmkaaGreatDoorM18
import Derived.Test.YtpmdfoaadejmkaaGreatDoorM11
namespace Go.Proofs.YtpmdfoaadejmkaaGreatDoor
open Go.RowKit
attribute [local irreducible] AT bf AX AO Av Kt aZ df DA cA
structure zA (f : aM) : Prop where
 glyphs : 0 < f.Glyphs.length ∧ f.Glyphs.length ≤ 65536
 lookups : f.Lookups.length ≤ 1000000
 look : ∀ l ∈ f.Lookups, sO f.Glyphs.length l
 rule : ∀ l ∈ f.Lookups, ∀ r ∈ l.Rules, zw r
structure Bn (f : aM) (E : lZ) : Prop where
 ls : E.lks.map (·.l) = f.Lookups
 ms : E.ms = f.Glyphs.map b9.Mark
 auto : ∀ e ∈ E.lks, 1 ≤ e.l.Kind → e.l.Kind ≤ 6 → i4 e
def D0 : Option i3 → List AV
 | none => [de, de, de, de, de]
 | some a => Cr a
def Cf : i3 := ⟨[], [], [], [], []⟩
def C1 (l : aQ) (a : Option i3) (j : Nat) : List AV := [az l.Kind, dx l.Ignore, .imm 6 ((fZ l).Rules.map bH)] ++ D0 a ++ [az (e9 (l.Rules.take j)), az (fv (l.Rules.take j))]
def uM (l : aQ) (a : i3) (j : Nat) : List AV := [az l.Kind, dx l.Ignore, .imm 6 ((fZ l).Rules.map bH), .imm 1 (aU a.cls), .imm 1 (b7 a.fore), .imm 1 (b7 a.back), .imm 1 (eF a.foreE), .imm 1 (eF a.backE), az (e9 (l.Rules.take j)), az (fv (l.Rules.take j))]
theorem x4 (l : aQ) (a : Option i3) (j : Nat) : nR (C1 l a j) (uM l (a.getD Cf) j) := by
 cases a with
 | none => exact ⟨dG.refl _, dG.refl _, dG.refl _, dG.nil 1, dG.nil 1, dG.nil 1, dG.nil 1, dG.nil 1, dG.refl _, dG.refl _, trivial⟩
 | some a => exact ⟨dG.refl _, dG.refl _, dG.refl _, dG.refl _, dG.refl _, dG.refl _, dG.refl _, dG.refl _, dG.refl _, dG.refl _, trivial⟩
theorem x5 (l : aQ) (a : i3) : uM l a l.Rules.length = dL (yj l a) := by
 unfold uM
 rw [List.take_length]
 rfl
theorem rZ {rs : List aT} {j : Nat} {r : aT} (h : rs[j]? = some r) : e9 (rs.take (j + 1)) = max (e9 (rs.take j)) (r.In.length + r.Ahead.length) ∧ fv (rs.take (j + 1)) = max (fv (rs.take j)) r.Back.length := by
 unfold e9 fv
 rw [List.take_add_one, h]
 constructor <;> simp
theorem wq {N : Nat} {rs : List aT} (h : ∀ r ∈ rs, pS N r) (j : Nat) : e9 (rs.take j) ≤ 200 ∧ fv (rs.take j) ≤ 200 := ⟨fA (by omega) fun r hr => (h r (List.mem_of_mem_take hr)).long.2, fA (by omega) fun r hr => (h r (List.mem_of_mem_take hr)).long.1⟩
theorem u5 (l : List Bool) (b : Bool) : kM l ++ [[dx b]] = kM (l ++ [b]) := by simp [kM]
set_option maxHeartbeats 16000000 in
theorem B5 (f : aM) (h : zA f) (hck : AC Tryz.prog 25 [cx f] [] fun c _ => ∃ n : Int, c = bK (0, n)) : AC Tryz.prog 15 [cx f] [] fun c _ => ∃ E, Bn f E ∧ c = .tup [.iptr (d9 E), az 0] := by
 refine aB Tryz.func15 rfl Tryz.ntmps15 rfl fun B => ?_
 have hgl : (f.Glyphs.map c7).length = f.Glyphs.length := Du ..
 have hll : (f.Lookups.map bn).length = f.Lookups.length := Du ..
 obtain ⟨hN0, hN⟩ := h.glyphs
 have hL := h.lookups
 repeat' (first|refine a8 ?_|refine a0 ?_|refine a5 ?_|refine a6 ?_|refine a7 a4 rfl rfl ?_|refine aX ?_|fail)
 refine aN [] _ hck rfl rfl (Do _) rfl fun c1 L1 ⟨n0, hc1⟩ => ?_
 subst hc1
 refine aP (bZ (List.sublist_append_right ..)) ?_
 unfold bK
 repeat' (first|refine a8 ?_|refine a0 ?_|refine aj ?_|refine ah ?_|refine a5 ?_|refine a6 ?_|refine a7 a4 rfl rfl ?_|refine wS (d := 25) fun _=>?_|refine bB rfl ?_)
 rename_i eb
 refine cX (dX 0 (cs' := [.vec none 10 [], .vec none 1 []]) rfl fun σ vs hh => nR.vrs (a := [de, de]) (b := [.vec none 10 [], .vec none 1 []]) ⟨fun σ v h => eB 10 h, fun σ v h => eB 1 h, trivial⟩ hh) ?_
 refine aK [1, 6, 27, 28] (α := List lY × Option (Nat × Nat)) (fun s => [(29, az s.1.length)]) (fun s => s.1.length ≤ f.Lookups.length ∧ s.1.map (·.l) = f.Lookups.take s.1.length ∧ ∀ e ∈ s.1, 1 ≤ e.l.Kind → e.l.Kind ≤ 6 → i4 e) (fun s => (eb, .box [.vec s.2 10 (s.1.map dL), .vec none 1 []] 86) :: tok s.2 97 10 s.1.length) (fun s => f.Lookups.length - s.1.length) ([], none) rfl ⟨rfl, trivial⟩ ⟨Nat.zero_le _, rfl, fun e he => by cases he⟩ (fun _ _ hh => hh) ?_
 rintro ⟨es, q⟩ ⟨hk, hes, hau⟩
 dsimp only at hk hes hau ⊢
 try dsimp only [Ds, Dr, Dq, Dn]
 repeat' (first|refine a8 ?_|refine a0 ?_|refine a5 ?_|refine a6 ?_|refine a7 a4 rfl rfl ?_)
 refine aq rfl (fun h1 => ?_) (fun h1 => ?_)
 ·have hk2 : es.length < f.Lookups.length := by have := Dz h1; omega
  obtain ⟨l, hl⟩ : ∃ z, f.Lookups[es.length]? = some z := ⟨_, Bj hk2⟩
  have hlg : (f.Lookups.map bn)[es.length]? = some (bn l) := by simp [hl]
  have hlm := Dw hl
  have hbl := h.look l hlm
  have hfew := hbl.few
  haveI := AD.mk (qk l (by omega) (h.rule l hlm))
  have hbu := vW f es.length l hl hbl hN0 hN
  have hrl : (l.Rules.map bH).length = l.Rules.length := Du ..
  clear h1
  repeat' (first|refine a8 ?_|refine a0 ?_|refine aj ?_|refine ah ?_|refine a5 ?_|refine a6 ?_|refine a7 a4 rfl rfl ?_|(apply aE; first|refine aD a4 ?_|refine aA a4 ?_)|(apply aO; first|refine a9 8 a4 0 rfl rfl rfl rfl rfl rfl rfl rfl ?_|refine a9 8 a4 1 rfl rfl rfl rfl rfl rfl rfl rfl ?_|refine a9 8 a4 2 rfl rfl rfl rfl rfl rfl rfl rfl ?_|refine a9 10 a4 0 rfl rfl rfl rfl rfl rfl rfl rfl ?_|refine a9 10 a4 1 rfl rfl rfl rfl rfl rfl rfl rfl ?_|refine a9 10 a4 2 rfl rfl rfl rfl rfl rfl rfl rfl ?_|refine a9 13 a4 0 rfl rfl rfl rfl rfl rfl rfl rfl ?_|refine a9 13 a4 1 rfl rfl rfl rfl rfl rfl rfl rfl ?_|refine a9 13 a4 2 rfl rfl rfl rfl rfl rfl rfl rfl ?_|refine a9 15 a4 0 rfl rfl rfl rfl rfl rfl rfl rfl ?_|refine a9 15 a4 1 rfl rfl rfl rfl rfl rfl rfl rfl ?_|refine a9 15 a4 2 rfl rfl rfl rfl rfl rfl rfl rfl ?_|refine aa a4 0 rfl rfl rfl rfl rfl rfl rfl ?_|refine aa a4 1 rfl rfl rfl rfl rfl rfl rfl ?_|refine aa a4 2 rfl rfl rfl rfl rfl rfl rfl ?_|refine aa a4 3 rfl rfl rfl rfl rfl rfl rfl ?_|fail)|refine aY a4 fun _=>?_|(apply bb;refine b4 ?_)|fail)
  rename_i ob
  refine y1 (α := Option i3) [1, 6, 8, 9, 27, 28, 29] (fun _ => [(1, .iptr (bU f)), (6, eh eb), (8, .iptr (bn l)), (9, eh ob), (27, .imm 3 (f.Lookups.map bn)), (28, .sc (.int .i64 ((f.Lookups.map bn).length : Int))), (29, az es.length)]) (fun a => (ob, .box (C1 l a 0) 97) :: (eb, .box [.vec q 10 (es.map dL), .vec none 1 []] 86) :: tok q 97 10 es.length) (fun a => 1 ≤ l.Kind → l.Kind ≤ 6 → ∃ a', a = some a' ∧ sP f.Glyphs.length l.Rules a') (fun Q' K => ?_) (fun a ha => ?_)
  ·refine aq rfl (fun h1 => ?_) (fun h1 => ?_)
   ·repeat' (first|refine a8 ?_|refine a0 ?_|refine a7 a4 rfl rfl ?_)
    refine aN [] _ hbu rfl rfl (Do _) rfl fun c1 L1 ⟨a, ha, hc1⟩ => ?_
    subst hc1
    refine aP (bZ (List.sublist_append_right ..)) ?_
    repeat' (first|refine a8 ?_|refine a0 ?_|refine ah ?_|refine a5 ?_|refine a6 ?_|refine a7 a4 rfl rfl ?_|(apply aO; first|refine a9 8 a4 0 rfl rfl rfl rfl rfl rfl rfl rfl ?_|refine a9 8 a4 1 rfl rfl rfl rfl rfl rfl rfl rfl ?_|refine a9 8 a4 2 rfl rfl rfl rfl rfl rfl rfl rfl ?_|refine a9 10 a4 0 rfl rfl rfl rfl rfl rfl rfl rfl ?_|refine a9 10 a4 1 rfl rfl rfl rfl rfl rfl rfl rfl ?_|refine a9 10 a4 2 rfl rfl rfl rfl rfl rfl rfl rfl ?_|refine a9 13 a4 0 rfl rfl rfl rfl rfl rfl rfl rfl ?_|refine a9 13 a4 1 rfl rfl rfl rfl rfl rfl rfl rfl ?_|refine a9 13 a4 2 rfl rfl rfl rfl rfl rfl rfl rfl ?_|refine a9 15 a4 0 rfl rfl rfl rfl rfl rfl rfl rfl ?_|refine a9 15 a4 1 rfl rfl rfl rfl rfl rfl rfl rfl ?_|refine a9 15 a4 2 rfl rfl rfl rfl rfl rfl rfl rfl ?_|refine aa a4 0 rfl rfl rfl rfl rfl rfl rfl ?_|refine aa a4 1 rfl rfl rfl rfl rfl rfl rfl ?_|refine aa a4 2 rfl rfl rfl rfl rfl rfl rfl ?_|refine aa a4 3 rfl rfl rfl rfl rfl rfl rfl ?_|fail)|refine aY a4 fun _=>?_|refine bB rfl ?_)
    exact K (some a) _ (fun _ _ => ⟨a, rfl, ha⟩) rfl
   ·repeat' (first|refine ah ?_)
    exact K none _ (fun h1' h6 => absurd (Dy h1) (fun hn => hn ⟨h1', h6⟩)) rfl
  ·have hA : 1 ≤ l.Kind → l.Kind ≤ 6 → sP f.Glyphs.length l.Rules (a.getD Cf) := fun h1 h6 => by
    obtain ⟨a', rfl, hb⟩ := ha h1 h6
    exact hb
   refine cX (dX 0 (cs' := uM l (a.getD Cf) 0) rfl fun σ vs hh => (x4 l a 0).vrs hh) ?_
   generalize a.getD Cf = A at hA
   clear ha
   repeat' (first|refine a8 ?_|refine a0 ?_|refine aj ?_|refine a5 ?_|refine a6 ?_|refine a7 a4 rfl rfl ?_)
   refine aK [1, 6, 9, 27, 28, 29, 52, 53] (α := Nat) (fun j => [(54, az j)]) (fun j => j ≤ l.Rules.length) (fun j => (ob, .box (uM l A j) 97) :: (eb, .box [.vec q 10 (es.map dL), .vec none 1 []] 86) :: tok q 97 10 es.length) (fun j => l.Rules.length - j) 0 rfl ⟨rfl, trivial⟩ (Nat.zero_le _) (fun _ _ hh => hh) fun j hj => ?_
   try dsimp only [Ds, Dr, Dq, Dn]
   repeat' (first|refine a8 ?_|refine a0 ?_|refine a5 ?_|refine a6 ?_|refine a7 a4 rfl rfl ?_)
   refine aq rfl (fun h1 => ?_) (fun h1 => ?_)
   ·have hj2 : j < l.Rules.length := by have := Dz h1; omega
    obtain ⟨r, hr⟩ : ∃ z, l.Rules[j]? = some z := ⟨_, Bj hj2⟩
    have hrg : (l.Rules.map bH)[j]? = some (bH r) := by simp [hr]
    have hlong := (hbl.rule r (Dw hr)).long
    have hl1 := bQ r.In
    have hl2 := bQ r.Ahead
    have hl3 := bQ r.Back
    obtain ⟨hfb, hbb⟩ := wq hbl.rule j
    obtain ⟨hfs, hbs⟩ := rZ hr
    clear h1
    repeat' (first|refine a8 ?_|refine a0 ?_|refine aj ?_|refine ah ?_|refine a5 ?_|refine aH ?_|refine a6 ?_|refine a7 a4 rfl rfl ?_|(apply bD; first|refine ai a4 0 rfl rfl rfl rfl rfl ?_|refine ai a4 1 rfl rfl rfl rfl rfl ?_|refine ai a4 2 rfl rfl rfl rfl rfl ?_|refine ai a4 3 rfl rfl rfl rfl rfl ?_|refine ax a4 0 rfl rfl rfl rfl rfl ?_|refine ax a4 1 rfl rfl rfl rfl rfl ?_|refine ax a4 2 rfl rfl rfl rfl rfl ?_|refine ai a4 1 rfl rfl rfl (by assumption) rfl ?_|refine ai a4 0 rfl rfl rfl (by assumption) rfl ?_|fail)|(apply aS; refine aR ?_)|(apply aE; first|refine aD a4 ?_|refine aA a4 ?_)|(apply aO; first|refine a9 8 a4 0 rfl rfl rfl rfl rfl rfl rfl rfl ?_|refine a9 8 a4 1 rfl rfl rfl rfl rfl rfl rfl rfl ?_|refine a9 8 a4 2 rfl rfl rfl rfl rfl rfl rfl rfl ?_|refine a9 10 a4 0 rfl rfl rfl rfl rfl rfl rfl rfl ?_|refine a9 10 a4 1 rfl rfl rfl rfl rfl rfl rfl rfl ?_|refine a9 10 a4 2 rfl rfl rfl rfl rfl rfl rfl rfl ?_|refine a9 13 a4 0 rfl rfl rfl rfl rfl rfl rfl rfl ?_|refine a9 13 a4 1 rfl rfl rfl rfl rfl rfl rfl rfl ?_|refine a9 13 a4 2 rfl rfl rfl rfl rfl rfl rfl rfl ?_|refine a9 15 a4 0 rfl rfl rfl rfl rfl rfl rfl rfl ?_|refine a9 15 a4 1 rfl rfl rfl rfl rfl rfl rfl rfl ?_|refine a9 15 a4 2 rfl rfl rfl rfl rfl rfl rfl rfl ?_|refine aa a4 0 rfl rfl rfl rfl rfl rfl rfl ?_|refine aa a4 1 rfl rfl rfl rfl rfl rfl rfl ?_|refine aa a4 2 rfl rfl rfl rfl rfl rfl rfl ?_|refine aa a4 3 rfl rfl rfl rfl rfl rfl rfl ?_|fail)|refine aY a4 fun _=>?_|fail)
    refine ay (j + 1) rfl ⟨by rw [Dv]; rfl, trivial⟩ hj2 (by omega) (fun _ _ hh => ?_)
    have e1 : ((max (e9 (l.Rules.take j)) (r.In.length + r.Ahead.length) : Nat) : Int) = max ((e9 (l.Rules.take j) : Nat) : Int) (((b7 r.In).length : Int) + ((b7 r.Ahead).length : Int)) := by omega
    have e2 : ((max (fv (l.Rules.take j)) r.Back.length : Nat) : Int) = max ((fv (l.Rules.take j) : Nat) : Int) ((b7 r.Back).length : Int) := by omega
    unfold uM
    rw [hfs, hbs, e1, e2]
    exact hh
   ·have hj2 : j = l.Rules.length := by have := Dy h1; omega
    subst hj2
    rw [x5]
    clear h1
    have hel : (es.map dL).length = es.length := Du ..
    have hsn : es.map dL ++ [dL (yj l A)] = (es ++ [yj l A]).map dL := by rw [List.map_append]; rfl
    repeat' (first|refine aL ?_|refine a5 ?_|refine ar ?_|refine av ?_|refine au ?_)
    refine bj 8 [(0, .v), (1, .v), (2, .v), (3, .v), (4, .l), (5, .l), (6, .v), (7, .e)] none ?_ trivial rfl (by kernel_rfl) (by kernel_rfl) (by kernel_rfl) c9 (by kernel_rfl) rfl
    repeat' (first|refine aC ?_|refine bh a4 ?_|refine ly a4 ?_|refine bW a4 1 rfl rfl rfl rfl (by first|trivial|rfl) ?_|refine t5 a4 0 rfl rfl rfl rfl (by first|trivial|rfl) ?_)
    refine jP a4 [(ob, .box (dL (yj l A)) 97), (eb, .box [.vec q 10 (es.map dL), .vec none 1 []] 86)] rfl rfl rfl rfl (by rw [hel]; exact List.perm_append_comm (l₁ := [_, _])) (by rw [hel]; simp; omega) (by rw [hel]; simp; omega) trivial fun q' => ?_
    repeat' (first|fail)
    refine bv [1, 6, 27, 28, 29, 77, 84] rfl rfl ?_
    refine aP (aV (L' := (ob, .box (dL (yj l A)) 97) :: (eb, .box [.vec q 10 (es.map dL), .vec none 1 []] 86) :: tok q' 97 10 (es.map dL ++ [dL (yj l A)]).length) (List.perm_append_comm (l₂ := [_, _]))) ?_
    repeat' (first|refine a0 ?_|refine a5 ?_|refine aH ?_|refine a6 ?_|refine a7 a4 rfl rfl ?_|(apply aS; refine aR ?_)|(apply aO; first|refine a9 8 a4 0 rfl rfl rfl rfl rfl rfl rfl rfl ?_|refine a9 8 a4 1 rfl rfl rfl rfl rfl rfl rfl rfl ?_|refine a9 8 a4 2 rfl rfl rfl rfl rfl rfl rfl rfl ?_|refine a9 10 a4 0 rfl rfl rfl rfl rfl rfl rfl rfl ?_|refine a9 10 a4 1 rfl rfl rfl rfl rfl rfl rfl rfl ?_|refine a9 10 a4 2 rfl rfl rfl rfl rfl rfl rfl rfl ?_|refine a9 13 a4 0 rfl rfl rfl rfl rfl rfl rfl rfl ?_|refine a9 13 a4 1 rfl rfl rfl rfl rfl rfl rfl rfl ?_|refine a9 13 a4 2 rfl rfl rfl rfl rfl rfl rfl rfl ?_|refine a9 15 a4 0 rfl rfl rfl rfl rfl rfl rfl rfl ?_|refine a9 15 a4 1 rfl rfl rfl rfl rfl rfl rfl rfl ?_|refine a9 15 a4 2 rfl rfl rfl rfl rfl rfl rfl rfl ?_|refine aa a4 0 rfl rfl rfl rfl rfl rfl rfl ?_|refine aa a4 1 rfl rfl rfl rfl rfl rfl rfl ?_|refine aa a4 2 rfl rfl rfl rfl rfl rfl rfl ?_|refine aa a4 3 rfl rfl rfl rfl rfl rfl rfl ?_|fail))
    have hll2 : (es ++ [yj l A]).length = es.length + 1 := by simp
    refine ay (es ++ [yj l A], q') rfl ⟨by dsimp only; rw [hll2, Dv]; rfl, trivial⟩ ⟨by dsimp only; omega, ?_, ?_⟩ (by dsimp only; omega) (fun σ w hh => ?_)
    ·dsimp only
     rw [List.map_append, hes, hll2, List.take_add_one, hl]
     rfl
    ·intro e he h1 h6
     rw [List.mem_append, List.mem_singleton] at he
     rcases he with he | rfl
     ·exact hau e he h1 h6
     ·exact y5 hbl (hA h1 h6)
    ·have h2 := hh.sublist (List.sublist_cons_self ..)
     rw [hsn, Du] at h2
     dsimp only
     rw [← hsn]
     exact h2
 ·have hk2 : es.length = f.Lookups.length := by have := Dy h1; omega
  rw [hk2, List.take_length] at hes
  clear h1
  repeat' (first|refine a8 ?_|refine a0 ?_|refine aj ?_|refine aL ?_|refine a5 ?_|refine ar ?_|refine av ?_|refine au ?_|refine a6 ?_|refine a7 a4 rfl rfl ?_)
  refine aK [6, 89, 90] (α := Nat × Option (Nat × Nat)) (fun s => [(91, az s.1)]) (fun s => s.1 ≤ f.Glyphs.length) (fun s => (eb, .box [.vec q 10 (es.map dL), .vec s.2 1 (kM ((f.Glyphs.map b9.Mark).take s.1))] 86) :: (tok q 97 10 es.length ++ tok s.2 4 1 s.1)) (fun s => f.Glyphs.length - s.1) (0, none) rfl ⟨rfl, trivial⟩ (Nat.zero_le _) (fun σ w hh => by show ck B σ ((eb, .box [.vec q 10 (es.map dL), .vec none 1 []] 86) :: (tok q 97 10 es.length ++ [])) w; rw [List.append_nil]; exact hh) ?_
  rintro ⟨k, q2⟩ hk3
  dsimp only at hk3 ⊢
  try dsimp only [Ds, Dr, Dq, Dn]
  repeat' (first|refine a8 ?_|refine a0 ?_|refine a5 ?_|refine a6 ?_|refine a7 a4 rfl rfl ?_)
  refine aq rfl (fun h1 => ?_) (fun h1 => ?_)
  ·have hk4 : k < f.Glyphs.length := by have := Dz h1; omega
   obtain ⟨g, hg⟩ : ∃ z, f.Glyphs[k]? = some z := ⟨_, Bj hk4⟩
   have hgg : (f.Glyphs.map c7)[k]? = some (c7 g) := by simp [hg]
   have hbl : (kM ((f.Glyphs.map b9.Mark).take k)).length = k := by rw [qf, List.length_take, Du]; omega
   have hbs : (f.Glyphs.map b9.Mark).take (k + 1) = (f.Glyphs.map b9.Mark).take k ++ [g.Mark] := by rw [List.take_add_one, List.getElem?_map, hg]; rfl
   have hsn := u5 ((f.Glyphs.map b9.Mark).take k) g.Mark
   rw [← hbs] at hsn
   generalize kM ((f.Glyphs.map b9.Mark).take k) = bl at *
   clear h1
   repeat' (first|refine a8 ?_|refine a0 ?_|refine aj ?_|refine ah ?_|refine a5 ?_|refine a6 ?_|refine a7 a4 rfl rfl ?_|(apply aE; first|refine aD a4 ?_|refine aA a4 ?_)|(apply aO; first|refine a9 8 a4 0 rfl rfl rfl rfl rfl rfl rfl rfl ?_|refine a9 8 a4 1 rfl rfl rfl rfl rfl rfl rfl rfl ?_|refine a9 8 a4 2 rfl rfl rfl rfl rfl rfl rfl rfl ?_|refine a9 10 a4 0 rfl rfl rfl rfl rfl rfl rfl rfl ?_|refine a9 10 a4 1 rfl rfl rfl rfl rfl rfl rfl rfl ?_|refine a9 10 a4 2 rfl rfl rfl rfl rfl rfl rfl rfl ?_|refine a9 13 a4 0 rfl rfl rfl rfl rfl rfl rfl rfl ?_|refine a9 13 a4 1 rfl rfl rfl rfl rfl rfl rfl rfl ?_|refine a9 13 a4 2 rfl rfl rfl rfl rfl rfl rfl rfl ?_|refine a9 15 a4 0 rfl rfl rfl rfl rfl rfl rfl rfl ?_|refine a9 15 a4 1 rfl rfl rfl rfl rfl rfl rfl rfl ?_|refine a9 15 a4 2 rfl rfl rfl rfl rfl rfl rfl rfl ?_|refine aa a4 0 rfl rfl rfl rfl rfl rfl rfl ?_|refine aa a4 1 rfl rfl rfl rfl rfl rfl rfl ?_|refine aa a4 2 rfl rfl rfl rfl rfl rfl rfl ?_|refine aa a4 3 rfl rfl rfl rfl rfl rfl rfl ?_|fail)|refine aY a4 fun _=>?_|fail)
   refine bj 9 [(0, .v), (1, .v), (2, .v), (3, .v), (4, .l), (5, .v), (6, .v), (7, .v), (8, .e)] none ?_ trivial rfl (by kernel_rfl) (by kernel_rfl) (by kernel_rfl) c9 (by kernel_rfl) rfl
   repeat' (first|refine aC ?_|refine bh a4 ?_|refine ly a4 ?_|refine bW a4 0 rfl rfl rfl rfl (by first|trivial|rfl) ?_)
   refine jP a4 ((eb, .box [.vec q 10 (es.map dL), .vec q2 1 bl] 86) :: tok q 97 10 es.length) rfl rfl rfl rfl (by rw [hbl]; exact (List.perm_append_comm (l₁ := _ :: tok q 97 10 es.length))) (by rw [hbl]; simp; omega) (by rw [hbl]; simp; omega) trivial fun q' => ?_
   repeat' (first|fail)
   refine bv [6, 89, 90, 91, 95, 103] rfl rfl ?_
   refine aP (aV (L' := (eb, .box [.vec q 10 (es.map dL), .vec q2 1 bl] 86) :: (tok q 97 10 es.length ++ tok q' 4 1 (k + 1))) (by rw [List.length_append, hbl]; exact (List.perm_append_comm (l₂ := _ :: tok q 97 10 es.length)))) ?_
   repeat' (first|refine a0 ?_|refine a5 ?_|refine aH ?_|refine a6 ?_|refine a7 a4 rfl rfl ?_|(apply aS; refine aR ?_)|(apply aO; first|refine a9 8 a4 0 rfl rfl rfl rfl rfl rfl rfl rfl ?_|refine a9 8 a4 1 rfl rfl rfl rfl rfl rfl rfl rfl ?_|refine a9 8 a4 2 rfl rfl rfl rfl rfl rfl rfl rfl ?_|refine a9 10 a4 0 rfl rfl rfl rfl rfl rfl rfl rfl ?_|refine a9 10 a4 1 rfl rfl rfl rfl rfl rfl rfl rfl ?_|refine a9 10 a4 2 rfl rfl rfl rfl rfl rfl rfl rfl ?_|refine a9 13 a4 0 rfl rfl rfl rfl rfl rfl rfl rfl ?_|refine a9 13 a4 1 rfl rfl rfl rfl rfl rfl rfl rfl ?_|refine a9 13 a4 2 rfl rfl rfl rfl rfl rfl rfl rfl ?_|refine a9 15 a4 0 rfl rfl rfl rfl rfl rfl rfl rfl ?_|refine a9 15 a4 1 rfl rfl rfl rfl rfl rfl rfl rfl ?_|refine a9 15 a4 2 rfl rfl rfl rfl rfl rfl rfl rfl ?_|refine aa a4 0 rfl rfl rfl rfl rfl rfl rfl ?_|refine aa a4 1 rfl rfl rfl rfl rfl rfl rfl ?_|refine aa a4 2 rfl rfl rfl rfl rfl rfl rfl ?_|refine aa a4 3 rfl rfl rfl rfl rfl rfl rfl ?_|fail))
   exact ay (k + 1, q') rfl ⟨by rw [Dv]; rfl, trivial⟩ hk4 (by dsimp only; omega) (fun _ _ hh => by dsimp only; rw [← hsn]; exact hh)
  ·have hk4 : k = f.Glyphs.length := by have := Dy h1; omega
   subst hk4
   rw [List.take_of_length_le (by rw [Du]; exact Nat.le_refl _)]
   clear h1
   repeat' (first|refine a8 ?_|refine a0 ?_|refine ae ?_|refine aL ?_|refine a5 ?_|refine ar ?_|refine av ?_|refine au ?_|refine a6 ?_|refine a7 a4 rfl rfl ?_)
   refine bA (dX 0 (cs' := d9 ⟨es, f.Glyphs.map b9.Mark⟩) rfl fun σ vs hh => nR.vrs (a := [.vec q 10 (es.map dL), .vec q2 1 (kM (f.Glyphs.map b9.Mark))]) (b := d9 ⟨es, f.Glyphs.map b9.Mark⟩) ⟨fun σ v h => VR.im h, fun σ v h => VR.im h, trivial⟩ hh) ?_
   refine bA (ri (t := 2) (cs := d9 ⟨es, f.Glyphs.map b9.Mark⟩) 0 rfl rfl rfl) ?_
   refine du (List.nil_sublist _) ?_
   exact aJ rfl rfl rfl ⟨⟨es, f.Glyphs.map b9.Mark⟩, ⟨hes, rfl, hau⟩, rfl⟩
def dH : Nat → List Int → List aF
 | _, [] => []
 | i, g :: l => ⟨g, i, 0, 0, 0, 0⟩ :: dH (i + 1) l
def cH (l : List Int) : List aF := dH 0 l
def eS : List Bool := [false, false, false, false, true]
def BT (ig : Bool) : List aQ := [⟨3, ig, [⟨[], [[0], [1]], [], [2], [], 0⟩]⟩]
def pe (a b c : Nat) : List Int := List.replicate a 4 ++ 0 :: (List.replicate b 4 ++ 1 :: List.replicate c 4)
def qL (a b c : Nat) (ig : Bool) : List Int := if 0 < b ∧ ig = false then pe a b c else List.replicate a 4 ++ 2 :: (List.replicate b 4 ++ List.replicate c 4)
def wK (a b c : Nat) (ig : Bool) : Bool :=
 let out := cT eS (BT ig) 0 (cH (pe a b c)) []
 (out.map aF.Glyph == qL a b c ig) && (decide ((qL a b c ig).length = (pe a b c).length) || (match out[a]? with | some x => decide (x.Cluster = a) | none => false))
def Ce : Bool := (List.range 8).all fun a => (List.range 8).all fun b => (List.range 8).all fun c => wK a b c true && wK a b c false
def C3 : aT := ⟨[], [[0]], [[1]], [1], [], 0⟩
def yZ : List aQ := [⟨5, false, [C3]⟩, ⟨1, false, [C3]⟩]
def xc (n : Nat) : List Int := List.replicate n 0 ++ [1]
def Bc (n : Nat) : List Int := (List.range (n + 1)).map fun (k : Nat) => if (n : Int) - 1 ≤ (k : Int) then (1 : Int) else 0
def D8 (n : Nat) : Bool := ((cT eS yZ 0 (cH (xc n)) []).map aF.Glyph == List.replicate (n + 1) 1) && ((cT eS yZ 1 (cH (xc n)) []).map aF.Glyph == Bc n)
def my (k : Nat) : List aQ := [⟨4, false, [⟨[], [[0]], [], [], [⟨0, 1⟩, ⟨0, 2⟩, ⟨0, 0⟩], 0⟩]⟩, ⟨1, false, [⟨[], [[0]], [], [2], [], 0⟩]⟩, ⟨2, false, [⟨[], [[2]], [], List.replicate k 1, [], 0⟩]⟩]
def zJ (n k : Nat) : Bool :=
 let out := cT eS (my k) 0 (cH (List.replicate n 0)) []
 if k = 0 then decide (out.length < n) else out.map aF.Glyph == List.replicate (n * k) 1
theorem oW : ((List.range 20).all fun n => (List.range 7).all fun k => zJ (n + 1) k) = true := by decide +kernel
end Go.Proofs.YtpmdfoaadejmkaaGreatDoor
namespace Go.Proofs.YtpmdfoaadejmkaaGreatDoor
open Go.RowKit
attribute [local irreducible] AT bf AX AO Av Kt aZ df DA cA
open Go.MapKept
section
variable {P : Program} {r : Option Nat} {ops : Array Oper} {Q : Exit → Act → World → Prop} {nt : Nat} {D : List Deferred} {fr : bw} {B : Bs} {L : AL} {rest : List Oper} {d : Nat} {ty t : TypeId} {pos : String} {af : Array Edge} {x y z : Operand} {u : AV} {cd : Code}
theorem gh {f : FuncId} {args : Array Operand} {ts : Array TypeId} {cs caps : List AV} {v : AV} [bi P f] (hc : bk P f (cs ++ caps) v) (hx : aW fr x = some u) (hu : hQ u = some (f, caps)) (hv : dz fr args.toList = some cs) (hn : Oper.noDefer ⟨some d, .call ⟨.value x, args, ts⟩, ty, pos, af, none⟩ = true) (hd : Nat.ble nt d = false) (h : bf P r ops Q nt D rest ((d, v) :: fr) B L) :
  bf P r ops Q nt D (⟨some d, .call ⟨.value x, args, ts⟩, ty, pos, af, none⟩ :: rest) fr B L :=
 cF [] L hc hx hu hv (Do _) hn hd fun c L1 hc => by
  have hc' : c = v := hc
  subst hc'
  exact aP (bZ (List.sublist_append_right ..)) h
theorem y4 (t : Nat) {u : AV} {s : Nat} {l : List (List AV)} (hl : bE fr t = some u) (hu : hY u = some (s, l)) (h : l.length ≤ 9223372036854775807 → bf P r ops Q nt D rest fr B L) : bf P r ops Q nt D rest fr B L :=
 y3 (fun σ a w ha _ => (wC (ha.look t u hl) hu).1) h
end
def to (t : bO) (i : Nat) (l : Int) : Bool := match i with | 0 => false | j + 1 => match t.Lookups[j]? with | some b => decide (l ≤ b) | none => false
def ma (f : aM) (t : bO) (i : Nat) (l : Int) : Int := d4 (decide (l < 0 ∨ l ≥ f.Lookups.length) || to t i l) 43
set_option maxHeartbeats 1000000 in
theorem un (f : aM) (t : bO) (i : Nat) (l : Int) (hl : t.Lookups[i]? = some l) (hn : t.Lookups.length ≤ 9223372036854775807) : bk Tryz.prog 144 [az i, az l, .iptr (bU f), .iptr (ca t)] (az (ma f t i l)) := by
 refine aB Tryz.func144 rfl Tryz.ntmps144 rfl fun B => ?_
 have hil := (Dp hl).1
 unfold ma
 cases i with
 | zero =>
  repeat' (first|refine a8 ?_|refine a0 ?_|refine a5 ?_|refine a6 ?_|refine a7 a4 rfl rfl ?_)
  refine cE (t := 7) [] (l < 0 ∨ l ≥ f.Lookups.length) rfl (fun Q' K => ?_) ?_
  ·repeat' (first|refine a6 ?_|refine a7 a4 rfl rfl ?_|refine an rfl rfl ?_|refine aw rfl rfl rfl rfl ?_|refine cV rfl rfl rfl ?_|refine aG rfl rfl rfl (fun _ => ?_) (fun _ => ?_))
   all_goals exact K _ _ rfl rfl (by clear K; simp_all <;> omega)
  repeat' (first|refine a8 ?_|refine a0 ?_|refine ae ?_|refine a5 ?_|refine a6 ?_|refine a7 a4 rfl rfl ?_|(apply bb;refine b4 ?_)|fail)
  refine ak rfl rfl ?_
  simp [to]
 | succ j =>
  obtain ⟨b, hb⟩ : ∃ b, t.Lookups[j]? = some b := ⟨_, Bj (by omega)⟩
  have hbg : (aU t.Lookups)[(((j + 1 : Nat) : Int) - 1).toNat]? = some [az b] := by rw [show (((j + 1 : Nat) : Int) - 1).toNat = j by omega]; exact bI hb
  have hlt : to t (j + 1) l = decide (l ≤ b) := by simp [to, hb]
  have hpos : decide (0 < ((j + 1 : Nat) : Int)) = true := decide_eq_true (by omega)
  rw [hlt]
  repeat' (first|refine a8 ?_|refine a0 ?_|refine a5 ?_|refine a6 ?_|refine a7 a4 rfl rfl ?_)
  refine cE (t := 7) [] ((l < 0 ∨ l ≥ f.Lookups.length) ∨ l ≤ b) rfl (fun Q' K => ?_) ?_
  ·repeat' (first|refine a6 ?_|refine a7 a4 rfl rfl ?_|refine an rfl rfl ?_|refine aw rfl rfl rfl rfl ?_|refine cV rfl rfl rfl ?_|(apply aS; refine aR ?_)|(apply aE; first|refine aD a4 ?_|refine aA a4 ?_)|refine aG rfl rfl rfl (fun _ => ?_) (fun _ => ?_))
   all_goals exact K _ _ rfl rfl (by clear K; simp_all <;> omega)
  repeat' (first|refine a8 ?_|refine a0 ?_|refine ae ?_|refine a5 ?_|refine a6 ?_|refine a7 a4 rfl rfl ?_|(apply bb;refine b4 ?_)|fail)
  refine ak rfl rfl ?_
  rw [Bool.decide_or]
def tc (f : aM) (t : bO) (name : Int) : Int := if name ≠ 0 then name else (cm t.Lookups (ma f t)).1
theorem qx (f : aM) (t : bO) (name : Int) : bk Tryz.prog 65 [cx f, .agg (ca t), az name] (az (tc f t name)) := by
 refine aB Tryz.func65 rfl Tryz.ntmps65 rfl fun B => ?_
 unfold tc
 repeat' (first|refine a8 ?_|refine a0 ?_|refine a5 ?_|refine a6 ?_|refine a7 a4 rfl rfl ?_|refine aX ?_|fail)
 refine aq rfl (fun h => ?_) (fun h => ?_)
 ·rw [if_pos (Dz h)]
  repeat' (first|refine a8 ?_|refine a0 ?_|refine ae ?_|refine a5 ?_|refine am ?_|refine a6 ?_|refine a7 a4 rfl rfl ?_)
  exact ak rfl rfl rfl
 rw [if_neg (Dy h)]
 repeat' (first|refine a8 ?_|refine a0 ?_|refine ah ?_|refine a5 ?_|refine a7 a4 rfl rfl ?_)
 refine y4 14 rfl rfl fun hlen => ?_
 rw [b6] at hlen
 refine aN [] [] (jQ (u := .fn 144 [.iptr (bU f), .iptr (ca t)]) (g := 144) rfl t.Lookups _ (fun _ _ => True) [] trivial (co (fun i x hx => un f t i x hx (by omega)))) rfl rfl (Do _) rfl fun c L1 hc => ?_
 have hc : c = bK (cm t.Lookups (ma f t)) := hc
 subst hc
 unfold bK
 repeat' (first|refine a8 ?_|refine a0 ?_|refine ae ?_|refine a5 ?_|refine a6 ?_|refine a7 a4 rfl rfl ?_)
 exact ak rfl rfl rfl
instance (f : aM) (t : bO) (name : Int) : AD Tryz.prog 65 [cx f, .agg (ca t), az name] (az (tc f t name)) := ⟨qx f t name⟩
def cr (names : List ByteArray) (s : ByteArray) : Option Nat := names.findIdx? (fun x => decide (x = s))
def bY (names : List ByteArray) (v : Value) : Option AV := match v with
 | .string s => (cr names s).map fun (n : Nat) => az (n : Int)
 | _ => none
theorem gI {names : List ByteArray} {i : Nat} {s : ByteArray} (h : names[i]? = some s) (q : ByteArray) : cr (names.take (i + 1)) q = match cr (names.take i) q with | some n => some n | none => if s = q then some i else none := by
 unfold cr
 have hlt := (Dp h).1
 have hlen : (names.take i).length = i := by rw [List.length_take]; omega
 rw [List.take_add_one, h, Option.toList_some, List.findIdx?_append, hlen]
 cases List.findIdx? (fun x => decide (x = q)) (names.take i) with
 | some n => rfl
 | none =>
  by_cases e : s = q
  ·simp [e]
  ·simp [e]
theorem jp : bY [] = fun _ => none := by
 funext v
 cases v <;> rfl
theorem it {names : List ByteArray} {s : ByteArray} : (bY names (.string s)).isSome = (cr names s).isSome := by
 show (Option.map (fun n : Nat => az (n : Int)) (cr names s)).isSome = _
 cases cr names s <;> rfl
theorem gJ {names : List ByteArray} {i : Nat} {s : ByteArray} (h : names[i]? = some s) (hk : (cr (names.take i) s).isSome = true) : bY (names.take (i + 1)) = bY (names.take i) := by
 funext v
 cases v with
 | string q =>
  simp only [bY]
  rw [gI h]
  cases hq : cr (names.take i) q with
  | some n => rfl
  | none =>
   by_cases e : s = q
   ·subst e; rw [hq] at hk; cases hk
   ·simp [e]
 | _ => rfl
theorem ir {names : List ByteArray} {i : Nat} {s : ByteArray} (h : names[i]? = some s) (hk : (cr (names.take i) s).isSome = false) : bY (names.take (i + 1)) (.string s) = some (az i) := by
 simp only [bY]
 rw [gI h]
 cases hq : cr (names.take i) s with
 | some n => rw [hq] at hk; cases hk
 | none => simp
theorem gK {names : List ByteArray} {i : Nat} {s : ByteArray} (h : names[i]? = some s) (q : Value) (hne : q ≠ .string s) : bY (names.take (i + 1)) q = bY (names.take i) q := by
 cases q with
 | string q =>
  have hne' : s ≠ q := fun e => hne (by rw [e])
  simp only [bY]
  rw [gI h]
  cases hq : cr (names.take i) q with
  | some n => rfl
  | none => simp [hne']
 | _ => rfl
theorem n4 (g : b9) : bk Tryz.prog 42 [.agg (c7 g)] (vq g.Name) := by
 refine aB Tryz.func42 rfl Tryz.ntmps42 rfl fun B => ?_
 repeat' (first|refine a8 ?_|refine a0 ?_|refine ae ?_|refine a5 ?_|refine a6 ?_|refine a7 a4 rfl rfl ?_|refine aX ?_|fail)
 exact ak rfl rfl rfl
theorem n5 (g : bO) : bk Tryz.prog 44 [.agg (ca g)] (vq g.Name) := by
 refine aB Tryz.func44 rfl Tryz.ntmps44 rfl fun B => ?_
 repeat' (first|refine a8 ?_|refine a0 ?_|refine ae ?_|refine a5 ?_|refine a6 ?_|refine a7 a4 rfl rfl ?_|refine aX ?_|fail)
 exact ak rfl rfl rfl
theorem n6 (g : dY) : bk Tryz.prog 46 [.agg (ej g)] (vq g.Name) := by
 refine aB Tryz.func46 rfl Tryz.ntmps46 rfl fun B => ?_
 repeat' (first|refine a8 ?_|refine a0 ?_|refine ae ?_|refine a5 ?_|refine a6 ?_|refine a7 a4 rfl rfl ?_|refine aX ?_|fail)
 exact ak rfl rfl rfl
set_option maxHeartbeats 1000000 in
theorem wl (l : List b9) : AC Tryz.prog 41 [.imm 9 (l.map c7), .sc (.func (.func 42) #[] #[])] [] fun c L => ∃ m, c = .sc (.map (some m)) ∧ L = [(m, ce .string (bY (l.map b9.Name)))] := by
 refine aB Tryz.func41 rfl Tryz.ntmps41 rfl fun B => ?_
 refine cf 0 rfl rfl fun hlen => ?_
 rw [Du] at hlen
 repeat' (first|refine a8 ?_|refine a0 ?_|refine a5 ?_|refine a6 ?_|refine a7 a4 rfl rfl ?_)
 refine ea .string fun m => ?_
 repeat' (first|refine a8 ?_|refine a0 ?_|refine aj ?_|refine a5 ?_|refine a6 ?_|refine a7 a4 rfl rfl ?_)
 refine aK [1, 5, 11, 12] (α := Nat) (fun i => [(13, az i)]) (fun i => i ≤ l.length) (fun i => [(m, ce .string (bY ((l.map b9.Name).take i)))]) (fun i => l.length - i) 0 rfl ⟨rfl, trivial⟩ (Nat.zero_le _) (fun _ _ h => by rw [List.take_zero, jp]; exact h) fun i hi => ?_
 try dsimp only [Ds, Dr, Dq, Dn]
 repeat' (first|refine a8 ?_|refine a0 ?_|refine a5 ?_|refine a6 ?_|refine a7 a4 rfl rfl ?_)
 refine aq rfl (fun h => ?_) (fun h => ?_)
 ·have hil : i < l.length := by have := Dz h; simp at this; omega
  obtain ⟨z, hz⟩ : ∃ z, l[i]? = some z := ⟨_, Bj hil⟩
  have hzg := bV (c := c7) hz
  have hzn : (l.map b9.Name)[i]? = some z.Name := by rw [List.getElem?_map, hz]; rfl
  repeat' (first|refine a8 ?_|refine a0 ?_|refine aj ?_|refine ah ?_|refine a5 ?_|refine a6 ?_|refine a7 a4 rfl rfl ?_|(apply aE; first|refine aD a4 ?_|refine aA a4 ?_)|(apply aO; first|refine a9 7 a4 0 rfl rfl rfl rfl rfl rfl rfl rfl ?_|refine a9 7 a4 1 rfl rfl rfl rfl rfl rfl rfl rfl ?_|refine a9 7 a4 2 rfl rfl rfl rfl rfl rfl rfl rfl ?_|refine aa a4 0 rfl rfl rfl rfl rfl rfl rfl ?_|refine aa a4 1 rfl rfl rfl rfl rfl rfl rfl ?_|refine aa a4 2 rfl rfl rfl rfl rfl rfl rfl ?_|refine aa a4 3 rfl rfl rfl rfl rfl rfl rfl ?_|fail)|refine aY a4 fun _=>?_|fail)
  refine gh (cs := [.agg (c7 z)]) (caps := []) (n4 z) rfl rfl rfl rfl rfl ?_
  repeat' (first|fail)
  refine fk 0 (.int .i64 0) Tryz.underlying129 Tryz.underlying9 rfl rfl trivial rfl (by kernel_rfl) rfl ?_
  rw [it]
  repeat' (first|refine a8 ?_|refine a0 ?_|refine a5 ?_|refine a6 ?_|refine a7 a4 rfl rfl ?_)
  refine aq rfl (fun h2 => ?_) (fun h2 => ?_)
  ·have h2' : (cr ((l.map b9.Name).take i) z.Name).isSome = false := by simpa using h2
   repeat' (first|refine a0 ?_|refine a7 a4 rfl rfl ?_)
   refine gh (cs := [.agg (c7 z)]) (caps := []) (n4 z) rfl rfl rfl rfl rfl ?_
   repeat' (first|refine a7 a4 rfl rfl ?_)
   refine d3 0 (bY ((l.map b9.Name).take (i + 1))) Tryz.underlying129 Tryz.underlying9 rfl rfl trivial rfl rfl (ir hzn h2') (gK hzn) ?_
   repeat' (first|refine a0 ?_|refine a5 ?_|refine aH ?_|refine a6 ?_|refine a7 a4 rfl rfl ?_|(apply aS; refine aR ?_)|fail)
   exact ay (i + 1) rfl ⟨by rw [Dv]; rfl, trivial⟩ (by omega) (by omega) (fun _ _ h => h)
  ·have h2' : (cr ((l.map b9.Name).take i) z.Name).isSome = true := by simpa using h2
   repeat' (first|refine a0 ?_|refine ah ?_|refine a5 ?_|refine aH ?_|refine a6 ?_|refine a7 a4 rfl rfl ?_|(apply aS; refine aR ?_)|fail)
   exact ay (i + 1) rfl ⟨by rw [Dv]; rfl, trivial⟩ (by omega) (by omega) (fun _ _ h => by rw [gJ hzn h2']; exact h)
 ·have hil : i = l.length := by have := Dy h; simp at this; omega
  subst hil
  rw [List.take_of_length_le (by simp)]
  repeat' (first|refine a8 ?_|refine a0 ?_|refine ae ?_|refine aL ?_|refine a5 ?_|refine ar ?_|refine av ?_|refine au ?_|refine a6 ?_|refine a7 a4 rfl rfl ?_)
  exact ak rfl rfl ⟨_, rfl, rfl⟩
set_option maxHeartbeats 1000000 in
theorem wm (l : List bO) : AC Tryz.prog 43 [.imm 2 (l.map ca), .sc (.func (.func 44) #[] #[])] [] fun c L => ∃ m, c = .sc (.map (some m)) ∧ L = [(m, ce .string (bY (l.map bO.Name)))] := by
 refine aB Tryz.func43 rfl Tryz.ntmps43 rfl fun B => ?_
 refine cf 0 rfl rfl fun hlen => ?_
 rw [Du] at hlen
 repeat' (first|refine a8 ?_|refine a0 ?_|refine a5 ?_|refine a6 ?_|refine a7 a4 rfl rfl ?_)
 refine ea .string fun m => ?_
 repeat' (first|refine a8 ?_|refine a0 ?_|refine aj ?_|refine a5 ?_|refine a6 ?_|refine a7 a4 rfl rfl ?_)
 refine aK [1, 5, 11, 12] (α := Nat) (fun i => [(13, az i)]) (fun i => i ≤ l.length) (fun i => [(m, ce .string (bY ((l.map bO.Name).take i)))]) (fun i => l.length - i) 0 rfl ⟨rfl, trivial⟩ (Nat.zero_le _) (fun _ _ h => by rw [List.take_zero, jp]; exact h) fun i hi => ?_
 try dsimp only [Ds, Dr, Dq, Dn]
 repeat' (first|refine a8 ?_|refine a0 ?_|refine a5 ?_|refine a6 ?_|refine a7 a4 rfl rfl ?_)
 refine aq rfl (fun h => ?_) (fun h => ?_)
 ·have hil : i < l.length := by have := Dz h; simp at this; omega
  obtain ⟨z, hz⟩ : ∃ z, l[i]? = some z := ⟨_, Bj hil⟩
  have hzg := bV (c := ca) hz
  have hzn : (l.map bO.Name)[i]? = some z.Name := by rw [List.getElem?_map, hz]; rfl
  repeat' (first|refine a8 ?_|refine a0 ?_|refine aj ?_|refine ah ?_|refine a5 ?_|refine a6 ?_|refine a7 a4 rfl rfl ?_|(apply aE; first|refine aD a4 ?_|refine aA a4 ?_)|(apply aO; first|refine a9 7 a4 0 rfl rfl rfl rfl rfl rfl rfl rfl ?_|refine a9 7 a4 1 rfl rfl rfl rfl rfl rfl rfl rfl ?_|refine a9 7 a4 2 rfl rfl rfl rfl rfl rfl rfl rfl ?_|refine aa a4 0 rfl rfl rfl rfl rfl rfl rfl ?_|refine aa a4 1 rfl rfl rfl rfl rfl rfl rfl ?_|refine aa a4 2 rfl rfl rfl rfl rfl rfl rfl ?_|refine aa a4 3 rfl rfl rfl rfl rfl rfl rfl ?_|fail)|refine aY a4 fun _=>?_|fail)
  refine gh (cs := [.agg (ca z)]) (caps := []) (n5 z) rfl rfl rfl rfl rfl ?_
  repeat' (first|fail)
  refine fk 0 (.int .i64 0) Tryz.underlying129 Tryz.underlying9 rfl rfl trivial rfl (by kernel_rfl) rfl ?_
  rw [it]
  repeat' (first|refine a8 ?_|refine a0 ?_|refine a5 ?_|refine a6 ?_|refine a7 a4 rfl rfl ?_)
  refine aq rfl (fun h2 => ?_) (fun h2 => ?_)
  ·have h2' : (cr ((l.map bO.Name).take i) z.Name).isSome = false := by simpa using h2
   repeat' (first|refine a0 ?_|refine a7 a4 rfl rfl ?_)
   refine gh (cs := [.agg (ca z)]) (caps := []) (n5 z) rfl rfl rfl rfl rfl ?_
   repeat' (first|refine a7 a4 rfl rfl ?_)
   refine d3 0 (bY ((l.map bO.Name).take (i + 1))) Tryz.underlying129 Tryz.underlying9 rfl rfl trivial rfl rfl (ir hzn h2') (gK hzn) ?_
   repeat' (first|refine a0 ?_|refine a5 ?_|refine aH ?_|refine a6 ?_|refine a7 a4 rfl rfl ?_|(apply aS; refine aR ?_)|fail)
   exact ay (i + 1) rfl ⟨by rw [Dv]; rfl, trivial⟩ (by omega) (by omega) (fun _ _ h => h)
  ·have h2' : (cr ((l.map bO.Name).take i) z.Name).isSome = true := by simpa using h2
   repeat' (first|refine a0 ?_|refine ah ?_|refine a5 ?_|refine aH ?_|refine a6 ?_|refine a7 a4 rfl rfl ?_|(apply aS; refine aR ?_)|fail)
   exact ay (i + 1) rfl ⟨by rw [Dv]; rfl, trivial⟩ (by omega) (by omega) (fun _ _ h => by rw [gJ hzn h2']; exact h)
 ·have hil : i = l.length := by have := Dy h; simp at this; omega
  subst hil
  rw [List.take_of_length_le (by simp)]
  repeat' (first|refine a8 ?_|refine a0 ?_|refine ae ?_|refine aL ?_|refine a5 ?_|refine ar ?_|refine av ?_|refine au ?_|refine a6 ?_|refine a7 a4 rfl rfl ?_)
  exact ak rfl rfl ⟨_, rfl, rfl⟩
set_option maxHeartbeats 1000000 in
theorem wn (l : List dY) : AC Tryz.prog 45 [.imm 4 (l.map ej), .sc (.func (.func 46) #[] #[])] [] fun c L => ∃ m, c = .sc (.map (some m)) ∧ L = [(m, ce .string (bY (l.map dY.Name)))] := by
 refine aB Tryz.func45 rfl Tryz.ntmps45 rfl fun B => ?_
 refine cf 0 rfl rfl fun hlen => ?_
 rw [Du] at hlen
 repeat' (first|refine a8 ?_|refine a0 ?_|refine a5 ?_|refine a6 ?_|refine a7 a4 rfl rfl ?_)
 refine ea .string fun m => ?_
 repeat' (first|refine a8 ?_|refine a0 ?_|refine aj ?_|refine a5 ?_|refine a6 ?_|refine a7 a4 rfl rfl ?_)
 refine aK [1, 5, 11, 12] (α := Nat) (fun i => [(13, az i)]) (fun i => i ≤ l.length) (fun i => [(m, ce .string (bY ((l.map dY.Name).take i)))]) (fun i => l.length - i) 0 rfl ⟨rfl, trivial⟩ (Nat.zero_le _) (fun _ _ h => by rw [List.take_zero, jp]; exact h) fun i hi => ?_
 try dsimp only [Ds, Dr, Dq, Dn]
 repeat' (first|refine a8 ?_|refine a0 ?_|refine a5 ?_|refine a6 ?_|refine a7 a4 rfl rfl ?_)
 refine aq rfl (fun h => ?_) (fun h => ?_)
 ·have hil : i < l.length := by have := Dz h; simp at this; omega
  obtain ⟨z, hz⟩ : ∃ z, l[i]? = some z := ⟨_, Bj hil⟩
  have hzg := bV (c := ej) hz
  have hzn : (l.map dY.Name)[i]? = some z.Name := by rw [List.getElem?_map, hz]; rfl
  repeat' (first|refine a8 ?_|refine a0 ?_|refine aj ?_|refine ah ?_|refine a5 ?_|refine a6 ?_|refine a7 a4 rfl rfl ?_|(apply aE; first|refine aD a4 ?_|refine aA a4 ?_)|(apply aO; first|refine a9 7 a4 0 rfl rfl rfl rfl rfl rfl rfl rfl ?_|refine a9 7 a4 1 rfl rfl rfl rfl rfl rfl rfl rfl ?_|refine a9 7 a4 2 rfl rfl rfl rfl rfl rfl rfl rfl ?_|refine aa a4 0 rfl rfl rfl rfl rfl rfl rfl ?_|refine aa a4 1 rfl rfl rfl rfl rfl rfl rfl ?_|refine aa a4 2 rfl rfl rfl rfl rfl rfl rfl ?_|refine aa a4 3 rfl rfl rfl rfl rfl rfl rfl ?_|fail)|refine aY a4 fun _=>?_|fail)
  refine gh (cs := [.agg (ej z)]) (caps := []) (n6 z) rfl rfl rfl rfl rfl ?_
  repeat' (first|fail)
  refine fk 0 (.int .i64 0) Tryz.underlying129 Tryz.underlying9 rfl rfl trivial rfl (by kernel_rfl) rfl ?_
  rw [it]
  repeat' (first|refine a8 ?_|refine a0 ?_|refine a5 ?_|refine a6 ?_|refine a7 a4 rfl rfl ?_)
  refine aq rfl (fun h2 => ?_) (fun h2 => ?_)
  ·have h2' : (cr ((l.map dY.Name).take i) z.Name).isSome = false := by simpa using h2
   repeat' (first|refine a0 ?_|refine a7 a4 rfl rfl ?_)
   refine gh (cs := [.agg (ej z)]) (caps := []) (n6 z) rfl rfl rfl rfl rfl ?_
   repeat' (first|refine a7 a4 rfl rfl ?_)
   refine d3 0 (bY ((l.map dY.Name).take (i + 1))) Tryz.underlying129 Tryz.underlying9 rfl rfl trivial rfl rfl (ir hzn h2') (gK hzn) ?_
   repeat' (first|refine a0 ?_|refine a5 ?_|refine aH ?_|refine a6 ?_|refine a7 a4 rfl rfl ?_|(apply aS; refine aR ?_)|fail)
   exact ay (i + 1) rfl ⟨by rw [Dv]; rfl, trivial⟩ (by omega) (by omega) (fun _ _ h => h)
  ·have h2' : (cr ((l.map dY.Name).take i) z.Name).isSome = true := by simpa using h2
   repeat' (first|refine a0 ?_|refine ah ?_|refine a5 ?_|refine aH ?_|refine a6 ?_|refine a7 a4 rfl rfl ?_|(apply aS; refine aR ?_)|fail)
   exact ay (i + 1) rfl ⟨by rw [Dv]; rfl, trivial⟩ (by omega) (by omega) (fun _ _ h => by rw [gJ hzn h2']; exact h)
 ·have hil : i = l.length := by have := Dy h; simp at this; omega
  subst hil
  rw [List.take_of_length_le (by simp)]
  repeat' (first|refine a8 ?_|refine a0 ?_|refine ae ?_|refine aL ?_|refine a5 ?_|refine ar ?_|refine av ?_|refine au ?_|refine a6 ?_|refine a7 a4 rfl rfl ?_)
  exact ak rfl rfl ⟨_, rfl, rfl⟩
end Go.Proofs.YtpmdfoaadejmkaaGreatDoor
namespace Go.Proofs.YtpmdfoaadejmkaaGreatDoor
open Go.RowKit
attribute [local irreducible] AT bf AX AO Av Kt aZ df DA cA
theorem iq (names : List ByteArray) (s : ByteArray) : (bY names (.string s)).getD (.sc (.int .i64 0)) = az ((cr names s).getD 0 : Nat) := by
 show (Option.map (fun n : Nat => az (n : Int)) (cr names s)).getD (.sc (.int .i64 0)) = _
 cases cr names s <;> rfl
def sI (names : List ByteArray) (i : Nat) (s : ByteArray) : Bool := decide ((((cr names s).getD 0 : Nat) : Int) < (i : Int))
def kX (f : aM) : List ByteArray := f.Glyphs.map b9.Name
def lb (f : aM) : List ByteArray := f.Features.map bO.Name
def kG (f : aM) : List ByteArray := f.Axes.map dY.Name
def dN (f : aM) (i : Nat) (g : b9) : Int := mM f g (mH (gN g.Name) (sI (kX f) i g.Name))
def jR (f : aM) (i : Nat) (t : bO) : Int := tc f t (mH (eP t.Name) (sI (lb f) i t.Name))
def jI (f : aM) (i : Nat) (a : dY) : Int := t1 a (mH (gN a.Name) (sI (kG f) i a.Name))
set_option maxHeartbeats 1000000 in
theorem s7 (f : aM) (i : Nat) (g : b9) (m : Nat) : AC Tryz.prog 51 [az i, .agg (c7 g), .iptr (bU f), .iptr [.sc (.map (some m))]] [(m, ce .string (bY (kX f)))] fun c L => c = az (dN f i g) ∧ L = [(m, ce .string (bY (kX f)))] := by
 refine aB Tryz.func51 rfl Tryz.ntmps51 rfl fun B => ?_
 repeat' (first|refine a8 ?_|refine a0 ?_|refine a5 ?_|refine a6 ?_|refine a7 a4 rfl rfl ?_|refine aX ?_|fail)
 refine bj 12 [(0, .v), (1, .v), (2, .v), (3, .v), (4, .v), (5, .v), (6, .v), (7, .v), (9, .v), (8, .e), (10, .v), (11, .v)] none ?_ trivial rfl (by kernel_rfl) (by kernel_rfl) (by kernel_rfl) c9 (by kernel_rfl) rfl
 repeat' (first|refine aC ?_|refine bh a4 ?_|(apply cK;refine da ?_)|fail)
 refine mE 0 (.int .i64 0) Tryz.underlying129 Tryz.underlying9 rfl rfl trivial rfl (by kernel_rfl) trivial ?_
 rw [iq]
 repeat' (first|refine aC ?_|refine bh a4 ?_|(apply cK;refine da ?_)|fail)
 refine bv [7, 8, 18] rfl rfl ?_
 repeat' (first|refine ae ?_|refine a5 ?_|refine a6 ?_|refine a7 a4 rfl rfl ?_|(apply bb;refine b4 ?_)|fail)
 exact ak rfl rfl ⟨rfl, rfl⟩
set_option maxHeartbeats 1000000 in
theorem uo (f : aM) (i : Nat) (t : bO) (m : Nat) : AC Tryz.prog 64 [az i, .agg (ca t), .iptr (bU f), .iptr [.sc (.map (some m))]] [(m, ce .string (bY (lb f)))] fun c L => c = az (jR f i t) ∧ L = [(m, ce .string (bY (lb f)))] := by
 refine aB Tryz.func64 rfl Tryz.ntmps64 rfl fun B => ?_
 repeat' (first|refine a8 ?_|refine a0 ?_|refine a5 ?_|refine a6 ?_|refine a7 a4 rfl rfl ?_|refine aX ?_|fail)
 refine bj 12 [(0, .v), (1, .v), (2, .v), (3, .v), (4, .v), (5, .v), (6, .v), (7, .v), (9, .v), (8, .e), (10, .v), (11, .v)] none ?_ trivial rfl (by kernel_rfl) (by kernel_rfl) (by kernel_rfl) c9 (by kernel_rfl) rfl
 repeat' (first|refine aC ?_|refine bh a4 ?_|(apply cK;refine da ?_)|fail)
 refine mE 0 (.int .i64 0) Tryz.underlying129 Tryz.underlying9 rfl rfl trivial rfl (by kernel_rfl) trivial ?_
 rw [iq]
 repeat' (first|refine aC ?_|refine bh a4 ?_|(apply cK;refine da ?_)|fail)
 refine bv [7, 8, 18] rfl rfl ?_
 repeat' (first|refine ae ?_|refine a5 ?_|refine a6 ?_|refine a7 a4 rfl rfl ?_|(apply bb;refine b4 ?_)|fail)
 exact ak rfl rfl ⟨rfl, rfl⟩
set_option maxHeartbeats 1000000 in
theorem u2 (f : aM) (i : Nat) (a : dY) (m : Nat) : AC Tryz.prog 68 [az i, .agg (ej a), .iptr [.sc (.map (some m))]] [(m, ce .string (bY (kG f)))] fun c L => c = az (jI f i a) ∧ L = [(m, ce .string (bY (kG f)))] := by
 refine aB Tryz.func68 rfl Tryz.ntmps68 rfl fun B => ?_
 repeat' (first|refine a8 ?_|refine a0 ?_|refine a5 ?_|refine a6 ?_|refine a7 a4 rfl rfl ?_|refine aX ?_|fail)
 refine bj 11 [(0, .v), (1, .v), (2, .v), (3, .v), (4, .v), (5, .v), (6, .v), (8, .v), (7, .e), (9, .v), (10, .v)] none ?_ trivial rfl (by kernel_rfl) (by kernel_rfl) (by kernel_rfl) c9 (by kernel_rfl) rfl
 repeat' (first|refine aC ?_|refine bh a4 ?_|(apply cK;refine da ?_)|fail)
 refine mE 0 (.int .i64 0) Tryz.underlying129 Tryz.underlying9 rfl rfl trivial rfl (by kernel_rfl) trivial ?_
 rw [iq]
 repeat' (first|refine aC ?_|refine bh a4 ?_|(apply cK;refine da ?_)|fail)
 refine bv [6, 16] rfl rfl ?_
 repeat' (first|refine ae ?_|refine a5 ?_|refine a6 ?_|refine a7 a4 rfl rfl ?_|(apply bb;refine b4 ?_)|fail)
 exact ak rfl rfl ⟨rfl, rfl⟩
end Go.Proofs.YtpmdfoaadejmkaaGreatDoor
