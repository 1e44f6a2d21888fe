/-
  An engine is made: the walk.
-/
import Derived.Test.YtpmdfoaadejmkaaGreatDoorM19
import Derived.Test.YtpmdfoaadejmkaaGreatDoorM13
import Derived.Test.YtpmdfoaadejmkaaGreatDoorM12
import Derived.Test.YtpmdfoaadejmkaaGreatDoorM18
import Derived.Test.YtpmdfoaadejmkaaGreatDoorM11
namespace Go.Proofs.YtpmdfoaadejmkaaGreatDoor
open Go.RowKit
attribute [local irreducible] AT bh AX AO Av Kt b6 di DA cC
structure zH (f : aN) : Prop where
 glyphs : 0 < f.Glyphs.length ∧ f.Glyphs.length ≤ 65536
 lookups : f.Lookups.length ≤ 1000000
 look : ∀ l ∈ f.Lookups, sQ f.Glyphs.length l
 rule : ∀ l ∈ f.Lookups, ∀ r ∈ l.Rules, zE r
structure Br (f : aN) (E : ma) : Prop where
 ls : E.lks.map (·.l) = f.Lookups
 ms : E.ms = f.Glyphs.map bb.Mark
 auto : ∀ e ∈ E.lks, 1 ≤ e.l.Kind → e.l.Kind ≤ 6 → i9 e
def D7 : Option i8 → List AV
 | none => [dh, dh, dh, dh, dh]
 | some a => Cx a
def Cl : i8 := ⟨[], [], [], [], []⟩
def C7 (l : aQ) (a : Option i8) (j : Nat) : List AV := [aA l.Kind, dx l.Ignore, .imm 6 ((ga l).Rules.map bI)] ++ D7 a ++ [aA (ee (l.Rules.take j)), aA (fy (l.Rules.take j))]
def uT (l : aQ) (a : i8) (j : Nat) : List AV := [aA l.Kind, dx l.Ignore, .imm 6 ((ga l).Rules.map bI), .imm 1 (aT a.cls), .imm 1 (b8 a.fore), .imm 1 (b8 a.back), .imm 1 (eJ a.foreE), .imm 1 (eJ a.backE), aA (ee (l.Rules.take j)), aA (fy (l.Rules.take j))]
theorem xc (l : aQ) (a : Option i8) (j : Nat) : nU (C7 l a j) (uT l (a.getD Cl) j) := by
 cases a with
 | none => exact ⟨dJ.refl _, dJ.refl _, dJ.refl _, dJ.nil 1, dJ.nil 1, dJ.nil 1, dJ.nil 1, dJ.nil 1, dJ.refl _, dJ.refl _, trivial⟩
 | some a => exact ⟨dJ.refl _, dJ.refl _, dJ.refl _, dJ.refl _, dJ.refl _, dJ.refl _, dJ.refl _, dJ.refl _, dJ.refl _, dJ.refl _, trivial⟩
theorem xd (l : aQ) (a : i8) : uT l a l.Rules.length = dO (yp l a) := by
 unfold uT
 rw [List.take_length]
 rfl
theorem rZ {rs : List aV} {j : Nat} {r : aV} (h : rs[j]? = some r) : ee (rs.take (j + 1)) = max (ee (rs.take j)) (r.In.length + r.Ahead.length) ∧ fy (rs.take (j + 1)) = max (fy (rs.take j)) r.Back.length := by
 unfold ee fy
 rw [List.take_add_one, h]
 constructor <;> simp
theorem wz {N : Nat} {rs : List aV} (h : ∀ r ∈ rs, pU N r) (j : Nat) : ee (rs.take j) ≤ 200 ∧ fy (rs.take j) ≤ 200 := ⟨fE (by omega) fun r hr => (h r (List.mem_of_mem_take hr)).long.2, fE (by omega) fun r hr => (h r (List.mem_of_mem_take hr)).long.1⟩
theorem uc (l : List Bool) (b : Bool) : kR l ++ [[dx b]] = kR (l ++ [b]) := by simp [kR]
set_option maxHeartbeats 16000000 in
theorem B9 (f : aN) (h : zH f) (hck : AC Tryz.prog 25 [cz f] [] fun c _ => ∃ n : Int, c = bL (0, n)) : AC Tryz.prog 15 [cz f] [] fun c _ => ∃ E, Br f E ∧ c = .tup [.iptr (da E), aA 0] := by
 refine aC Tryz.func15 rfl Tryz.ntmps15 rfl fun B => ?_
 have hgl : (f.Glyphs.map c7).length = f.Glyphs.length := Du ..
 have hll : (f.Lookups.map bo).length = f.Lookups.length := Du ..
 obtain ⟨hN0, hN⟩ := h.glyphs
 have hL := h.lookups
 repeat' (first|refine a9 ?_|refine a4 ?_|refine a6 ?_|refine a7 ?_|refine a8 a5 rfl rfl ?_|refine aZ ?_|fail)
 refine aO [] _ hck rfl rfl (Do _) rfl fun c1 L1 ⟨n0, hc1⟩ => ?_
 subst hc1
 refine aR (cf (List.sublist_append_right ..)) ?_
 unfold bL
 repeat' (first|refine a9 ?_|refine a4 ?_|refine ak ?_|refine ai ?_|refine a6 ?_|refine a7 ?_|refine a8 a5 rfl rfl ?_|refine x1 (d := 25) fun _=>?_|refine bC rfl ?_)
 rename_i eb
 refine cY (e9 0 (cs' := [.vec none 10 [], .vec none 1 []]) rfl fun σ vs hh => nU.vrs (a := [dh, dh]) (b := [.vec none 10 [], .vec none 1 []]) ⟨fun σ v h => eF 10 h, fun σ v h => eF 1 h, trivial⟩ hh) ?_
 refine aL [1, 6, 27, 28] (α := List m9 × Option (Nat × Nat)) (fun s => [(29, aA s.1.length)]) (fun s => s.1.length ≤ f.Lookups.length ∧ s.1.map (·.l) = f.Lookups.take s.1.length ∧ ∀ e ∈ s.1, 1 ≤ e.l.Kind → e.l.Kind ≤ 6 → i9 e) (fun s => (eb, .box [.vec s.2 10 (s.1.map dO), .vec none 1 []] 86) :: tok s.2 97 10 s.1.length) (fun s => f.Lookups.length - s.1.length) ([], none) rfl ⟨rfl, trivial⟩ ⟨Nat.zero_le _, rfl, fun e he => by cases he⟩ (fun _ _ hh => hh) ?_
 rintro ⟨es, q⟩ ⟨hk, hes, hau⟩
 dsimp only at hk hes hau ⊢
 try dsimp only [Ds, Dr, Dq, Dn]
 repeat' (first|refine a9 ?_|refine a4 ?_|refine a6 ?_|refine a7 ?_|refine a8 a5 rfl rfl ?_)
 refine ar rfl (fun h1 => ?_) (fun h1 => ?_)
 ·have hk2 : es.length < f.Lookups.length := by have := Dz h1; omega
  obtain ⟨l, hl⟩ : ∃ z, f.Lookups[es.length]? = some z := ⟨_, Bn hk2⟩
  have hlg : (f.Lookups.map bo)[es.length]? = some (bo l) := by simp [hl]
  have hlm := Dw hl
  have hbl := h.look l hlm
  have hfew := hbl.few
  haveI := AD.mk (qm l (by omega) (h.rule l hlm))
  have hbu := w6 f es.length l hl hbl hN0 hN
  have hrl : (l.Rules.map bI).length = l.Rules.length := Du ..
  clear h1
  repeat' (first|refine a9 ?_|refine a4 ?_|refine ak ?_|refine ai ?_|refine a6 ?_|refine a7 ?_|refine a8 a5 rfl rfl ?_|(apply aF; first|refine aE a5 ?_|refine aB a5 ?_)|(apply aP; first|refine aa 8 a5 0 rfl rfl rfl rfl rfl rfl rfl rfl ?_|refine aa 8 a5 1 rfl rfl rfl rfl rfl rfl rfl rfl ?_|refine aa 8 a5 2 rfl rfl rfl rfl rfl rfl rfl rfl ?_|refine aa 10 a5 0 rfl rfl rfl rfl rfl rfl rfl rfl ?_|refine aa 10 a5 1 rfl rfl rfl rfl rfl rfl rfl rfl ?_|refine aa 10 a5 2 rfl rfl rfl rfl rfl rfl rfl rfl ?_|refine aa 13 a5 0 rfl rfl rfl rfl rfl rfl rfl rfl ?_|refine aa 13 a5 1 rfl rfl rfl rfl rfl rfl rfl rfl ?_|refine aa 13 a5 2 rfl rfl rfl rfl rfl rfl rfl rfl ?_|refine aa 15 a5 0 rfl rfl rfl rfl rfl rfl rfl rfl ?_|refine aa 15 a5 1 rfl rfl rfl rfl rfl rfl rfl rfl ?_|refine aa 15 a5 2 rfl rfl rfl rfl rfl rfl rfl rfl ?_|refine ad a5 0 rfl rfl rfl rfl rfl rfl rfl ?_|refine ad a5 1 rfl rfl rfl rfl rfl rfl rfl ?_|refine ad a5 2 rfl rfl rfl rfl rfl rfl rfl ?_|refine ad a5 3 rfl rfl rfl rfl rfl rfl rfl ?_|fail)|refine b4 a5 fun _=>?_|(apply bc;refine b7 ?_)|fail)
  rename_i ob
  refine t3 (α := Option i8) [1, 6, 8, 9, 27, 28, 29] (fun _ => [(1, .iptr (bV f)), (6, ek eb), (8, .iptr (bo l)), (9, ek ob), (27, .imm 3 (f.Lookups.map bo)), (28, .sc (.int .i64 ((f.Lookups.map bo).length : Int))), (29, aA es.length)]) (fun a => (ob, .box (C7 l a 0) 97) :: (eb, .box [.vec q 10 (es.map dO), .vec none 1 []] 86) :: tok q 97 10 es.length) (fun a => 1 ≤ l.Kind → l.Kind ≤ 6 → ∃ a', a = some a' ∧ sR f.Glyphs.length l.Rules a') (fun Q' K => ?_) (fun a ha => ?_)
  ·refine ar rfl (fun h1 => ?_) (fun h1 => ?_)
   ·repeat' (first|refine a9 ?_|refine a4 ?_|refine a8 a5 rfl rfl ?_)
    refine aO [] _ hbu rfl rfl (Do _) rfl fun c1 L1 ⟨a, ha, hc1⟩ => ?_
    subst hc1
    refine aR (cf (List.sublist_append_right ..)) ?_
    repeat' (first|refine a9 ?_|refine a4 ?_|refine ai ?_|refine a6 ?_|refine a7 ?_|refine a8 a5 rfl rfl ?_|(apply aP; first|refine aa 8 a5 0 rfl rfl rfl rfl rfl rfl rfl rfl ?_|refine aa 8 a5 1 rfl rfl rfl rfl rfl rfl rfl rfl ?_|refine aa 8 a5 2 rfl rfl rfl rfl rfl rfl rfl rfl ?_|refine aa 10 a5 0 rfl rfl rfl rfl rfl rfl rfl rfl ?_|refine aa 10 a5 1 rfl rfl rfl rfl rfl rfl rfl rfl ?_|refine aa 10 a5 2 rfl rfl rfl rfl rfl rfl rfl rfl ?_|refine aa 13 a5 0 rfl rfl rfl rfl rfl rfl rfl rfl ?_|refine aa 13 a5 1 rfl rfl rfl rfl rfl rfl rfl rfl ?_|refine aa 13 a5 2 rfl rfl rfl rfl rfl rfl rfl rfl ?_|refine aa 15 a5 0 rfl rfl rfl rfl rfl rfl rfl rfl ?_|refine aa 15 a5 1 rfl rfl rfl rfl rfl rfl rfl rfl ?_|refine aa 15 a5 2 rfl rfl rfl rfl rfl rfl rfl rfl ?_|refine ad a5 0 rfl rfl rfl rfl rfl rfl rfl ?_|refine ad a5 1 rfl rfl rfl rfl rfl rfl rfl ?_|refine ad a5 2 rfl rfl rfl rfl rfl rfl rfl ?_|refine ad a5 3 rfl rfl rfl rfl rfl rfl rfl ?_|fail)|refine b4 a5 fun _=>?_|refine bC rfl ?_)
    exact K (some a) _ (fun _ _ => ⟨a, rfl, ha⟩) rfl
   ·repeat' (first|refine ai ?_)
    exact K none _ (fun h1' h6 => absurd (Dy h1) (fun hn => hn ⟨h1', h6⟩)) rfl
  ·have hA : 1 ≤ l.Kind → l.Kind ≤ 6 → sR f.Glyphs.length l.Rules (a.getD Cl) := fun h1 h6 => by
    obtain ⟨a', rfl, hb⟩ := ha h1 h6
    exact hb
   refine cY (e9 0 (cs' := uT l (a.getD Cl) 0) rfl fun σ vs hh => (xc l a 0).vrs hh) ?_
   generalize a.getD Cl = A at hA
   clear ha
   repeat' (first|refine a9 ?_|refine a4 ?_|refine ak ?_|refine a6 ?_|refine a7 ?_|refine a8 a5 rfl rfl ?_)
   refine aL [1, 6, 9, 27, 28, 29, 52, 53] (α := Nat) (fun j => [(54, aA j)]) (fun j => j ≤ l.Rules.length) (fun j => (ob, .box (uT l A j) 97) :: (eb, .box [.vec q 10 (es.map dO), .vec none 1 []] 86) :: tok q 97 10 es.length) (fun j => l.Rules.length - j) 0 rfl ⟨rfl, trivial⟩ (Nat.zero_le _) (fun _ _ hh => hh) fun j hj => ?_
   try dsimp only [Ds, Dr, Dq, Dn]
   repeat' (first|refine a9 ?_|refine a4 ?_|refine a6 ?_|refine a7 ?_|refine a8 a5 rfl rfl ?_)
   refine ar rfl (fun h1 => ?_) (fun h1 => ?_)
   ·have hj2 : j < l.Rules.length := by have := Dz h1; omega
    obtain ⟨r, hr⟩ : ∃ z, l.Rules[j]? = some z := ⟨_, Bn hj2⟩
    have hrg : (l.Rules.map bI)[j]? = some (bI r) := by simp [hr]
    have hlong := (hbl.rule r (Dw hr)).long
    have hl1 := bS r.In
    have hl2 := bS r.Ahead
    have hl3 := bS r.Back
    obtain ⟨hfb, hbb⟩ := wz hbl.rule j
    obtain ⟨hfs, hbs⟩ := rZ hr
    clear h1
    repeat' (first|refine a9 ?_|refine a4 ?_|refine ak ?_|refine ai ?_|refine a6 ?_|refine aH ?_|refine a7 ?_|refine a8 a5 rfl rfl ?_|(apply bE; first|refine aj a5 0 rfl rfl rfl rfl rfl ?_|refine aj a5 1 rfl rfl rfl rfl rfl ?_|refine aj a5 2 rfl rfl rfl rfl rfl ?_|refine aj a5 3 rfl rfl rfl rfl rfl ?_|refine ay a5 0 rfl rfl rfl rfl rfl ?_|refine ay a5 1 rfl rfl rfl rfl rfl ?_|refine ay a5 2 rfl rfl rfl rfl rfl ?_|refine aj a5 1 rfl rfl rfl (by assumption) rfl ?_|refine aj a5 0 rfl rfl rfl (by assumption) rfl ?_|fail)|(apply aU; refine aS ?_)|(apply aF; first|refine aE a5 ?_|refine aB a5 ?_)|(apply aP; first|refine aa 8 a5 0 rfl rfl rfl rfl rfl rfl rfl rfl ?_|refine aa 8 a5 1 rfl rfl rfl rfl rfl rfl rfl rfl ?_|refine aa 8 a5 2 rfl rfl rfl rfl rfl rfl rfl rfl ?_|refine aa 10 a5 0 rfl rfl rfl rfl rfl rfl rfl rfl ?_|refine aa 10 a5 1 rfl rfl rfl rfl rfl rfl rfl rfl ?_|refine aa 10 a5 2 rfl rfl rfl rfl rfl rfl rfl rfl ?_|refine aa 13 a5 0 rfl rfl rfl rfl rfl rfl rfl rfl ?_|refine aa 13 a5 1 rfl rfl rfl rfl rfl rfl rfl rfl ?_|refine aa 13 a5 2 rfl rfl rfl rfl rfl rfl rfl rfl ?_|refine aa 15 a5 0 rfl rfl rfl rfl rfl rfl rfl rfl ?_|refine aa 15 a5 1 rfl rfl rfl rfl rfl rfl rfl rfl ?_|refine aa 15 a5 2 rfl rfl rfl rfl rfl rfl rfl rfl ?_|refine ad a5 0 rfl rfl rfl rfl rfl rfl rfl ?_|refine ad a5 1 rfl rfl rfl rfl rfl rfl rfl ?_|refine ad a5 2 rfl rfl rfl rfl rfl rfl rfl ?_|refine ad a5 3 rfl rfl rfl rfl rfl rfl rfl ?_|fail)|refine b4 a5 fun _=>?_|fail)
    refine az (j + 1) rfl ⟨by rw [Dv]; rfl, trivial⟩ hj2 (by omega) (fun _ _ hh => ?_)
    have e1 : ((max (ee (l.Rules.take j)) (r.In.length + r.Ahead.length) : Nat) : Int) = max ((ee (l.Rules.take j) : Nat) : Int) (((b8 r.In).length : Int) + ((b8 r.Ahead).length : Int)) := by omega
    have e2 : ((max (fy (l.Rules.take j)) r.Back.length : Nat) : Int) = max ((fy (l.Rules.take j) : Nat) : Int) ((b8 r.Back).length : Int) := by omega
    unfold uT
    rw [hfs, hbs, e1, e2]
    exact hh
   ·have hj2 : j = l.Rules.length := by have := Dy h1; omega
    subst hj2
    rw [xd]
    clear h1
    have hel : (es.map dO).length = es.length := Du ..
    have hsn : es.map dO ++ [dO (yp l A)] = (es ++ [yp l A]).map dO := by rw [List.map_append]; rfl
    repeat' (first|refine aM ?_|refine a6 ?_|refine au ?_|refine aw ?_|refine av ?_)
    refine bk 8 [(0, .v), (1, .v), (2, .v), (3, .v), (4, .l), (5, .l), (6, .v), (7, .e)] none ?_ trivial rfl (by kernel_rfl) (by kernel_rfl) (by kernel_rfl) c9 (by kernel_rfl) rfl
    repeat' (first|refine aD ?_|refine bi a5 ?_|refine lF a5 ?_|refine bX a5 1 rfl rfl rfl rfl (by first|trivial|rfl) ?_|refine t9 a5 0 rfl rfl rfl rfl (by first|trivial|rfl) ?_)
    refine jV a5 [(ob, .box (dO (yp l A)) 97), (eb, .box [.vec q 10 (es.map dO), .vec none 1 []] 86)] rfl rfl rfl rfl (by rw [hel]; exact List.perm_append_comm (l₁ := [_, _])) (by rw [hel]; simp; omega) (by rw [hel]; simp; omega) trivial fun q' => ?_
    repeat' (first|fail)
    refine bz [1, 6, 27, 28, 29, 77, 84] rfl rfl ?_
    refine aR (aY (L' := (ob, .box (dO (yp l A)) 97) :: (eb, .box [.vec q 10 (es.map dO), .vec none 1 []] 86) :: tok q' 97 10 (es.map dO ++ [dO (yp l A)]).length) (List.perm_append_comm (l₂ := [_, _]))) ?_
    repeat' (first|refine a4 ?_|refine a6 ?_|refine aH ?_|refine a7 ?_|refine a8 a5 rfl rfl ?_|(apply aU; refine aS ?_)|(apply aP; first|refine aa 8 a5 0 rfl rfl rfl rfl rfl rfl rfl rfl ?_|refine aa 8 a5 1 rfl rfl rfl rfl rfl rfl rfl rfl ?_|refine aa 8 a5 2 rfl rfl rfl rfl rfl rfl rfl rfl ?_|refine aa 10 a5 0 rfl rfl rfl rfl rfl rfl rfl rfl ?_|refine aa 10 a5 1 rfl rfl rfl rfl rfl rfl rfl rfl ?_|refine aa 10 a5 2 rfl rfl rfl rfl rfl rfl rfl rfl ?_|refine aa 13 a5 0 rfl rfl rfl rfl rfl rfl rfl rfl ?_|refine aa 13 a5 1 rfl rfl rfl rfl rfl rfl rfl rfl ?_|refine aa 13 a5 2 rfl rfl rfl rfl rfl rfl rfl rfl ?_|refine aa 15 a5 0 rfl rfl rfl rfl rfl rfl rfl rfl ?_|refine aa 15 a5 1 rfl rfl rfl rfl rfl rfl rfl rfl ?_|refine aa 15 a5 2 rfl rfl rfl rfl rfl rfl rfl rfl ?_|refine ad a5 0 rfl rfl rfl rfl rfl rfl rfl ?_|refine ad a5 1 rfl rfl rfl rfl rfl rfl rfl ?_|refine ad a5 2 rfl rfl rfl rfl rfl rfl rfl ?_|refine ad a5 3 rfl rfl rfl rfl rfl rfl rfl ?_|fail))
    have hll2 : (es ++ [yp l A]).length = es.length + 1 := by simp
    refine az (es ++ [yp l A], q') rfl ⟨by dsimp only; rw [hll2, Dv]; rfl, trivial⟩ ⟨by dsimp only; omega, ?_, ?_⟩ (by dsimp only; omega) (fun σ w hh => ?_)
    ·dsimp only
     rw [List.map_append, hes, hll2, List.take_add_one, hl]
     rfl
    ·intro e he h1 h6
     rw [List.mem_append, List.mem_singleton] at he
     rcases he with he | rfl
     ·exact hau e he h1 h6
     ·exact yb hbl (hA h1 h6)
    ·have h2 := hh.sublist (List.sublist_cons_self ..)
     rw [hsn, Du] at h2
     dsimp only
     rw [← hsn]
     exact h2
 ·have hk2 : es.length = f.Lookups.length := by have := Dy h1; omega
  rw [hk2, List.take_length] at hes
  clear h1
  repeat' (first|refine a9 ?_|refine a4 ?_|refine ak ?_|refine aM ?_|refine a6 ?_|refine au ?_|refine aw ?_|refine av ?_|refine a7 ?_|refine a8 a5 rfl rfl ?_)
  refine aL [6, 89, 90] (α := Nat × Option (Nat × Nat)) (fun s => [(91, aA s.1)]) (fun s => s.1 ≤ f.Glyphs.length) (fun s => (eb, .box [.vec q 10 (es.map dO), .vec s.2 1 (kR ((f.Glyphs.map bb.Mark).take s.1))] 86) :: (tok q 97 10 es.length ++ tok s.2 4 1 s.1)) (fun s => f.Glyphs.length - s.1) (0, none) rfl ⟨rfl, trivial⟩ (Nat.zero_le _) (fun σ w hh => by show cm B σ ((eb, .box [.vec q 10 (es.map dO), .vec none 1 []] 86) :: (tok q 97 10 es.length ++ [])) w; rw [List.append_nil]; exact hh) ?_
  rintro ⟨k, q2⟩ hk3
  dsimp only at hk3 ⊢
  try dsimp only [Ds, Dr, Dq, Dn]
  repeat' (first|refine a9 ?_|refine a4 ?_|refine a6 ?_|refine a7 ?_|refine a8 a5 rfl rfl ?_)
  refine ar rfl (fun h1 => ?_) (fun h1 => ?_)
  ·have hk4 : k < f.Glyphs.length := by have := Dz h1; omega
   obtain ⟨g, hg⟩ : ∃ z, f.Glyphs[k]? = some z := ⟨_, Bn hk4⟩
   have hgg : (f.Glyphs.map c7)[k]? = some (c7 g) := by simp [hg]
   have hbl : (kR ((f.Glyphs.map bb.Mark).take k)).length = k := by rw [qh, List.length_take, Du]; omega
   have hbs : (f.Glyphs.map bb.Mark).take (k + 1) = (f.Glyphs.map bb.Mark).take k ++ [g.Mark] := by rw [List.take_add_one, List.getElem?_map, hg]; rfl
   have hsn := uc ((f.Glyphs.map bb.Mark).take k) g.Mark
   rw [← hbs] at hsn
   generalize kR ((f.Glyphs.map bb.Mark).take k) = bl at *
   clear h1
   repeat' (first|refine a9 ?_|refine a4 ?_|refine ak ?_|refine ai ?_|refine a6 ?_|refine a7 ?_|refine a8 a5 rfl rfl ?_|(apply aF; first|refine aE a5 ?_|refine aB a5 ?_)|(apply aP; first|refine aa 8 a5 0 rfl rfl rfl rfl rfl rfl rfl rfl ?_|refine aa 8 a5 1 rfl rfl rfl rfl rfl rfl rfl rfl ?_|refine aa 8 a5 2 rfl rfl rfl rfl rfl rfl rfl rfl ?_|refine aa 10 a5 0 rfl rfl rfl rfl rfl rfl rfl rfl ?_|refine aa 10 a5 1 rfl rfl rfl rfl rfl rfl rfl rfl ?_|refine aa 10 a5 2 rfl rfl rfl rfl rfl rfl rfl rfl ?_|refine aa 13 a5 0 rfl rfl rfl rfl rfl rfl rfl rfl ?_|refine aa 13 a5 1 rfl rfl rfl rfl rfl rfl rfl rfl ?_|refine aa 13 a5 2 rfl rfl rfl rfl rfl rfl rfl rfl ?_|refine aa 15 a5 0 rfl rfl rfl rfl rfl rfl rfl rfl ?_|refine aa 15 a5 1 rfl rfl rfl rfl rfl rfl rfl rfl ?_|refine aa 15 a5 2 rfl rfl rfl rfl rfl rfl rfl rfl ?_|refine ad a5 0 rfl rfl rfl rfl rfl rfl rfl ?_|refine ad a5 1 rfl rfl rfl rfl rfl rfl rfl ?_|refine ad a5 2 rfl rfl rfl rfl rfl rfl rfl ?_|refine ad a5 3 rfl rfl rfl rfl rfl rfl rfl ?_|fail)|refine b4 a5 fun _=>?_|fail)
   refine bk 9 [(0, .v), (1, .v), (2, .v), (3, .v), (4, .l), (5, .v), (6, .v), (7, .v), (8, .e)] none ?_ trivial rfl (by kernel_rfl) (by kernel_rfl) (by kernel_rfl) c9 (by kernel_rfl) rfl
   repeat' (first|refine aD ?_|refine bi a5 ?_|refine lF a5 ?_|refine bX a5 0 rfl rfl rfl rfl (by first|trivial|rfl) ?_)
   refine jV a5 ((eb, .box [.vec q 10 (es.map dO), .vec q2 1 bl] 86) :: tok q 97 10 es.length) rfl rfl rfl rfl (by rw [hbl]; exact (List.perm_append_comm (l₁ := _ :: tok q 97 10 es.length))) (by rw [hbl]; simp; omega) (by rw [hbl]; simp; omega) trivial fun q' => ?_
   repeat' (first|fail)
   refine bz [6, 89, 90, 91, 95, 103] rfl rfl ?_
   refine aR (aY (L' := (eb, .box [.vec q 10 (es.map dO), .vec q2 1 bl] 86) :: (tok q 97 10 es.length ++ tok q' 4 1 (k + 1))) (by rw [List.length_append, hbl]; exact (List.perm_append_comm (l₂ := _ :: tok q 97 10 es.length)))) ?_
   repeat' (first|refine a4 ?_|refine a6 ?_|refine aH ?_|refine a7 ?_|refine a8 a5 rfl rfl ?_|(apply aU; refine aS ?_)|(apply aP; first|refine aa 8 a5 0 rfl rfl rfl rfl rfl rfl rfl rfl ?_|refine aa 8 a5 1 rfl rfl rfl rfl rfl rfl rfl rfl ?_|refine aa 8 a5 2 rfl rfl rfl rfl rfl rfl rfl rfl ?_|refine aa 10 a5 0 rfl rfl rfl rfl rfl rfl rfl rfl ?_|refine aa 10 a5 1 rfl rfl rfl rfl rfl rfl rfl rfl ?_|refine aa 10 a5 2 rfl rfl rfl rfl rfl rfl rfl rfl ?_|refine aa 13 a5 0 rfl rfl rfl rfl rfl rfl rfl rfl ?_|refine aa 13 a5 1 rfl rfl rfl rfl rfl rfl rfl rfl ?_|refine aa 13 a5 2 rfl rfl rfl rfl rfl rfl rfl rfl ?_|refine aa 15 a5 0 rfl rfl rfl rfl rfl rfl rfl rfl ?_|refine aa 15 a5 1 rfl rfl rfl rfl rfl rfl rfl rfl ?_|refine aa 15 a5 2 rfl rfl rfl rfl rfl rfl rfl rfl ?_|refine ad a5 0 rfl rfl rfl rfl rfl rfl rfl ?_|refine ad a5 1 rfl rfl rfl rfl rfl rfl rfl ?_|refine ad a5 2 rfl rfl rfl rfl rfl rfl rfl ?_|refine ad a5 3 rfl rfl rfl rfl rfl rfl rfl ?_|fail))
   exact az (k + 1, q') rfl ⟨by rw [Dv]; rfl, trivial⟩ hk4 (by dsimp only; omega) (fun _ _ hh => by dsimp only; rw [← hsn]; exact hh)
  ·have hk4 : k = f.Glyphs.length := by have := Dy h1; omega
   subst hk4
   rw [List.take_of_length_le (by rw [Du]; exact Nat.le_refl _)]
   clear h1
   repeat' (first|refine a9 ?_|refine a4 ?_|refine ah ?_|refine aM ?_|refine a6 ?_|refine au ?_|refine aw ?_|refine av ?_|refine a7 ?_|refine a8 a5 rfl rfl ?_)
   refine bB (e9 0 (cs' := da ⟨es, f.Glyphs.map bb.Mark⟩) rfl fun σ vs hh => nU.vrs (a := [.vec q 10 (es.map dO), .vec q2 1 (kR (f.Glyphs.map bb.Mark))]) (b := da ⟨es, f.Glyphs.map bb.Mark⟩) ⟨fun σ v h => VR.im h, fun σ v h => VR.im h, trivial⟩ hh) ?_
   refine bB (ri (t := 2) (cs := da ⟨es, f.Glyphs.map bb.Mark⟩) 0 rfl rfl rfl) ?_
   refine dk (List.nil_sublist _) ?_
   exact aK rfl rfl rfl ⟨⟨es, f.Glyphs.map bb.Mark⟩, ⟨hes, rfl, hau⟩, rfl⟩
def dK : Nat → List Int → List aG
 | _, [] => []
 | i, g :: l => ⟨g, i, 0, 0, 0, 0⟩ :: dK (i + 1) l
def cN (l : List Int) : List aG := dK 0 l
def f8 : List Bool := [false, false, false, false, true]
def ox (ig : Bool) : List aQ := [⟨3, ig, [⟨[], [[0], [1]], [], [2], [], 0⟩]⟩]
def d4 (a b c : Nat) : List Int := List.replicate a 4 ++ 0 :: (List.replicate b 4 ++ 1 :: List.replicate c 4)
def cE (a b c : Nat) (ig : Bool) : List Int := if 0 < b ∧ ig = false then d4 a b c else List.replicate a 4 ++ 2 :: (List.replicate b 4 ++ List.replicate c 4)
def pf (a b c : Nat) (ig : Bool) : Bool :=
 let out := d8 f8 (ox ig) 0 (cN (d4 a b c)) []
 (out.map aG.Glyph == cE a b c ig) && (decide ((cE a b c ig).length = (d4 a b c).length) || (match out[a]? with | some x => decide (x.Cluster = a) | none => false))
def yY : Bool := (List.range 8).all fun a => (List.range 8).all fun b => (List.range 8).all fun c => pf a b c true && pf a b c false
theorem pe : yY = true := by decide +kernel
def C9 : aV := ⟨[], [[0]], [[1]], [1], [], 0⟩
def z6 : List aQ := [⟨5, false, [C9]⟩, ⟨1, false, [C9]⟩]
def xk (n : Nat) : List Int := List.replicate n 0 ++ [1]
def Bh (n : Nat) : List Int := (List.range (n + 1)).map fun (k : Nat) => if (n : Int) - 1 ≤ (k : Int) then (1 : Int) else 0
def Df (n : Nat) : Bool := ((d8 f8 z6 0 (cN (xk n)) []).map aG.Glyph == List.replicate (n + 1) 1) && ((d8 f8 z6 1 (cN (xk n)) []).map aG.Glyph == Bh n)
def BN (k : Nat) : List aQ := [⟨4, false, [⟨[], [[0]], [], [], [⟨0, 1⟩, ⟨0, 2⟩, ⟨0, 0⟩], 0⟩]⟩, ⟨1, false, [⟨[], [[0]], [], [2], [], 0⟩]⟩, ⟨2, false, [⟨[], [[2]], [], List.replicate k 1, [], 0⟩]⟩]
def CX (n k : Nat) : Bool :=
 let out := d8 f8 (BN k) 0 (cN (List.replicate n 0)) []
 if k = 0 then decide (out.length < n) else out.map aG.Glyph == List.replicate (n * k) 1
end Go.Proofs.YtpmdfoaadejmkaaGreatDoor
namespace Go.Proofs.YtpmdfoaadejmkaaGreatDoor
open Go.RowKit
attribute [local irreducible] AT bh AX AO Av Kt b6 di DA cC
open Go.MapKept
section
variable {P : Program} {r : Option Nat} {ops : Array Oper} {Q : Exit → Act → World → Prop} {nt : Nat} {D : List Deferred} {fr : bw} {B : Bs} {L : AL} {rest : List Oper} {d : Nat} {ty t : TypeId} {pos : String} {af : Array Edge} {x y z : Operand} {u : AV} {cd : Code}
theorem gn {f : FuncId} {args : Array Operand} {ts : Array TypeId} {cs caps : List AV} {v : AV} [bj P f] (hc : bn P f (cs ++ caps) v) (hx : aX fr x = some u) (hu : i5 u = some (f, caps)) (hv : dC fr args.toList = some cs) (hn : Oper.noDefer ⟨some d, .call ⟨.value x, args, ts⟩, ty, pos, af, none⟩ = true) (hd : Nat.ble nt d = false) (h : bh P r ops Q nt D rest ((d, v) :: fr) B L) :
  bh P r ops Q nt D (⟨some d, .call ⟨.value x, args, ts⟩, ty, pos, af, none⟩ :: rest) fr B L :=
 cH [] L hc hx hu hv (Do _) hn hd fun c L1 hc => by
  have hc' : c = v := hc
  subst hc'
  exact aR (cf (List.sublist_append_right ..)) h
theorem ya (t : Nat) {u : AV} {s : Nat} {l : List (List AV)} (hl : bF fr t = some u) (hu : i6 u = some (s, l)) (h : l.length ≤ 9223372036854775807 → bh P r ops Q nt D rest fr B L) : bh P r ops Q nt D rest fr B L :=
 y9 (fun σ a w ha _ => (wK (ha.look t u hl) hu).1) h
end
def tu (t : bQ) (i : Nat) (l : Int) : Bool := match i with | 0 => false | j + 1 => match t.Lookups[j]? with | some b => decide (l ≤ b) | none => false
def mi (f : aN) (t : bQ) (i : Nat) (l : Int) : Int := d6 (decide (l < 0 ∨ l ≥ f.Lookups.length) || tu t i l) 43
set_option maxHeartbeats 1000000 in
theorem uu (f : aN) (t : bQ) (i : Nat) (l : Int) (hl : t.Lookups[i]? = some l) (hn : t.Lookups.length ≤ 9223372036854775807) : bn Tryz.prog 144 [aA i, aA l, .iptr (bV f), .iptr (ca t)] (aA (mi f t i l)) := by
 refine aC Tryz.func144 rfl Tryz.ntmps144 rfl fun B => ?_
 have hil := (Dp hl).1
 unfold mi
 cases i with
 | zero =>
  repeat' (first|refine a9 ?_|refine a4 ?_|refine a6 ?_|refine a7 ?_|refine a8 a5 rfl rfl ?_)
  refine cA (t := 7) [] (l < 0 ∨ l ≥ f.Lookups.length) rfl (fun Q' K => ?_) ?_
  ·repeat' (first|refine a7 ?_|refine a8 a5 rfl rfl ?_|refine am rfl rfl ?_|refine ax rfl rfl rfl rfl ?_|refine cW rfl rfl rfl ?_|refine aI rfl rfl rfl (fun _ => ?_) (fun _ => ?_))
   all_goals exact K _ _ rfl rfl (by clear K; simp_all <;> omega)
  repeat' (first|refine a9 ?_|refine a4 ?_|refine ah ?_|refine a6 ?_|refine a7 ?_|refine a8 a5 rfl rfl ?_|(apply bc;refine b7 ?_)|fail)
  refine an rfl rfl ?_
  simp [tu]
 | succ j =>
  obtain ⟨b, hb⟩ : ∃ b, t.Lookups[j]? = some b := ⟨_, Bn (by omega)⟩
  have hbg : (aT t.Lookups)[(((j + 1 : Nat) : Int) - 1).toNat]? = some [aA b] := by rw [show (((j + 1 : Nat) : Int) - 1).toNat = j by omega]; exact bJ hb
  have hlt : tu t (j + 1) l = decide (l ≤ b) := by simp [tu, hb]
  have hpos : decide (0 < ((j + 1 : Nat) : Int)) = true := decide_eq_true (by omega)
  rw [hlt]
  repeat' (first|refine a9 ?_|refine a4 ?_|refine a6 ?_|refine a7 ?_|refine a8 a5 rfl rfl ?_)
  refine cA (t := 7) [] ((l < 0 ∨ l ≥ f.Lookups.length) ∨ l ≤ b) rfl (fun Q' K => ?_) ?_
  ·repeat' (first|refine a7 ?_|refine a8 a5 rfl rfl ?_|refine am rfl rfl ?_|refine ax rfl rfl rfl rfl ?_|refine cW rfl rfl rfl ?_|(apply aU; refine aS ?_)|(apply aF; first|refine aE a5 ?_|refine aB a5 ?_)|refine aI rfl rfl rfl (fun _ => ?_) (fun _ => ?_))
   all_goals exact K _ _ rfl rfl (by clear K; simp_all <;> omega)
  repeat' (first|refine a9 ?_|refine a4 ?_|refine ah ?_|refine a6 ?_|refine a7 ?_|refine a8 a5 rfl rfl ?_|(apply bc;refine b7 ?_)|fail)
  refine an rfl rfl ?_
  rw [Bool.decide_or]
def tg (f : aN) (t : bQ) (name : Int) : Int := if name ≠ 0 then name else (co t.Lookups (mi f t)).1
theorem qz (f : aN) (t : bQ) (name : Int) : bn Tryz.prog 65 [cz f, .agg (ca t), aA name] (aA (tg f t name)) := by
 refine aC Tryz.func65 rfl Tryz.ntmps65 rfl fun B => ?_
 unfold tg
 repeat' (first|refine a9 ?_|refine a4 ?_|refine a6 ?_|refine a7 ?_|refine a8 a5 rfl rfl ?_|refine aZ ?_|fail)
 refine ar rfl (fun h => ?_) (fun h => ?_)
 ·rw [if_pos (Dz h)]
  repeat' (first|refine a9 ?_|refine a4 ?_|refine ah ?_|refine a6 ?_|refine aq ?_|refine a7 ?_|refine a8 a5 rfl rfl ?_)
  exact an rfl rfl rfl
 rw [if_neg (Dy h)]
 repeat' (first|refine a9 ?_|refine a4 ?_|refine ai ?_|refine a6 ?_|refine a8 a5 rfl rfl ?_)
 refine ya 14 rfl rfl fun hlen => ?_
 rw [aW] at hlen
 refine aO [] [] (jW (u := .fn 144 [.iptr (bV f), .iptr (ca t)]) (g := 144) rfl t.Lookups _ (fun _ _ => True) [] trivial (ct (fun i x hx => uu f t i x hx (by omega)))) rfl rfl (Do _) rfl fun c L1 hc => ?_
 have hc : c = bL (co t.Lookups (mi f t)) := hc
 subst hc
 unfold bL
 repeat' (first|refine a9 ?_|refine a4 ?_|refine ah ?_|refine a6 ?_|refine a7 ?_|refine a8 a5 rfl rfl ?_)
 exact an rfl rfl rfl
instance (f : aN) (t : bQ) (name : Int) : AD Tryz.prog 65 [cz f, .agg (ca t), aA name] (aA (tg f t name)) := ⟨qz f t name⟩
def cv (names : List ByteArray) (s : ByteArray) : Option Nat := names.findIdx? (fun x => decide (x = s))
def bZ (names : List ByteArray) (v : Value) : Option AV := match v with
 | .string s => (cv names s).map fun (n : Nat) => aA (n : Int)
 | _ => none
theorem gM {names : List ByteArray} {i : Nat} {s : ByteArray} (h : names[i]? = some s) (q : ByteArray) : cv (names.take (i + 1)) q = match cv (names.take i) q with | some n => some n | none => if s = q then some i else none := by
 unfold cv
 have hlt := (Dp h).1
 have hlen : (names.take i).length = i := by rw [List.length_take]; omega
 rw [List.take_add_one, h, Option.toList_some, List.findIdx?_append, hlen]
 cases List.findIdx? (fun x => decide (x = q)) (names.take i) with
 | some n => rfl
 | none =>
  by_cases e : s = q
  ·simp [e]
  ·simp [e]
theorem jv : bZ [] = fun _ => none := by
 funext v
 cases v <;> rfl
theorem iw {names : List ByteArray} {s : ByteArray} : (bZ names (.string s)).isSome = (cv names s).isSome := by
 show (Option.map (fun n : Nat => aA (n : Int)) (cv names s)).isSome = _
 cases cv names s <;> rfl
theorem gN {names : List ByteArray} {i : Nat} {s : ByteArray} (h : names[i]? = some s) (hk : (cv (names.take i) s).isSome = true) : bZ (names.take (i + 1)) = bZ (names.take i) := by
 funext v
 cases v with
 | string q =>
  simp only [bZ]
  rw [gM h]
  cases hq : cv (names.take i) q with
  | some n => rfl
  | none =>
   by_cases e : s = q
   ·subst e; rw [hq] at hk; cases hk
   ·simp [e]
 | _ => rfl
theorem iv {names : List ByteArray} {i : Nat} {s : ByteArray} (h : names[i]? = some s) (hk : (cv (names.take i) s).isSome = false) : bZ (names.take (i + 1)) (.string s) = some (aA i) := by
 simp only [bZ]
 rw [gM h]
 cases hq : cv (names.take i) s with
 | some n => rw [hq] at hk; cases hk
 | none => simp
theorem gO {names : List ByteArray} {i : Nat} {s : ByteArray} (h : names[i]? = some s) (q : Value) (hne : q ≠ .string s) : bZ (names.take (i + 1)) q = bZ (names.take i) q := by
 cases q with
 | string q =>
  have hne' : s ≠ q := fun e => hne (by rw [e])
  simp only [bZ]
  rw [gM h]
  cases hq : cv (names.take i) q with
  | some n => rfl
  | none => simp [hne']
 | _ => rfl
theorem n8 (g : bb) : bn Tryz.prog 42 [.agg (c7 g)] (vy g.Name) := by
 refine aC Tryz.func42 rfl Tryz.ntmps42 rfl fun B => ?_
 repeat' (first|refine a9 ?_|refine a4 ?_|refine ah ?_|refine a6 ?_|refine a7 ?_|refine a8 a5 rfl rfl ?_|refine aZ ?_|fail)
 exact an rfl rfl rfl
theorem n9 (g : bQ) : bn Tryz.prog 44 [.agg (ca g)] (vy g.Name) := by
 refine aC Tryz.func44 rfl Tryz.ntmps44 rfl fun B => ?_
 repeat' (first|refine a9 ?_|refine a4 ?_|refine ah ?_|refine a6 ?_|refine a7 ?_|refine a8 a5 rfl rfl ?_|refine aZ ?_|fail)
 exact an rfl rfl rfl
theorem na (g : ea) : bn Tryz.prog 46 [.agg (ep g)] (vy g.Name) := by
 refine aC Tryz.func46 rfl Tryz.ntmps46 rfl fun B => ?_
 repeat' (first|refine a9 ?_|refine a4 ?_|refine ah ?_|refine a6 ?_|refine a7 ?_|refine a8 a5 rfl rfl ?_|refine aZ ?_|fail)
 exact an rfl rfl rfl
set_option maxHeartbeats 1000000 in
theorem wu (l : List bb) : AC Tryz.prog 41 [.imm 9 (l.map c7), .sc (.func (.func 42) #[] #[])] [] fun c L => ∃ m, c = .sc (.map (some m)) ∧ L = [(m, cg .string (bZ (l.map bb.Name)))] := by
 refine aC Tryz.func41 rfl Tryz.ntmps41 rfl fun B => ?_
 refine ci 0 rfl rfl fun hlen => ?_
 rw [Du] at hlen
 repeat' (first|refine a9 ?_|refine a4 ?_|refine a6 ?_|refine a7 ?_|refine a8 a5 rfl rfl ?_)
 refine eg .string fun m => ?_
 repeat' (first|refine a9 ?_|refine a4 ?_|refine ak ?_|refine a6 ?_|refine a7 ?_|refine a8 a5 rfl rfl ?_)
 refine aL [1, 5, 11, 12] (α := Nat) (fun i => [(13, aA i)]) (fun i => i ≤ l.length) (fun i => [(m, cg .string (bZ ((l.map bb.Name).take i)))]) (fun i => l.length - i) 0 rfl ⟨rfl, trivial⟩ (Nat.zero_le _) (fun _ _ h => by rw [List.take_zero, jv]; exact h) fun i hi => ?_
 try dsimp only [Ds, Dr, Dq, Dn]
 repeat' (first|refine a9 ?_|refine a4 ?_|refine a6 ?_|refine a7 ?_|refine a8 a5 rfl rfl ?_)
 refine ar rfl (fun h => ?_) (fun h => ?_)
 ·have hil : i < l.length := by have := Dz h; simp at this; omega
  obtain ⟨z, hz⟩ : ∃ z, l[i]? = some z := ⟨_, Bn hil⟩
  have hzg := bW (c := c7) hz
  have hzn : (l.map bb.Name)[i]? = some z.Name := by rw [List.getElem?_map, hz]; rfl
  repeat' (first|refine a9 ?_|refine a4 ?_|refine ak ?_|refine ai ?_|refine a6 ?_|refine a7 ?_|refine a8 a5 rfl rfl ?_|(apply aF; first|refine aE a5 ?_|refine aB a5 ?_)|(apply aP; first|refine aa 7 a5 0 rfl rfl rfl rfl rfl rfl rfl rfl ?_|refine aa 7 a5 1 rfl rfl rfl rfl rfl rfl rfl rfl ?_|refine aa 7 a5 2 rfl rfl rfl rfl rfl rfl rfl rfl ?_|refine ad a5 0 rfl rfl rfl rfl rfl rfl rfl ?_|refine ad a5 1 rfl rfl rfl rfl rfl rfl rfl ?_|refine ad a5 2 rfl rfl rfl rfl rfl rfl rfl ?_|refine ad a5 3 rfl rfl rfl rfl rfl rfl rfl ?_|fail)|refine b4 a5 fun _=>?_|fail)
  refine gn (cs := [.agg (c7 z)]) (caps := []) (n8 z) rfl rfl rfl rfl rfl ?_
  repeat' (first|fail)
  refine fq 0 (.int .i64 0) Tryz.underlying129 Tryz.underlying9 rfl rfl trivial rfl (by kernel_rfl) rfl ?_
  rw [iw]
  repeat' (first|refine a9 ?_|refine a4 ?_|refine a6 ?_|refine a7 ?_|refine a8 a5 rfl rfl ?_)
  refine ar rfl (fun h2 => ?_) (fun h2 => ?_)
  ·have h2' : (cv ((l.map bb.Name).take i) z.Name).isSome = false := by simpa using h2
   repeat' (first|refine a4 ?_|refine a8 a5 rfl rfl ?_)
   refine gn (cs := [.agg (c7 z)]) (caps := []) (n8 z) rfl rfl rfl rfl rfl ?_
   repeat' (first|refine a8 a5 rfl rfl ?_)
   refine d5 0 (bZ ((l.map bb.Name).take (i + 1))) Tryz.underlying129 Tryz.underlying9 rfl rfl trivial rfl rfl (iv hzn h2') (gO hzn) ?_
   repeat' (first|refine a4 ?_|refine a6 ?_|refine aH ?_|refine a7 ?_|refine a8 a5 rfl rfl ?_|(apply aU; refine aS ?_)|fail)
   exact az (i + 1) rfl ⟨by rw [Dv]; rfl, trivial⟩ (by omega) (by omega) (fun _ _ h => h)
  ·have h2' : (cv ((l.map bb.Name).take i) z.Name).isSome = true := by simpa using h2
   repeat' (first|refine a4 ?_|refine ai ?_|refine a6 ?_|refine aH ?_|refine a7 ?_|refine a8 a5 rfl rfl ?_|(apply aU; refine aS ?_)|fail)
   exact az (i + 1) rfl ⟨by rw [Dv]; rfl, trivial⟩ (by omega) (by omega) (fun _ _ h => by rw [gN hzn h2']; exact h)
 ·have hil : i = l.length := by have := Dy h; simp at this; omega
  subst hil
  rw [List.take_of_length_le (by simp)]
  repeat' (first|refine a9 ?_|refine a4 ?_|refine ah ?_|refine aM ?_|refine a6 ?_|refine au ?_|refine aw ?_|refine av ?_|refine a7 ?_|refine a8 a5 rfl rfl ?_)
  exact an rfl rfl ⟨_, rfl, rfl⟩
set_option maxHeartbeats 1000000 in
theorem wv (l : List bQ) : AC Tryz.prog 43 [.imm 2 (l.map ca), .sc (.func (.func 44) #[] #[])] [] fun c L => ∃ m, c = .sc (.map (some m)) ∧ L = [(m, cg .string (bZ (l.map bQ.Name)))] := by
 refine aC Tryz.func43 rfl Tryz.ntmps43 rfl fun B => ?_
 refine ci 0 rfl rfl fun hlen => ?_
 rw [Du] at hlen
 repeat' (first|refine a9 ?_|refine a4 ?_|refine a6 ?_|refine a7 ?_|refine a8 a5 rfl rfl ?_)
 refine eg .string fun m => ?_
 repeat' (first|refine a9 ?_|refine a4 ?_|refine ak ?_|refine a6 ?_|refine a7 ?_|refine a8 a5 rfl rfl ?_)
 refine aL [1, 5, 11, 12] (α := Nat) (fun i => [(13, aA i)]) (fun i => i ≤ l.length) (fun i => [(m, cg .string (bZ ((l.map bQ.Name).take i)))]) (fun i => l.length - i) 0 rfl ⟨rfl, trivial⟩ (Nat.zero_le _) (fun _ _ h => by rw [List.take_zero, jv]; exact h) fun i hi => ?_
 try dsimp only [Ds, Dr, Dq, Dn]
 repeat' (first|refine a9 ?_|refine a4 ?_|refine a6 ?_|refine a7 ?_|refine a8 a5 rfl rfl ?_)
 refine ar rfl (fun h => ?_) (fun h => ?_)
 ·have hil : i < l.length := by have := Dz h; simp at this; omega
  obtain ⟨z, hz⟩ : ∃ z, l[i]? = some z := ⟨_, Bn hil⟩
  have hzg := bW (c := ca) hz
  have hzn : (l.map bQ.Name)[i]? = some z.Name := by rw [List.getElem?_map, hz]; rfl
  repeat' (first|refine a9 ?_|refine a4 ?_|refine ak ?_|refine ai ?_|refine a6 ?_|refine a7 ?_|refine a8 a5 rfl rfl ?_|(apply aF; first|refine aE a5 ?_|refine aB a5 ?_)|(apply aP; first|refine aa 7 a5 0 rfl rfl rfl rfl rfl rfl rfl rfl ?_|refine aa 7 a5 1 rfl rfl rfl rfl rfl rfl rfl rfl ?_|refine aa 7 a5 2 rfl rfl rfl rfl rfl rfl rfl rfl ?_|refine ad a5 0 rfl rfl rfl rfl rfl rfl rfl ?_|refine ad a5 1 rfl rfl rfl rfl rfl rfl rfl ?_|refine ad a5 2 rfl rfl rfl rfl rfl rfl rfl ?_|refine ad a5 3 rfl rfl rfl rfl rfl rfl rfl ?_|fail)|refine b4 a5 fun _=>?_|fail)
  refine gn (cs := [.agg (ca z)]) (caps := []) (n9 z) rfl rfl rfl rfl rfl ?_
  repeat' (first|fail)
  refine fq 0 (.int .i64 0) Tryz.underlying129 Tryz.underlying9 rfl rfl trivial rfl (by kernel_rfl) rfl ?_
  rw [iw]
  repeat' (first|refine a9 ?_|refine a4 ?_|refine a6 ?_|refine a7 ?_|refine a8 a5 rfl rfl ?_)
  refine ar rfl (fun h2 => ?_) (fun h2 => ?_)
  ·have h2' : (cv ((l.map bQ.Name).take i) z.Name).isSome = false := by simpa using h2
   repeat' (first|refine a4 ?_|refine a8 a5 rfl rfl ?_)
   refine gn (cs := [.agg (ca z)]) (caps := []) (n9 z) rfl rfl rfl rfl rfl ?_
   repeat' (first|refine a8 a5 rfl rfl ?_)
   refine d5 0 (bZ ((l.map bQ.Name).take (i + 1))) Tryz.underlying129 Tryz.underlying9 rfl rfl trivial rfl rfl (iv hzn h2') (gO hzn) ?_
   repeat' (first|refine a4 ?_|refine a6 ?_|refine aH ?_|refine a7 ?_|refine a8 a5 rfl rfl ?_|(apply aU; refine aS ?_)|fail)
   exact az (i + 1) rfl ⟨by rw [Dv]; rfl, trivial⟩ (by omega) (by omega) (fun _ _ h => h)
  ·have h2' : (cv ((l.map bQ.Name).take i) z.Name).isSome = true := by simpa using h2
   repeat' (first|refine a4 ?_|refine ai ?_|refine a6 ?_|refine aH ?_|refine a7 ?_|refine a8 a5 rfl rfl ?_|(apply aU; refine aS ?_)|fail)
   exact az (i + 1) rfl ⟨by rw [Dv]; rfl, trivial⟩ (by omega) (by omega) (fun _ _ h => by rw [gN hzn h2']; exact h)
 ·have hil : i = l.length := by have := Dy h; simp at this; omega
  subst hil
  rw [List.take_of_length_le (by simp)]
  repeat' (first|refine a9 ?_|refine a4 ?_|refine ah ?_|refine aM ?_|refine a6 ?_|refine au ?_|refine aw ?_|refine av ?_|refine a7 ?_|refine a8 a5 rfl rfl ?_)
  exact an rfl rfl ⟨_, rfl, rfl⟩
set_option maxHeartbeats 1000000 in
theorem ww (l : List ea) : AC Tryz.prog 45 [.imm 4 (l.map ep), .sc (.func (.func 46) #[] #[])] [] fun c L => ∃ m, c = .sc (.map (some m)) ∧ L = [(m, cg .string (bZ (l.map ea.Name)))] := by
 refine aC Tryz.func45 rfl Tryz.ntmps45 rfl fun B => ?_
 refine ci 0 rfl rfl fun hlen => ?_
 rw [Du] at hlen
 repeat' (first|refine a9 ?_|refine a4 ?_|refine a6 ?_|refine a7 ?_|refine a8 a5 rfl rfl ?_)
 refine eg .string fun m => ?_
 repeat' (first|refine a9 ?_|refine a4 ?_|refine ak ?_|refine a6 ?_|refine a7 ?_|refine a8 a5 rfl rfl ?_)
 refine aL [1, 5, 11, 12] (α := Nat) (fun i => [(13, aA i)]) (fun i => i ≤ l.length) (fun i => [(m, cg .string (bZ ((l.map ea.Name).take i)))]) (fun i => l.length - i) 0 rfl ⟨rfl, trivial⟩ (Nat.zero_le _) (fun _ _ h => by rw [List.take_zero, jv]; exact h) fun i hi => ?_
 try dsimp only [Ds, Dr, Dq, Dn]
 repeat' (first|refine a9 ?_|refine a4 ?_|refine a6 ?_|refine a7 ?_|refine a8 a5 rfl rfl ?_)
 refine ar rfl (fun h => ?_) (fun h => ?_)
 ·have hil : i < l.length := by have := Dz h; simp at this; omega
  obtain ⟨z, hz⟩ : ∃ z, l[i]? = some z := ⟨_, Bn hil⟩
  have hzg := bW (c := ep) hz
  have hzn : (l.map ea.Name)[i]? = some z.Name := by rw [List.getElem?_map, hz]; rfl
  repeat' (first|refine a9 ?_|refine a4 ?_|refine ak ?_|refine ai ?_|refine a6 ?_|refine a7 ?_|refine a8 a5 rfl rfl ?_|(apply aF; first|refine aE a5 ?_|refine aB a5 ?_)|(apply aP; first|refine aa 7 a5 0 rfl rfl rfl rfl rfl rfl rfl rfl ?_|refine aa 7 a5 1 rfl rfl rfl rfl rfl rfl rfl rfl ?_|refine aa 7 a5 2 rfl rfl rfl rfl rfl rfl rfl rfl ?_|refine ad a5 0 rfl rfl rfl rfl rfl rfl rfl ?_|refine ad a5 1 rfl rfl rfl rfl rfl rfl rfl ?_|refine ad a5 2 rfl rfl rfl rfl rfl rfl rfl ?_|refine ad a5 3 rfl rfl rfl rfl rfl rfl rfl ?_|fail)|refine b4 a5 fun _=>?_|fail)
  refine gn (cs := [.agg (ep z)]) (caps := []) (na z) rfl rfl rfl rfl rfl ?_
  repeat' (first|fail)
  refine fq 0 (.int .i64 0) Tryz.underlying129 Tryz.underlying9 rfl rfl trivial rfl (by kernel_rfl) rfl ?_
  rw [iw]
  repeat' (first|refine a9 ?_|refine a4 ?_|refine a6 ?_|refine a7 ?_|refine a8 a5 rfl rfl ?_)
  refine ar rfl (fun h2 => ?_) (fun h2 => ?_)
  ·have h2' : (cv ((l.map ea.Name).take i) z.Name).isSome = false := by simpa using h2
   repeat' (first|refine a4 ?_|refine a8 a5 rfl rfl ?_)
   refine gn (cs := [.agg (ep z)]) (caps := []) (na z) rfl rfl rfl rfl rfl ?_
   repeat' (first|refine a8 a5 rfl rfl ?_)
   refine d5 0 (bZ ((l.map ea.Name).take (i + 1))) Tryz.underlying129 Tryz.underlying9 rfl rfl trivial rfl rfl (iv hzn h2') (gO hzn) ?_
   repeat' (first|refine a4 ?_|refine a6 ?_|refine aH ?_|refine a7 ?_|refine a8 a5 rfl rfl ?_|(apply aU; refine aS ?_)|fail)
   exact az (i + 1) rfl ⟨by rw [Dv]; rfl, trivial⟩ (by omega) (by omega) (fun _ _ h => h)
  ·have h2' : (cv ((l.map ea.Name).take i) z.Name).isSome = true := by simpa using h2
   repeat' (first|refine a4 ?_|refine ai ?_|refine a6 ?_|refine aH ?_|refine a7 ?_|refine a8 a5 rfl rfl ?_|(apply aU; refine aS ?_)|fail)
   exact az (i + 1) rfl ⟨by rw [Dv]; rfl, trivial⟩ (by omega) (by omega) (fun _ _ h => by rw [gN hzn h2']; exact h)
 ·have hil : i = l.length := by have := Dy h; simp at this; omega
  subst hil
  rw [List.take_of_length_le (by simp)]
  repeat' (first|refine a9 ?_|refine a4 ?_|refine ah ?_|refine aM ?_|refine a6 ?_|refine au ?_|refine aw ?_|refine av ?_|refine a7 ?_|refine a8 a5 rfl rfl ?_)
  exact an rfl rfl ⟨_, rfl, rfl⟩
end Go.Proofs.YtpmdfoaadejmkaaGreatDoor
namespace Go.Proofs.YtpmdfoaadejmkaaGreatDoor
open Go.RowKit
attribute [local irreducible] AT bh AX AO Av Kt b6 di DA cC
theorem iu (names : List ByteArray) (s : ByteArray) : (bZ names (.string s)).getD (.sc (.int .i64 0)) = aA ((cv names s).getD 0 : Nat) := by
 show (Option.map (fun n : Nat => aA (n : Int)) (cv names s)).getD (.sc (.int .i64 0)) = _
 cases cv names s <;> rfl
def sK (names : List ByteArray) (i : Nat) (s : ByteArray) : Bool := decide ((((cv names s).getD 0 : Nat) : Int) < (i : Int))
def l7 (f : aN) : List ByteArray := f.Glyphs.map bb.Name
def lh (f : aN) : List ByteArray := f.Features.map bQ.Name
def kL (f : aN) : List ByteArray := f.Axes.map ea.Name
def dQ (f : aN) (i : Nat) (g : bb) : Int := mS f g (mN (gR g.Name) (sK (l7 f) i g.Name))
def jX (f : aN) (i : Nat) (t : bQ) : Int := tg f t (mN (eS t.Name) (sK (lh f) i t.Name))
def jO (f : aN) (i : Nat) (a : ea) : Int := t5 a (mN (gR a.Name) (sK (kL f) i a.Name))
set_option maxHeartbeats 1000000 in
theorem s7 (f : aN) (i : Nat) (g : bb) (m : Nat) : AC Tryz.prog 51 [aA i, .agg (c7 g), .iptr (bV f), .iptr [.sc (.map (some m))]] [(m, cg .string (bZ (l7 f)))] fun c L => c = aA (dQ f i g) ∧ L = [(m, cg .string (bZ (l7 f)))] := by
 refine aC Tryz.func51 rfl Tryz.ntmps51 rfl fun B => ?_
 repeat' (first|refine a9 ?_|refine a4 ?_|refine a6 ?_|refine a7 ?_|refine a8 a5 rfl rfl ?_|refine aZ ?_|fail)
 refine bk 12 [(0, .v), (1, .v), (2, .v), (3, .v), (4, .v), (5, .v), (6, .v), (7, .v), (9, .v), (8, .e), (10, .v), (11, .v)] none ?_ trivial rfl (by kernel_rfl) (by kernel_rfl) (by kernel_rfl) c9 (by kernel_rfl) rfl
 repeat' (first|refine aD ?_|refine bi a5 ?_|(apply cL;refine df ?_)|fail)
 refine mK 0 (.int .i64 0) Tryz.underlying129 Tryz.underlying9 rfl rfl trivial rfl (by kernel_rfl) trivial ?_
 rw [iu]
 repeat' (first|refine aD ?_|refine bi a5 ?_|(apply cL;refine df ?_)|fail)
 refine bz [7, 8, 18] rfl rfl ?_
 repeat' (first|refine ah ?_|refine a6 ?_|refine a7 ?_|refine a8 a5 rfl rfl ?_|(apply bc;refine b7 ?_)|fail)
 exact an rfl rfl ⟨rfl, rfl⟩
set_option maxHeartbeats 1000000 in
theorem uv (f : aN) (i : Nat) (t : bQ) (m : Nat) : AC Tryz.prog 64 [aA i, .agg (ca t), .iptr (bV f), .iptr [.sc (.map (some m))]] [(m, cg .string (bZ (lh f)))] fun c L => c = aA (jX f i t) ∧ L = [(m, cg .string (bZ (lh f)))] := by
 refine aC Tryz.func64 rfl Tryz.ntmps64 rfl fun B => ?_
 repeat' (first|refine a9 ?_|refine a4 ?_|refine a6 ?_|refine a7 ?_|refine a8 a5 rfl rfl ?_|refine aZ ?_|fail)
 refine bk 12 [(0, .v), (1, .v), (2, .v), (3, .v), (4, .v), (5, .v), (6, .v), (7, .v), (9, .v), (8, .e), (10, .v), (11, .v)] none ?_ trivial rfl (by kernel_rfl) (by kernel_rfl) (by kernel_rfl) c9 (by kernel_rfl) rfl
 repeat' (first|refine aD ?_|refine bi a5 ?_|(apply cL;refine df ?_)|fail)
 refine mK 0 (.int .i64 0) Tryz.underlying129 Tryz.underlying9 rfl rfl trivial rfl (by kernel_rfl) trivial ?_
 rw [iu]
 repeat' (first|refine aD ?_|refine bi a5 ?_|(apply cL;refine df ?_)|fail)
 refine bz [7, 8, 18] rfl rfl ?_
 repeat' (first|refine ah ?_|refine a6 ?_|refine a7 ?_|refine a8 a5 rfl rfl ?_|(apply bc;refine b7 ?_)|fail)
 exact an rfl rfl ⟨rfl, rfl⟩
set_option maxHeartbeats 1000000 in
theorem u9 (f : aN) (i : Nat) (a : ea) (m : Nat) : AC Tryz.prog 68 [aA i, .agg (ep a), .iptr [.sc (.map (some m))]] [(m, cg .string (bZ (kL f)))] fun c L => c = aA (jO f i a) ∧ L = [(m, cg .string (bZ (kL f)))] := by
 refine aC Tryz.func68 rfl Tryz.ntmps68 rfl fun B => ?_
 repeat' (first|refine a9 ?_|refine a4 ?_|refine a6 ?_|refine a7 ?_|refine a8 a5 rfl rfl ?_|refine aZ ?_|fail)
 refine bk 11 [(0, .v), (1, .v), (2, .v), (3, .v), (4, .v), (5, .v), (6, .v), (8, .v), (7, .e), (9, .v), (10, .v)] none ?_ trivial rfl (by kernel_rfl) (by kernel_rfl) (by kernel_rfl) c9 (by kernel_rfl) rfl
 repeat' (first|refine aD ?_|refine bi a5 ?_|(apply cL;refine df ?_)|fail)
 refine mK 0 (.int .i64 0) Tryz.underlying129 Tryz.underlying9 rfl rfl trivial rfl (by kernel_rfl) trivial ?_
 rw [iu]
 repeat' (first|refine aD ?_|refine bi a5 ?_|(apply cL;refine df ?_)|fail)
 refine bz [6, 16] rfl rfl ?_
 repeat' (first|refine ah ?_|refine a6 ?_|refine a7 ?_|refine a8 a5 rfl rfl ?_|(apply bc;refine b7 ?_)|fail)
 exact an rfl rfl ⟨rfl, rfl⟩
end Go.Proofs.YtpmdfoaadejmkaaGreatDoor
