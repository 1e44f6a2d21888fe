/-
  What comes where so many sets were met: the walk.
-/
import Derived.Test.YtamjlkdanllgjaaGreatDoorM21
import Derived.Test.YtamjlkdanllgjaaGreatDoorM12
import Derived.Test.YtamjlkdanllgjaaGreatDoorM11
import Derived.Test.YtamjlkdanllgjaaGreatDoorM06
import Derived.Test.YtamjlkdanllgjaaGreatDoorM10
namespace Go.Proofs.YtamjlkdanllgjaaGreatDoor
open Go.RowKit
attribute [local irreducible] AT br AX AO Av Kt aW cZ DA cw
set_option maxRecDepth 8000
def fG (cls : List Int) (n : Nat) (nx : List Nat) (g : Int) : List Nat := nx.set (cls.getD g.toNat 0).toNat (nx.getD (cls.getD g.toNat 0).toNat 0 ||| 2 ^ n)
def dO (cls : List Int) (rows : List (List (List Int))) (m C n : Nat) : List Nat := (List.range C).map fun c => bY (jE cls rows m c) n
theorem fk {cls : List Int} {rows : List (List (List Int))} {m C n : Nat} : (dO cls rows m C n).length = C := by simp [dO]
theorem jl {cls : List Int} {rows : List (List (List Int))} {m C n c : Nat} (h : c < C) : (dO cls rows m C n)[c]? = some (bY (jE cls rows m c) n) := by simp [dO, h]
theorem qv {cls : List Int} {c : Nat} {s : List Int} {g : Int} : ej cls c (s ++ [g]) = (ej cls c s || ej cls c [g]) := by simp [ej]
theorem jh {cls : List Int} {n : Nat} : ∀ {s : List Int} {nx : List Nat}, (s.foldl (fG cls n) nx).length = nx.length
 | [], _ => rfl
 | g :: s, nx => by rw [List.foldl_cons, jh]; unfold fG; rw [List.length_set]
section
variable {cls : List Int} {C : Nat} (hd : ∀ z ∈ cls, 0 ≤ z ∧ z < (C : Int))
include hd
theorem ro {g : Int} (hg : 0 ≤ g ∧ g < cls.length) : ∃ c : Nat, cls[g.toNat]? = some (c : Int) ∧ c < C ∧ cls.getD g.toNat 0 = (c : Int) := by
 obtain ⟨z, hz⟩ : ∃ z, cls[g.toNat]? = some z := ⟨_, Eg (by omega)⟩
 obtain ⟨h0, h1⟩ := hd z (Hx hz)
 refine ⟨z.toNat, by rw [hz]; congr 1; omega, by omega, ?_⟩
 rw [List.getD_eq_getElem?_getD, hz]
 show z = _
 omega
theorem pz {n : Nat} {nx : List Nat} (hl : nx.length = C) : ∀ {s : List Int}, (∀ g ∈ s, 0 ≤ g ∧ g < (cls.length : Int)) → ∀ c, c < C → (s.foldl (fG cls n) nx)[c]? = some (nx.getD c 0 ||| (if ej cls c s = true then 2 ^ n else 0)) := by
 intro s
 refine l8 (P := fun s => (∀ g ∈ s, 0 ≤ g ∧ g < (cls.length : Int)) → ∀ c, c < C → (s.foldl (fG cls n) nx)[c]? = some (nx.getD c 0 ||| (if ej cls c s = true then 2 ^ n else 0))) ?_ ?_ s
 ·intro _ c hc
  rw [List.foldl_nil, List.getD_eq_getElem?_getD, Eg (by omega)]
  simp [ej]
 ·intro s g ih hs c hc
  have ih' := ih (fun x hx => hs x (by simp [hx]))
  obtain ⟨k, hk, hkC, hkd⟩ := ro hd (hs g (by simp))
  have hml := jh (cls := cls) (n := n) (s := s) (nx := nx)
  rw [List.foldl_append, List.foldl_cons, List.foldl_nil]
  unfold fG at hml ⊢
  rw [hkd, Int.toNat_natCast]
  have hg1 : ej cls c [g] = decide (k = c) := by
   unfold ej
   have hg := hs g (by simp)
   have hkd2 : cls.getD g.toNat (-1) = (k : Int) := by rw [List.getD_eq_getElem?_getD, hk]; rfl
   simp only [List.any_cons, List.any_nil, Bool.or_false, hkd2, decide_eq_true hg.1, decide_eq_true hg.2, Bool.true_and]
   exact decide_eq_decide.2 (by omega)
  rw [qv, hg1]
  by_cases hkc : k = c
  ·subst hkc
   rw [List.getElem?_set_self (by omega), List.getD_eq_getElem?_getD]
   have := ih' k hc
   unfold fG at this
   rw [this]
   simp only [Option.getD_some, decide_true, Bool.or_true, if_true]
   congr 1
   split
   ·rw [Nat.or_assoc, Nat.or_self]
   ·rw [Nat.or_zero]
  ·rw [List.getElem?_set_ne hkc]
   have := ih' c hc
   unfold fG at this
   rw [this]
   simp [hkc]
theorem tH {rows : List (List (List Int))} {m n : Nat} {eg : List (List Int)} (hr : rows[n]? = some eg) {s : List Int} (hs : eg[m]? = some s) (hg : ∀ g ∈ s, 0 ≤ g ∧ g < (cls.length : Int)) : s.foldl (fG cls n) (dO cls rows m C n) = dO cls rows m C (n + 1) := by
 apply List.ext_getElem?
 intro c
 by_cases hc : c < C
 ·rw [pz hd fk hg c hc, jl hc, List.getD_eq_getElem?_getD, jl hc, bY]
  have : jE cls rows m c n = ej cls c s := by
   unfold jE
   rw [hr]
   dsimp only
   rw [hs]
  rw [this]
  rfl
 ·rw [List.getElem?_eq_none (by rw [jh, fk]; omega), List.getElem?_eq_none (by rw [fk]; omega)]
end
theorem o6 {cls : List Int} {rows : List (List (List Int))} {m C n : Nat} {eg : List (List Int)} (hr : rows[n]? = some eg) (hs : eg.length ≤ m) : dO cls rows m C (n + 1) = dO cls rows m C n := by
 unfold dO
 refine List.map_congr_left fun c _ => ?_
 rw [bY]
 have : jE cls rows m c n = false := by
  unfold jE
  rw [hr]
  dsimp only
  rw [List.getElem?_eq_none hs]
 rw [this]
 simp
theorem vb (n : Nat) (h : n < 64) : IntKind.u64.wrap (1 * 2 ^ min n IntKind.u64.bits) = ((2 ^ n : Nat) : Int) := by
 have e : min n IntKind.u64.bits = n := by show min n 64 = n; omega
 have h1 : 2 ^ n < 2 ^ 64 := Nat.pow_lt_pow_right (by omega) h
 have e2 : (2 : Int) ^ n = ((2 ^ n : Nat) : Int) := (Int.natCast_pow 2 n).symm
 rw [e, Int.one_mul, e2]
 generalize 2 ^ n = k at h1
 have h64 : (2 : Nat) ^ 64 = 18446744073709551616 := by decide
 rw [h64] at h1
 rw [IntKind.wrap_u64]
 exact Int.emod_eq_of_lt (by omega) (by omega)
theorem lp {p : Nat → Bool} {n : Nat} (h : n ≤ 64) : bY p n < 2 ^ 64 := Nat.lt_of_lt_of_le (nl p n) (Nat.pow_le_pow_right (by omega) h)
theorem Cc {n : Nat} (h : n < 64) : 2 ^ n < 2 ^ 64 := Nat.pow_lt_pow_right (by omega) h
def eO (l : List Nat) : List AV := l.map fun z => jb z
theorem nw (l : List Nat) : (eO l).length = l.length := by simp [eO]
theorem sY {l : List Nat} {i : Nat} {z : Nat} (h : l[i]? = some z) : (eO l)[0 + ((i : Nat) : Int).toNat * 1]? = some (jb z) := by simp [eO, h]
theorem sZ {l : List Nat} {i : Nat} {z : Nat} : ew (eO l) (0 + ((i : Nat) : Int).toNat * 1) [jb z] = eO (l.set i z) := by
 rw [eT]
 unfold eO
 rw [List.map_set]
 simp
theorem rn (n : Nat) : (List.replicate n [jb 0]).flatten = eO (List.replicate n 0) := by
 induction n with
 | zero => rfl
 | succ n ih => rw [List.replicate_succ, List.flatten_cons, ih, List.replicate_succ]; rfl
theorem wQ (l : List Nat) : eO l = (f4 l).flatten := by
 induction l with
 | nil => rfl
 | cons z l ih => simp [eO, f4] at ih ⊢; exact ih
def gO (l : List (List (List Int))) : List (List AV) := l.map fun r => [.imm 1 (ba r)]
theorem pE (l : List (List (List Int))) : (gO l).length = l.length := by simp [gO]
theorem wt {l : List (List (List Int))} {i : Nat} {r : List (List Int)} (h : l[i]? = some r) : (gO l)[i]? = some [.imm 1 (ba r)] := by simp [gO, h]
structure RD where
 rows : List (List (List Int))
 have_ : Nat
 cls : List Int
 C : Nat
structure wY (R : RD) : Prop where
 few : R.rows.length ≤ 6
 dom : ∀ z ∈ R.cls, 0 ≤ z ∧ z < (R.C : Int)
 sets : ∀ r ∈ R.rows, ∀ s ∈ r, (∀ g ∈ s, 0 ≤ g ∧ g < (R.cls.length : Int)) ∧ s.length ≤ 1000000
 long : ∀ r ∈ R.rows, r.length ≤ 1000000
 many : R.C ≤ 1000000 ∧ R.cls.length ≤ 1000000
def Al (R : RD) (lv : AV) : List AV := [.imm 1 (gO R.rows), jb R.have_, .imm 1 (aT R.cls), aD R.C, lv]
def iJ (R : RD) (m : Nat) : List AV := [.imm 1 (f4 (dO R.cls R.rows m R.C R.rows.length)), jb (bY (gA R.rows m) R.rows.length)]
set_option maxHeartbeats 8000000 in
theorem qg (R : RD) (h : wY R) (rb : Nat) (lv : AV) (m : Nat) (hm : m ≤ 1000000) : AC Tryz.prog 352 [f0 rb, aD m] [(rb, .box (Al R lv) 384)] fun c L => c = .agg (iJ R m) ∧ L = [(rb, .box (Al R lv) 384)] := by
 refine aG Tryz.func352 rfl Tryz.ntmps352 rfl fun B => ?_
 have hrl := pE R.rows
 have hil := bg R.cls
 obtain ⟨hC, hN⟩ := h.many
 have hfew := h.few
 repeat' (first|refine ae ?_|refine a6 ?_|refine a8 ?_|refine aa ?_|refine ah a7 rfl rfl ?_|(apply c9; first|refine aC a7 0 rfl rfl rfl rfl rfl ?_|refine aC a7 1 rfl rfl rfl rfl rfl ?_|refine aC a7 2 rfl rfl rfl rfl rfl ?_|refine aC a7 3 rfl rfl rfl rfl rfl ?_|refine aJ a7 0 rfl rfl rfl rfl rfl ?_|refine aJ a7 1 rfl rfl rfl rfl rfl ?_|refine aJ a7 2 rfl rfl rfl rfl rfl ?_|refine aC a7 1 rfl rfl rfl (by assumption) rfl ?_|refine aC a7 0 rfl rfl rfl (by assumption) rfl ?_|fail)|refine aY a7 fun _=>?_|fail)
 refine dv a7 R.C rfl rfl rfl rfl rfl rfl rfl (by omega) (by omega) rfl fun nb => ?_
 rw [show (List.replicate R.C (List.map AV.sc [Value.int .u64 0])).flatten = eO (List.replicate R.C 0) from rn R.C]
 repeat' (first|refine ae ?_|refine a6 ?_|refine ar ?_|refine a8 ?_|refine aa ?_|refine ah a7 rfl rfl ?_|(apply c9; first|refine aC a7 0 rfl rfl rfl rfl rfl ?_|refine aC a7 1 rfl rfl rfl rfl rfl ?_|refine aC a7 2 rfl rfl rfl rfl rfl ?_|refine aC a7 3 rfl rfl rfl rfl rfl ?_|refine aJ a7 0 rfl rfl rfl rfl rfl ?_|refine aJ a7 1 rfl rfl rfl rfl rfl ?_|refine aJ a7 2 rfl rfl rfl rfl rfl ?_|refine aC a7 1 rfl rfl rfl (by assumption) rfl ?_|refine aC a7 0 rfl rfl rfl (by assumption) rfl ?_|fail)|(apply aQ; first|refine aj a7 0 rfl rfl rfl rfl rfl rfl rfl ?_|refine aj a7 1 rfl rfl rfl rfl rfl rfl rfl ?_|refine aj a7 2 rfl rfl rfl rfl rfl rfl rfl ?_|refine aj a7 3 rfl rfl rfl rfl rfl rfl rfl ?_|fail)|refine aY a7 fun _=>?_|fail)
 rename_i r4 l5
 refine aI [0, 1, 4, 5, 19, 20] (α := Nat) (fun n => [(21, aD n)]) (fun n => n ≤ R.rows.length) (fun n => [(l5, .box [.sc (.slice (some ⟨nb, 0, none⟩) R.C R.C), jb (bY (gA R.rows m) n)] 444), (nb, .box (eO (dO R.cls R.rows m R.C n)) 194), (r4, .box [.sc (.slice none 0 0), jb 0] 444), (rb, .box (Al R lv) 384)]) (fun n => R.rows.length - n) 0 rfl ⟨rfl, trivial⟩ (Nat.zero_le _) (fun _ _ hh => ?_) fun n hn => ?_
 ·rw [show dO R.cls R.rows m R.C 0 = List.replicate R.C 0 by unfold dO bY; rw [List.map_const', List.length_range]]
  exact hh
 ·try dsimp only [Ht, Hs, Hr, Hn]
  repeat' (first|refine ae ?_|refine a6 ?_|refine a8 ?_|refine aa ?_|refine ah a7 rfl rfl ?_)
  refine ay rfl (fun h1 => ?_) (fun h1 => ?_)
  ·have hn2 : n < R.rows.length := by have := Hz h1; omega
   obtain ⟨eg, hrow⟩ : ∃ z, R.rows[n]? = some z := ⟨_, Eg hn2⟩
   have hrg := wt hrow
   have hrwl := c8 eg
   have hrm := Hx hrow
   have hlong := h.long eg hrm
   have hends : bY (gA R.rows m) (n + 1) = bY (gA R.rows m) n ||| (if eg.length = m then 2 ^ n else 0) := by
    rw [bY]
    unfold gA
    rw [hrow]
    simp only [decide_eq_true_eq]
   have hb1 := lp (p := gA R.rows m) (n := n) (by omega)
   have hb2 := Cc (n := n) (by omega)
   have hub := vb n (by omega)
   clear h1
   repeat' (first|refine ae ?_|refine a6 ?_|refine ar ?_|refine aq ?_|refine a8 ?_|refine aa ?_|refine ah a7 rfl rfl ?_|(apply aO; first|refine aN a7 ?_|refine aH a7 ?_)|fail)
   refine ay rfl (fun h1 => ?_) (fun h1 => ?_)
   ·have hlm : eg.length = m := by have := Hz h1; omega
    rw [if_pos hlm] at hends
    have hsk := o6 (cls := R.cls) (C := R.C) hrow (Nat.le_of_eq hlm)
    clear h1
    repeat' (first|fail)
    refine bF 4 [(0, .v), (1, .l), (2, .v), (3, .v)] none ?_ trivial rfl (by kernel_rfl) (by kernel_rfl) (by kernel_rfl) mixed (by kernel_rfl) rfl
    repeat' (first|refine aM ?_|refine bD a7 ?_|refine du a7 0 rfl rfl rfl rfl (by first|trivial|rfl) ?_)
    refine t8 n rfl rfl rfl trivial ?_
    repeat' (first|fail)
    refine bM [0, 1, 4, 5, 6, 7, 19, 20, 21, 31, 33] rfl rfl ?_
    refine uO rfl rfl rfl ?_
    rw [hub, u64_or_nat _ _ hb1 hb2, ← hends]
    repeat' (first|refine ae ?_|refine a6 ?_|refine a8 ?_|refine aa ?_|refine ah a7 rfl rfl ?_|(apply aQ; first|refine aj a7 0 rfl rfl rfl rfl rfl rfl rfl ?_|refine aj a7 1 rfl rfl rfl rfl rfl rfl rfl ?_|refine aj a7 2 rfl rfl rfl rfl rfl rfl rfl ?_|refine aj a7 3 rfl rfl rfl rfl rfl rfl rfl ?_|fail))
    refine ay rfl (fun h2 => ?_) (fun h2 => ?_)
    ·repeat' (first|refine a6 ?_|refine aL ?_|refine a8 ?_|refine av ?_|refine aA ?_|refine aa ?_|refine ah a7 rfl rfl ?_|(apply b6; refine aZ ?_)|fail)
     exact aF (n + 1) rfl ⟨by rw [Hw]; rfl, trivial⟩ hn2 (by omega) (fun _ _ hh => by rw [hsk]; exact hh)
    ·have := Hy h2
     omega
   ·have hlm : ¬ eg.length = m := by have := Hy h1; omega
    rw [if_neg hlm, Nat.or_zero] at hends
    clear h1
    repeat' (first|refine ae ?_|refine a6 ?_|refine aq ?_|refine a8 ?_|refine aa ?_|refine ah a7 rfl rfl ?_)
    refine ay rfl (fun h2 => ?_) (fun h2 => ?_)
    ·have hsk := o6 (cls := R.cls) (C := R.C) (m := m) hrow (by have := Hz h2; omega)
     repeat' (first|refine a6 ?_|refine aL ?_|refine a8 ?_|refine av ?_|refine aA ?_|refine aa ?_|refine ah a7 rfl rfl ?_|(apply b6; refine aZ ?_)|fail)
     exact aF (n + 1) rfl ⟨by rw [Hw]; rfl, trivial⟩ hn2 (by omega) (fun _ _ hh => by rw [hsk, hends]; exact hh)
    ·have hml : m < eg.length := by have := Hy h2; omega
     obtain ⟨s, hs⟩ : ∃ z, eg[m]? = some z := ⟨_, Eg hml⟩
     have hsg := gP hs
     obtain ⟨hsd, hsl⟩ := h.sets eg hrm s (Hx hs)
     have hsil := bg s
     have hst := tH h.dom hrow hs hsd
     clear h2
     repeat' (first|refine ae ?_|refine a6 ?_|refine ar ?_|refine aq ?_|refine a8 ?_|refine aa ?_|refine ah a7 rfl rfl ?_|(apply aO; first|refine aN a7 ?_|refine aH a7 ?_)|fail)
     refine aI [0, 1, 4, 5, 6, 19, 20, 21, 43, 44] (α := Nat) (fun j => [(45, aD j)]) (fun j => j ≤ s.length) (fun j => [(l5, .box [.sc (.slice (some ⟨nb, 0, none⟩) R.C R.C), jb (bY (gA R.rows m) n)] 444), (nb, .box (eO ((s.take j).foldl (fG R.cls n) (dO R.cls R.rows m R.C n))) 194), (r4, .box [.sc (.slice none 0 0), jb 0] 444), (rb, .box (Al R lv) 384)]) (fun j => s.length - j) 0 rfl ⟨rfl, trivial⟩ (Nat.zero_le _) (fun _ _ hh => hh) fun j hj => ?_
     try dsimp only [Ht, Hs, Hr, Hn]
     repeat' (first|refine ae ?_|refine a6 ?_|refine a8 ?_|refine aa ?_|refine ah a7 rfl rfl ?_)
     refine ay rfl (fun h2 => ?_) (fun h2 => ?_)
     ·have hj2 : j < s.length := by have := Hz h2; omega
      obtain ⟨g, hg⟩ : ∃ z, s[j]? = some z := ⟨_, Eg hj2⟩
      have hgg := bU hg
      have hgd := hsd g (Hx hg)
      obtain ⟨c, hc, hcC, hcd⟩ := ro h.dom hgd
      have hcg : (aT R.cls)[g.toNat]? = some [aD c] := bU hc
      have hnl : ((s.take j).foldl (fG R.cls n) (dO R.cls R.rows m R.C n)).length = R.C := by rw [jh, fk]
      obtain ⟨v, hv⟩ : ∃ z, ((s.take j).foldl (fG R.cls n) (dO R.cls R.rows m R.C n))[c]? = some z := ⟨_, Eg (by omega)⟩
      have hv64 : v < 2 ^ 64 := by
       have := pz h.dom (n := n) (nx := dO R.cls R.rows m R.C n) fk (s := s.take j) (fun x hx => hsd x (List.mem_of_mem_take hx)) c hcC
       rw [hv, List.getD_eq_getElem?_getD, jl hcC] at this
       cases this
       exact Fk (lp (by omega)) (by split; exact hb2; omega)
      have htk : s.take (j + 1) = s.take j ++ [g] := by rw [List.take_add_one, hg]; rfl
      have hfs : (s.take (j + 1)).foldl (fG R.cls n) (dO R.cls R.rows m R.C n) = ((s.take j).foldl (fG R.cls n) (dO R.cls R.rows m R.C n)).set c (v ||| 2 ^ n) := by
       rw [htk, List.foldl_append, List.foldl_cons, List.foldl_nil]
       generalize (s.take j).foldl (fG R.cls n) (dO R.cls R.rows m R.C n) = nx at hv
       unfold fG
       rw [hcd, Int.toNat_natCast, List.getD_eq_getElem?_getD, hv]
       rfl
      generalize (s.take j).foldl (fG R.cls n) (dO R.cls R.rows m R.C n) = nx at *
      have hvc := sY hv
      have hul := nw nx
      clear h2
      repeat' (first|refine ae ?_|refine a6 ?_|refine ar ?_|refine aq ?_|refine a8 ?_|refine aa ?_|refine ah a7 rfl rfl ?_|(apply aO; first|refine aN a7 ?_|refine aH a7 ?_)|fail)
      refine co [0, 1, 4, 5, 6, 9, 19, 20, 21, 43, 44, 45] True rfl (fun Q' K => ?_) (fun _ => ?_) (fun hC => absurd trivial hC)
      ·repeat' (first|refine aa ?_|refine ah a7 rfl rfl ?_|refine aB rfl rfl ?_|refine aE rfl rfl rfl rfl ?_|(apply c9; first|refine aC a7 0 rfl rfl rfl rfl rfl ?_|refine aC a7 1 rfl rfl rfl rfl rfl ?_|refine aC a7 2 rfl rfl rfl rfl rfl ?_|refine aC a7 3 rfl rfl rfl rfl rfl ?_|refine aJ a7 0 rfl rfl rfl rfl rfl ?_|refine aJ a7 1 rfl rfl rfl rfl rfl ?_|refine aJ a7 2 rfl rfl rfl rfl rfl ?_|refine aC a7 1 rfl rfl rfl (by assumption) rfl ?_|refine aC a7 0 rfl rfl rfl (by assumption) rfl ?_|fail)|refine aU rfl rfl rfl (fun _ => ?_) (fun _ => ?_))
       all_goals exact K _ _ rfl rfl (by simp_all <;> omega)
      repeat' (first|fail)
      refine bF 14 [(0, .v), (1, .l), (2, .v), (3, .v), (4, .v), (5, .l), (6, .v), (7, .v), (8, .v), (9, .v), (10, .l), (11, .v), (12, .v), (13, .v)] none ?_ trivial rfl (by kernel_rfl) (by kernel_rfl) (by kernel_rfl) mixed (by kernel_rfl) rfl
      repeat' (first|refine aM ?_|refine bD a7 ?_|refine du a7 0 rfl rfl rfl rfl (by first|trivial|rfl) ?_)
      refine du a7 3 rfl rfl rfl rfl trivial ?_
      repeat' (first|refine aM ?_|refine bD a7 ?_|(apply dk;refine dT a7 ?_)|fail)
      refine cS a7 rfl rfl rfl ⟨by omega, by omega⟩ trivial ?_
      repeat' (first|refine aM ?_|fail)
      refine du a7 1 rfl rfl rfl hvc trivial ?_
      repeat' (first|refine aM ?_|refine bD a7 ?_|fail)
      refine t8 n rfl rfl rfl trivial ?_
      repeat' (first|refine aM ?_|fail)
      refine Aq rfl rfl trivial ?_
      repeat' (first|fail)
      refine bM [0, 1, 4, 5, 6, 19, 20, 21, 43, 44, 45, 61, 68, 73] rfl rfl ?_
      rw [hub, u64_or_nat _ _ hv64 hb2]
      repeat' (first|(apply aO; first|refine aN a7 ?_|refine aH a7 ?_)|fail)
      refine aj a7 1 rfl rfl rfl rfl rfl rfl (Nat.ble_eq_true_of_le (by rw [hul, hnl, Int.toNat_natCast]; show 0 + c * 1 + 1 ≤ _; omega)) ?_
      rw [sZ]
      repeat' (first|refine a6 ?_|refine a8 ?_|refine aR ?_|refine aa ?_|refine ah a7 rfl rfl ?_|(apply b6; refine aZ ?_)|fail)
      exact aF (j + 1) rfl ⟨by rw [Hw]; rfl, trivial⟩ hj2 (by omega) (fun _ _ hh => by rw [hfs]; exact hh)
     ·have hj2 : j = s.length := by have := Hy h2; omega
      subst hj2
      rw [List.take_length, hst]
      clear h2
      repeat' (first|refine a6 ?_|refine aL ?_|refine a8 ?_|refine av ?_|refine aR ?_|refine aA ?_|refine az ?_|refine aa ?_|refine ah a7 rfl rfl ?_|(apply b6; refine aZ ?_)|fail)
      exact aF (n + 1) rfl ⟨by rw [Hw]; rfl, trivial⟩ hn2 (by omega) (fun _ _ hh => by rw [hends]; exact hh)
  ·have hn2 : n = R.rows.length := by have := Hy h1; omega
   subst hn2
   clear h1
   repeat' (first|refine ae ?_|refine a6 ?_|refine am ?_|refine aL ?_|refine a8 ?_|refine av ?_|refine aA ?_|refine az ?_|refine aa ?_|(apply c9; first|refine aC a7 0 rfl rfl rfl rfl rfl ?_|refine aC a7 1 rfl rfl rfl rfl rfl ?_|refine aC a7 2 rfl rfl rfl rfl rfl ?_|refine aC a7 3 rfl rfl rfl rfl rfl ?_|refine aJ a7 0 rfl rfl rfl rfl rfl ?_|refine aJ a7 1 rfl rfl rfl rfl rfl ?_|refine aJ a7 2 rfl rfl rfl rfl rfl ?_|refine aC a7 1 rfl rfl rfl (by assumption) rfl ?_|refine aC a7 0 rfl rfl rfl (by assumption) rfl ?_|fail)|(apply aQ; first|refine aj a7 0 rfl rfl rfl rfl rfl rfl rfl ?_|refine aj a7 1 rfl rfl rfl rfl rfl rfl rfl ?_|refine aj a7 2 rfl rfl rfl rfl rfl rfl rfl ?_|refine aj a7 3 rfl rfl rfl rfl rfl rfl rfl ?_|fail))
   have hcu := nw (dO R.cls R.rows m R.C R.rows.length)
   rw [fk] at hcu
   refine cB (L' := [(nb, .box (eO (dO R.cls R.rows m R.C R.rows.length)) 194), (r4, .box [.sc (.slice (some ⟨nb, 0, none⟩) R.C R.C), jb (bY (gA R.rows m) R.rows.length)] 444), (rb, .box (Al R lv) 384)]) (List.sublist_cons_self ..) ?_
   refine bf (pL (k := 0) (sz := 1) (n := R.C) (cap := R.C) (l := f4 (dO R.cls R.rows m R.C R.rows.length)) rfl (by rw [← wQ, List.take_of_length_le (by omega)]) (by omega) (fun e he => by unfold f4 at he; obtain ⟨z, _, rfl⟩ := List.mem_map.1 he; rfl) (by rw [oC, fk]) (Nat.le_refl _) (by unfold maxLen; omega)) ?_
   exact ez (cs := [.agg (iJ R m)]) [(rb, .box (Al R lv) 384)] ⟨⟨_, 0, _, _, rfl, rfl, .inr ⟨dh a7 rfl, rfl⟩⟩, trivial⟩ (List.sublist_cons_self ..) ⟨rfl, rfl⟩
end Go.Proofs.YtamjlkdanllgjaaGreatDoor
namespace Go.Proofs.YtamjlkdanllgjaaGreatDoor
open Go.RowKit
attribute [local irreducible] AT br AX AO Av Kt aW cZ DA cw
set_option maxRecDepth 8000
def w8 (R : RD) (k : Nat) : List (List AV) := (List.range k).map (iJ R)
theorem uK (R : RD) (k : Nat) : (w8 R k).length = k := by simp [w8]
theorem rO (R : RD) (k : Nat) : w8 R k ++ [iJ R k] = w8 R (k + 1) := by simp [w8, List.range_succ]
theorem Bj (R : RD) {k m : Nat} (h : m < k) : (w8 R k)[m]? = some (iJ R m) := by simp [w8, h]
abbrev og (R : RD) (rb k : Nat) (q : Option (Nat × Nat)) : Nat × AB := (rb, .box (Al R (.vec q 2 (w8 R k))) 384)
abbrev dW (R : RD) (rb k : Nat) (q : Option (Nat × Nat)) : AL := og R rb k q :: tok q 444 2 k
def mJ (R : RD) (rb : Nat) (u : AV) : AV → AL → Prop := fun c L => c = u ∧ ∃ k q, k ≤ 1000001 ∧ L = dW R rb k q
theorem Fo {a b : Nat × AB} {X : AL} : (a :: b :: X).Perm (b :: a :: X) := List.Perm.swap ..
set_option maxHeartbeats 4000000 in
theorem rK (R : RD) (h : wY R) (rb k : Nat) (q : Option (Nat × Nat)) (hk : k ≤ 1000001) (m : Nat) (hm : m ≤ 1000000) : AC Tryz.prog 321 [f0 rb, aD m] (dW R rb k q) (mJ R rb (.agg (iJ R m))) := by
 refine aG Tryz.func321 rfl Tryz.ntmps321 rfl fun B => ?_
 repeat' (first|refine ae ?_|refine a6 ?_|refine ar ?_|refine a8 ?_|refine aa ?_|refine aY a7 fun _=>?_|fail)
 rename_i r4
 refine aI [0, 1, 4] (α := Nat × Option (Nat × Nat)) (fun _ => []) (fun s => s.1 ≤ 1000001) (fun s => (r4, .box [.sc (.slice none 0 0), jb 0] 444) :: dW R rb s.1 s.2) (fun s => m + 1 - s.1) (k, q) rfl trivial hk (fun _ _ hh => hh) ?_
 rintro ⟨k1, q1⟩ hk1
 dsimp only at hk1 ⊢
 try dsimp only [Ht, Hs, Hr, Hn]
 have hlen := uK R k1
 repeat' (first|refine ae ?_|refine a6 ?_|refine a8 ?_|refine aa ?_|refine ah a7 rfl rfl ?_|(apply c9; first|refine aC a7 0 rfl rfl rfl rfl rfl ?_|refine aC a7 1 rfl rfl rfl rfl rfl ?_|refine aC a7 2 rfl rfl rfl rfl rfl ?_|refine aC a7 3 rfl rfl rfl rfl rfl ?_|refine aJ a7 0 rfl rfl rfl rfl rfl ?_|refine aJ a7 1 rfl rfl rfl rfl rfl ?_|refine aJ a7 2 rfl rfl rfl rfl rfl ?_|refine aC a7 1 rfl rfl rfl (by assumption) rfl ?_|refine aC a7 0 rfl rfl rfl (by assumption) rfl ?_|fail)|fail)
 refine ay rfl (fun h1 => ?_) (fun h1 => ?_)
 ·have hkm : k1 ≤ m := by have := Hz h1; omega
  have hml := qg R h rb (.vec q1 2 (w8 R k1)) k1 (by omega)
  clear h1
  repeat' (first|refine ar ?_|refine aq ?_|refine a8 ?_)
  refine ne [.cell (rb, 4, .vec q1 2 (w8 R k1))] 14 [(0, .v), (1, .v), (2, .v), (3, .v), (4, .k), (5, .v), (6, .v), (7, .v), (8, .v), (9, .l), (10, .v), (11, .f), (12, .v), (13, .e)] none ?_ trivial rfl (by kernel_rfl) (by kernel_rfl) (by kernel_rfl) mixed (by kernel_rfl) rfl
  repeat' (first|refine aM ?_|refine bD a7 ?_|fail)
  refine ut a7 0 rfl rfl rfl (kG 1 rfl rfl) trivial ?_
  repeat' (first|refine aM ?_|refine bD a7 ?_|refine du a7 1 rfl rfl rfl rfl (by first|trivial|rfl) ?_)
  refine ur [og R rb k1 q1] ((r4, .box [.sc (.slice none 0 0), jb 0] 444) :: tok q1 444 2 k1) hml rfl (by rw [hlen]; rfl) Fo trivial (fun c L1 ⟨hc, hL⟩ hK => by subst hL; exact kG 0 rfl rfl) fun c L1 ⟨hc, hL⟩ => ?_
  subst hc; subst hL
  repeat' (first|refine aM ?_|refine iK a7 ?_|fail)
  refine kv a7 [og R rb k1 q1, (r4, .box [.sc (.slice none 0 0), jb 0] 444)] rfl rfl rfl rfl ?_ (by rw [hlen]; simp; omega) (by rw [hlen]; simp; omega) trivial fun q' => ?_
  ·rw [hlen]
   exact List.perm_append_comm (l₁ := [_, _])
  repeat' (first|fail)
  refine bM [0, 1, 4, 12, 25] rfl rfl ?_
  refine bq (bj (L' := og R rb k1 q1 :: (r4, .box [.sc (.slice none 0 0), jb 0] 444) :: tok q' 444 2 (w8 R k1 ++ [iJ R k1]).length) (List.perm_append_comm (l₂ := [_, _]))) ?_
  repeat' (first|refine aR ?_|refine aa ?_|refine ah a7 rfl rfl ?_|(apply aQ; first|refine aj a7 0 rfl rfl rfl rfl rfl rfl rfl ?_|refine aj a7 1 rfl rfl rfl rfl rfl rfl rfl ?_|refine aj a7 2 rfl rfl rfl rfl rfl rfl rfl ?_|refine aj a7 3 rfl rfl rfl rfl rfl rfl rfl ?_|fail))
  refine aF (k1 + 1, q') rfl trivial (by dsimp only; omega) (by dsimp only; omega) (fun σ w hh => ?_)
  rw [rO, uK] at hh
  refine ct.perm (L := og R rb (k1 + 1) q' :: (r4, .box [.sc (.slice none 0 0), jb 0] 444) :: tok q' 444 2 (k1 + 1)) ?_ Fo
  unfold og
  rw [← rO]
  exact hh
 ·have hkm : m < k1 := by have := Hy h1; omega
  have hlg := Bj R hkm
  clear h1
  repeat' (first|refine ae ?_|refine a6 ?_|refine am ?_|refine aL ?_|refine a8 ?_|refine av ?_|refine aA ?_|refine az ?_|refine aa ?_|refine ah a7 rfl rfl ?_|(apply c9; first|refine aC a7 0 rfl rfl rfl rfl rfl ?_|refine aC a7 1 rfl rfl rfl rfl rfl ?_|refine aC a7 2 rfl rfl rfl rfl rfl ?_|refine aC a7 3 rfl rfl rfl rfl rfl ?_|refine aJ a7 0 rfl rfl rfl rfl rfl ?_|refine aJ a7 1 rfl rfl rfl rfl rfl ?_|refine aJ a7 2 rfl rfl rfl rfl rfl ?_|refine aC a7 1 rfl rfl rfl (by assumption) rfl ?_|refine aC a7 0 rfl rfl rfl (by assumption) rfl ?_|fail)|(apply aO; first|refine aN a7 ?_|refine aH a7 ?_)|(apply aQ; first|refine aj a7 0 rfl rfl rfl rfl rfl rfl rfl ?_|refine aj a7 1 rfl rfl rfl rfl rfl rfl rfl ?_|refine aj a7 2 rfl rfl rfl rfl rfl rfl rfl ?_|refine aj a7 3 rfl rfl rfl rfl rfl rfl rfl ?_|fail))
  exact ez (cs := [.agg (iJ R m)]) (dW R rb k1 q1) ⟨⟨_, 0, _, _, rfl, rfl, .inr ⟨dh a7 rfl, rfl⟩⟩, trivial⟩ (List.sublist_cons_self ..) ⟨rfl, k1, q1, hk1, rfl⟩
def jQ (p : Pl) : List AV := [aD p.1, jb p.2]
theorem wp (R : RD) (rb k : Nat) (q : Option (Nat × Nat)) (hk : k ≤ 1000001) : AC Tryz.prog 278 [f0 rb] (dW R rb k q) (mJ R rb (.agg (jQ (0, R.have_)))) := by
 refine aG Tryz.func278 rfl Tryz.ntmps278 rfl fun B => ?_
 repeat' (first|refine ae ?_|refine a6 ?_|refine am ?_|refine a8 ?_|refine aa ?_|refine ah a7 rfl rfl ?_|(apply c9; first|refine aC a7 0 rfl rfl rfl rfl rfl ?_|refine aC a7 1 rfl rfl rfl rfl rfl ?_|refine aC a7 2 rfl rfl rfl rfl rfl ?_|refine aC a7 3 rfl rfl rfl rfl rfl ?_|refine aJ a7 0 rfl rfl rfl rfl rfl ?_|refine aJ a7 1 rfl rfl rfl rfl rfl ?_|refine aJ a7 2 rfl rfl rfl rfl rfl ?_|refine aC a7 1 rfl rfl rfl (by assumption) rfl ?_|refine aC a7 0 rfl rfl rfl (by assumption) rfl ?_|fail)|(apply aQ; first|refine aj a7 0 rfl rfl rfl rfl rfl rfl rfl ?_|refine aj a7 1 rfl rfl rfl rfl rfl rfl rfl ?_|refine aj a7 2 rfl rfl rfl rfl rfl rfl rfl ?_|refine aj a7 3 rfl rfl rfl rfl rfl rfl rfl ?_|fail)|refine aY a7 fun _=>?_|fail)
 exact ez (cs := [.agg (jQ (0, R.have_))]) (dW R rb k q) ⟨⟨_, 0, _, _, rfl, rfl, .inr ⟨dh a7 rfl, rfl⟩⟩, trivial⟩ (List.sublist_cons_self ..) ⟨rfl, k, q, hk, rfl⟩
theorem yJ {R : RD} {m c : Nat} (hc : c < R.C) : (f4 (dO R.cls R.rows m R.C R.rows.length))[((c : Nat) : Int).toNat]? = some [jb (gH R.cls R.rows m c)] := by
 rw [Int.toNat_natCast]
 exact zL (jl hc)
set_option maxHeartbeats 4000000 in
theorem vu (R : RD) (h : wY R) (rb k : Nat) (q : Option (Nat × Nat)) (hk : k ≤ 1000001) (p : Pl) (hp : p.1 ≤ 1000000) (hp2 : p.2 < 2 ^ 64) (c : Nat) (hc : c < R.C) : AC Tryz.prog 279 [f0 rb, .agg (jQ p), aD c] (dW R rb k q) (mJ R rb (.agg (jQ (bN R.cls R.rows p c)))) := by
 refine aG Tryz.func279 rfl Tryz.ntmps279 rfl fun B => ?_
 obtain ⟨pm, pr⟩ := p
 dsimp only at hp hp2
 have hlv := rK R h rb k q hk pm hp
 have hnl := yJ (R := R) (m := pm) hc
 have hn64 : gH R.cls R.rows pm c < 2 ^ 64 := lp (by have := h.few; omega)
 have hbe : bN R.cls R.rows (pm, pr) c = if pr &&& gH R.cls R.rows pm c = 0 then (0, 0) else (pm + 1, pr &&& gH R.cls R.rows pm c) := rfl
 repeat' (first|refine ae ?_|refine a6 ?_|refine a8 ?_|refine aa ?_|refine ah a7 rfl rfl ?_|refine b9 ?_|refine aY a7 fun _=>?_|fail)
 rename_i r6
 refine ay rfl (fun h1 => ?_) (fun h1 => ?_)
 ·clear h1
  repeat' (first|refine a6 ?_|refine ah a7 rfl rfl ?_)
  refine aV (dW R rb k q) [(r6, .box [aD 0, jb 0] 377)] hlv rfl rfl (List.perm_append_comm (l₁ := [_])) rfl fun c1 L1 ⟨hc1, k1, q1, hk1, hL⟩ => ?_
  subst hc1; subst hL
  refine bq (bj (L' := (r6, .box [aD 0, jb 0] 377) :: dW R rb k1 q1) (List.perm_append_comm (l₂ := [_]))) ?_
  repeat' (first|refine ah a7 rfl rfl ?_|(apply aO; first|refine aN a7 ?_|refine aH a7 ?_)|fail)
  refine tC rfl rfl rfl ?_
  rw [u64_and_nat _ _ hp2 hn64]
  repeat' (first|refine ae ?_|refine a6 ?_|refine a8 ?_|refine aa ?_|refine ah a7 rfl rfl ?_)
  refine ay rfl (fun h2 => ?_) (fun h2 => ?_)
  ·have hz : pr &&& gH R.cls R.rows pm c = 0 := by have := Hz h2; omega
   rw [if_pos hz] at hbe
   rw [hbe]
   repeat' (first|refine ae ?_|refine a6 ?_|refine am ?_|refine a8 ?_|refine aw ?_|refine aa ?_|refine ah a7 rfl rfl ?_|(apply aQ; first|refine aj a7 0 rfl rfl rfl rfl rfl rfl rfl ?_|refine aj a7 1 rfl rfl rfl rfl rfl rfl rfl ?_|refine aj a7 2 rfl rfl rfl rfl rfl rfl rfl ?_|refine aj a7 3 rfl rfl rfl rfl rfl rfl rfl ?_|fail))
   exact ez (cs := [.agg (jQ (0, 0))]) (dW R rb k1 q1) ⟨⟨_, 0, _, _, rfl, rfl, .inr ⟨dh a7 rfl, rfl⟩⟩, trivial⟩ (List.sublist_cons_self ..) ⟨rfl, k1, q1, hk1, rfl⟩
  ·have hz : pr &&& gH R.cls R.rows pm c ≠ 0 := by have := Hy h2; omega
   rw [if_neg hz] at hbe
   rw [hbe]
   repeat' (first|refine ae ?_|refine a6 ?_|refine aq ?_|refine am ?_|refine a8 ?_|refine aa ?_|refine ah a7 rfl rfl ?_|(apply b6; refine aZ ?_)|(apply aQ; first|refine aj a7 0 rfl rfl rfl rfl rfl rfl rfl ?_|refine aj a7 1 rfl rfl rfl rfl rfl rfl rfl ?_|refine aj a7 2 rfl rfl rfl rfl rfl rfl rfl ?_|refine aj a7 3 rfl rfl rfl rfl rfl rfl rfl ?_|fail))
   refine ez (cs := [.agg (jQ (pm + 1, pr &&& gH R.cls R.rows pm c))]) (dW R rb k1 q1) ⟨⟨_, 0, _, _, rfl, rfl, .inr ⟨dh a7 rfl, rfl⟩⟩, trivial⟩ (List.sublist_cons_self ..) ⟨rfl, k1, q1, hk1, rfl⟩
 ·have hz : pr = 0 := by have := Hy h1; simpa using this
  subst hz
  rw [Nat.zero_and, if_pos rfl] at hbe
  rw [hbe]
  repeat' (first|refine ae ?_|refine a6 ?_|refine aq ?_|refine am ?_|refine a8 ?_|refine aw ?_|refine aa ?_|refine ah a7 rfl rfl ?_|(apply aQ; first|refine aj a7 0 rfl rfl rfl rfl rfl rfl rfl ?_|refine aj a7 1 rfl rfl rfl rfl rfl rfl rfl ?_|refine aj a7 2 rfl rfl rfl rfl rfl rfl rfl ?_|refine aj a7 3 rfl rfl rfl rfl rfl rfl rfl ?_|fail)|refine bK rfl ?_)
  exact ez (cs := [.agg (jQ (0, 0))]) (dW R rb k q) ⟨⟨_, 0, _, _, rfl, rfl, .inr ⟨dh a7 rfl, rfl⟩⟩, trivial⟩ (List.sublist_cons_self ..) ⟨rfl, k, q, hk, rfl⟩
set_option maxHeartbeats 4000000 in
theorem AU (R : RD) (h : wY R) (rb k : Nat) (q : Option (Nat × Nat)) (hk : k ≤ 1000001) (p : Pl) (hp : p.1 ≤ 1000000) (hp2 : p.2 < 2 ^ 64) : AC Tryz.prog 280 [f0 rb, .agg (jQ p)] (dW R rb k q) (mJ R rb (jb (gB R.rows p))) := by
 refine aG Tryz.func280 rfl Tryz.ntmps280 rfl fun B => ?_
 obtain ⟨pm, pr⟩ := p
 dsimp only at hp hp2
 have hlv := rK R h rb k q hk pm hp
 have hn64 : bY (gA R.rows pm) R.rows.length < 2 ^ 64 := lp (by have := h.few; omega)
 have hen : gB R.rows (pm, pr) = if pr = 0 then 0 else pr &&& bY (gA R.rows pm) R.rows.length := rfl
 repeat' (first|refine ae ?_|refine a6 ?_|refine a8 ?_|refine aa ?_|refine ah a7 rfl rfl ?_|refine b9 ?_|fail)
 refine ay rfl (fun h1 => ?_) (fun h1 => ?_)
 ·have hz : pr = 0 := by have := Hz h1; omega
  rw [if_pos hz] at hen
  rw [hen]
  repeat' (first|refine ae ?_|refine a6 ?_|refine am ?_|refine a8 ?_|refine aw ?_|refine aa ?_|refine ah a7 rfl rfl ?_)
  exact au rfl rfl ⟨rfl, k, q, hk, rfl⟩
 ·have hz : pr ≠ 0 := by have := Hy h1; omega
  rw [if_neg hz] at hen
  rw [hen]
  clear h1
  repeat' (first|refine ae ?_|refine aq ?_|refine a8 ?_)
  refine bF 7 [(0, .v), (1, .v), (2, .v), (3, .v), (4, .v), (5, .e), (6, .v)] none ?_ trivial rfl (by kernel_rfl) (by kernel_rfl) (by kernel_rfl) mixed (by kernel_rfl) rfl
  repeat' (first|refine aM ?_|refine bD a7 ?_|fail)
  refine hQ (dW R rb k q) [] hlv rfl rfl (by rw [List.append_nil]) trivial fun c1 L1 ⟨hc1, k1, q1, hk1, hL⟩ => ?_
  subst hc1; subst hL
  repeat' (first|refine aM ?_|refine bD a7 ?_|fail)
  refine bM [9, 14] rfl rfl ?_
  repeat' (first|fail)
  refine tC rfl rfl rfl ?_
  rw [u64_and_nat _ _ hp2 hn64]
  repeat' (first|refine am ?_|refine a8 ?_|refine aa ?_|refine ah a7 rfl rfl ?_)
  exact au rfl rfl ⟨rfl, k1, q1, hk1, by rw [List.append_nil]⟩
set_option maxRecDepth 8000
def nq (m r : Nat) : List Int := [m, 0, 0, 0, 0, 0, 0, 0, r, 0, 0, 0, 0, 0, 0, 0]
def g9 (p : Pl) : ByteArray := (nq p.1 p.2).foldl (fun r n => r.push (UInt8.ofNat n.toNat)) ByteArray.empty
def iI (p : Pl) : Prop := p.1 < 256 ∧ p.2 < 256
theorem tZ (p : Pl) : (g9 p).data.toList = (nq p.1 p.2).map fun n => UInt8.ofNat n.toNat := by
 unfold g9
 have : ∀ (l : List Int) (b : ByteArray), (l.foldl (fun r n => r.push (UInt8.ofNat n.toNat)) b).data.toList = b.data.toList ++ l.map fun n => UInt8.ofNat n.toNat := by
  intro l
  induction l with
  | nil => intro b; simp
  | cons x l ih => intro b; rw [List.foldl_cons, ih]; simp [ByteArray.push]
 rw [this]
 rfl
theorem zM {a b : Nat} (ha : a < 256) (hb : b < 256) (h : UInt8.ofNat a = UInt8.ofNat b) : a = b := by
 have := congrArg UInt8.toNat h
 simpa [UInt8.toNat_ofNat', Nat.mod_eq_of_lt ha, Nat.mod_eq_of_lt hb] using this
theorem pK {p q : Pl} (hp : iI p) (hq : iI q) (h : g9 p = g9 q) : p = q := by
 have hd := congrArg (fun b => b.data.toList) h
 simp only [tZ] at hd
 unfold nq at hd
 simp only [Hr, List.cons.injEq, Int.toNat_natCast] at hd
 exact Prod.ext (zM hp.1 hq.1 hd.1) (zM hp.2 hq.2 hd.2.2.2.2.2.2.2.2.1)
def qN (M : List Pl) (v : Value) : Option AV := match v with
 | .string s => (M.findIdx? fun p => decide (g9 p = s)).map fun i => aD (i : Nat)
 | _ => none
theorem BQ : qN [] = fun _ => none := by
 funext v
 unfold qN
 split <;> rfl
section
variable {M : List Pl} (hM : ∀ x ∈ M, iI x) {p : Pl} (hp : iI p)
include hM hp
theorem sj (h : p ∈ M) : qN M (.string (g9 p)) = some (aD (M.idxOf p : Nat)) := by
  have hi := List.idxOf_lt_length_of_mem h
  have : (M.findIdx? fun x => decide (g9 x = g9 p)) = some (M.idxOf p) := by
    rw [List.findIdx?_eq_some_iff_getElem]
    refine ⟨hi, by simp [List.getElem_idxOf hi], fun j hj => ?_⟩
    have hne : M[j] ≠ p := by
      intro e
      have := List.not_of_lt_findIdx (p := (· == p)) (xs := M) hj
      rw [e] at this
      simp at this
    simp only [decide_eq_true_eq]
    exact fun e => hne (pK (hM _ (List.getElem_mem _)) hp e)
  unfold qN
  dsimp only
  rw [this]
  rfl
theorem zw (h : p ∉ M) : qN M (.string (g9 p)) = none := by
 have : (M.findIdx? fun x => decide (g9 x = g9 p)) = none := by
  rw [List.findIdx?_eq_none_iff]
  intro x hx
  rw [decide_eq_false_iff_not]
  exact fun e => h (pK (hM x hx) hp e ▸ hx)
 unfold qN
 dsimp only
 rw [this]
 rfl
theorem BR (h : p ∉ M) : qN (M ++ [p]) (.string (g9 p)) = some (aD (M.length : Nat)) := by
 rw [sj (fun x hx => by rw [List.mem_append, List.mem_singleton] at hx; rcases hx with hx | rfl; exact hM x hx; exact hp) hp (by simp), List.idxOf_append, if_neg h, List.idxOf_cons_self, Nat.zero_add]
end
theorem wH {M : List Pl} {p : Pl} : ∀ v, v ≠ .string (g9 p) → qN (M ++ [p]) v = qN M v := by
 intro v hv
 unfold qN
 split
 ·rename_i s
  have : decide (g9 p = s) = false := by rw [decide_eq_false_iff_not]; exact fun e => hv (by rw [e])
  rw [List.findIdx?_append]
  simp [this]
 ·rfl
def nu (l : List Int) : List AV := l.map fun z => .sc (.int .u8 z)
def ow (m r i : Nat) : List Int := if i = 0 then List.replicate 16 0 else nq m r
theorem FI {m r : Nat} (hm : m < 256) (hr : r < 256) {i : Nat} (hi : i < 8) : ew (ew (nu (ow m r i)) (0 + i * 1) [.sc (.int .u8 (IntKind.u8.wrap ((m : Int) / 2 ^ min (8 * i) IntKind.i64.bits)))]) (0 + (8 + i) * 1) [.sc (.int .u8 (IntKind.u8.wrap ((r : Int) / 2 ^ min (8 * i) IntKind.u64.bits)))] = nu (ow m r (i + 1)) := by
 have h0 : ∀ z : Nat, z < 256 → ∀ k, 0 < k → k < 8 → IntKind.u8.wrap ((z : Int) / 2 ^ min (8 * k) 64) = 0 := by
  intro z hz k hk hk8
  have : (z : Int) / 2 ^ min (8 * k) 64 = 0 := by
   have e : min (8 * k) 64 = 8 * k := by omega
   rw [e]
   have h1 : 2 ^ 8 ≤ 2 ^ (8 * k) := Nat.pow_le_pow_right (by omega) (by omega)
   have h2 : z / 2 ^ (8 * k) = 0 := Nat.div_eq_of_lt (by omega)
   have h3 : (2 : Int) ^ (8 * k) = ((2 ^ (8 * k) : Nat) : Int) := (Int.natCast_pow 2 _).symm
   rw [h3, ← Int.natCast_ediv, h2]
   rfl
  rw [this]
  decide
 have h1 : ∀ z : Nat, z < 256 → IntKind.u8.wrap ((z : Int) / 2 ^ min (8 * 0) 64) = (z : Int) := by
  intro z hz
  rw [Nat.mul_zero, Nat.zero_min, Int.pow_zero, Int.ediv_one, IntKind.wrap_u8]
  omega
 show ew (ew _ _ [.sc (.int .u8 (IntKind.u8.wrap ((m : Int) / 2 ^ min (8 * i) 64)))]) _ [.sc (.int .u8 (IntKind.u8.wrap ((r : Int) / 2 ^ min (8 * i) 64)))] = _
 match i, hi with
 | 0, _ => rw [h1 m hm, h1 r hr]; rfl
 | 1, _ => rw [h0 m hm 1 (by omega) (by omega), h0 r hr 1 (by omega) (by omega)]; rfl
 | 2, _ => rw [h0 m hm 2 (by omega) (by omega), h0 r hr 2 (by omega) (by omega)]; rfl
 | 3, _ => rw [h0 m hm 3 (by omega) (by omega), h0 r hr 3 (by omega) (by omega)]; rfl
 | 4, _ => rw [h0 m hm 4 (by omega) (by omega), h0 r hr 4 (by omega) (by omega)]; rfl
 | 5, _ => rw [h0 m hm 5 (by omega) (by omega), h0 r hr 5 (by omega) (by omega)]; rfl
 | 6, _ => rw [h0 m hm 6 (by omega) (by omega), h0 r hr 6 (by omega) (by omega)]; rfl
 | 7, _ => rw [h0 m hm 7 (by omega) (by omega), h0 r hr 7 (by omega) (by omega)]; rfl
set_option maxHeartbeats 4000000 in
theorem BX (p : Pl) (hp : iI p) : bw Tryz.prog 277 [.agg (jQ p)] (.sc (.string (g9 p))) := by
 refine aG Tryz.func277 rfl Tryz.ntmps277 rfl fun B => ?_
 obtain ⟨m, r⟩ := p
 obtain ⟨hm, hr⟩ := hp
 dsimp only at hm hr
 repeat' (first|refine ae ?_|refine a6 ?_|refine ar ?_|refine a8 ?_|refine aa ?_|refine ah a7 rfl rfl ?_|refine b9 ?_|refine aY a7 fun _=>?_|fail)
 rename_i ab
 refine aI [1, 3] (α := Nat) (fun i => [(5, aD i)]) (fun i => i ≤ 8) (fun i => [(ab, .box (nu (ow m r i)) 442)]) (fun i => 8 - i) 0 rfl ⟨rfl, trivial⟩ (Nat.zero_le _) (fun _ _ h => h) fun i hi => ?_
 try dsimp only [Ht, Hs, Hr, Hn]
 repeat' (first|refine ae ?_|refine a6 ?_|refine a8 ?_|refine aa ?_|refine ah a7 rfl rfl ?_)
 refine ay rfl (fun h1 => ?_) (fun h1 => ?_)
 ·have hi8 : i < 8 := by have := Hz h1; omega
  have hst := FI hm hr hi8
  have hcl : (nu (ow m r i)).length = 16 := by unfold nu ow; split <;> rfl
  clear h1
  repeat' (first|refine ae ?_|refine a6 ?_|refine ar ?_|refine aq ?_|refine a8 ?_|refine aa ?_|refine ah a7 rfl rfl ?_|(apply b6; refine aZ ?_)|fail)
  refine yH (8 * i) rfl rfl (by rw [Int.natCast_mul]; rfl) rfl ?_
  repeat' (first|fail)
  refine jj a7 rfl rfl rfl rfl rfl rfl ?_
  refine tB a7 i rfl rfl rfl rfl (by omega) rfl ?_
  refine aj a7 0 rfl rfl rfl rfl rfl rfl (Nat.ble_eq_true_of_le (by rw [hcl]; show 0 + i * 1 + 1 ≤ 16; omega)) ?_
  repeat' (first|refine a6 ?_|refine a8 ?_|refine aa ?_|refine ah a7 rfl rfl ?_|(apply b6; refine aZ ?_)|fail)
  refine yH (8 * i) rfl rfl (by rw [Int.natCast_mul]; rfl) rfl ?_
  refine jj a7 rfl rfl rfl rfl rfl rfl ?_
  refine tB a7 (8 + i) rfl rfl rfl (by rw [Hw]; rfl) (by omega) rfl ?_
  refine aj a7 0 rfl rfl rfl rfl rfl rfl (Nat.ble_eq_true_of_le (by rw [gL, hcl]; show 0 + (8 + i) * 1 + 1 ≤ 16; omega)) ?_
  repeat' (first|refine a6 ?_|refine a8 ?_|refine aR ?_|refine aa ?_|refine ah a7 rfl rfl ?_|(apply b6; refine aZ ?_)|fail)
  exact aF (i + 1) rfl ⟨by rw [Hw]; rfl, trivial⟩ (by omega) (by omega) (fun _ _ h => by rw [← hst]; exact h)
 ·have hi8 : i = 8 := by have := Hy h1; omega
  subst hi8
  repeat' (first|refine ae ?_|refine a6 ?_|refine aL ?_|refine a8 ?_|refine av ?_|refine aA ?_|refine az ?_)
  refine yC a7 rfl rfl rfl ?_
  refine yA a7 0 (nq m r) rfl rfl rfl rfl rfl rfl rfl rfl rfl ?_
  repeat' (first|refine am ?_|refine a8 ?_|refine aa ?_|refine ah a7 rfl rfl ?_)
  refine cB (List.nil_sublist _) ?_
  exact au rfl rfl rfl
end Go.Proofs.YtamjlkdanllgjaaGreatDoor
namespace Go.Proofs.YtamjlkdanllgjaaGreatDoor
open Go.RowKit
attribute [local irreducible] AT br AX AO Av Kt aW cZ DA cw
set_option maxRecDepth 8000
section
variable {P : Program} {tt : TT} {r : Option Nat} {ops : Array Oper} {Q : Exit → Act → World → Prop} {nt : Nat} {D : List Deferred} {fr : bJ} {B : Bs} {L : AL} {rest : List Oper} {d : Nat} {ty t t' : TypeId} {pos : String} {af : Array Edge} {x y z : Operand} {u : AV}
theorem Bm (ok : dG P tt) (n : Nat) {e sz by_ : Nat} {k k' : IntKind} {b : Int} {zs : List Value} (ht : jH tt t = some (e, sz, by_)) (hz : zI tt e = some zs) (hzl : Nat.beq zs.length sz = true) (hx : bh fr x = some (.sc (.int k 0))) (hy : bh fr y = some (.sc (.int k' b))) (hb : b = (n : Int)) (hby : by_ * n ≤ 281474976710656) (h63 : n ≤ 9223372036854775807) (hd : Nat.ble nt d = false)
  (h : ∀ b, br P r ops Q nt D rest ((d, .vec (some (b, n)) sz []) :: fr) B ((b, .vec e sz 0 n) :: L)) : br P r ops Q nt D (⟨some d, .makeSlice t x y, ty, pos, af, none⟩ :: rest) fr B L :=
 bW hd rfl (xp (bz ok ht).1 (ek ok hz) (Nat.eq_of_beq_eq_true hzl) (bz ok ht).2 hx hy hb hby h63) fun c L' ⟨b, h1, h2⟩ => by subst h1; subst h2; exact h b
end
def ql (nb kb mb : Nat) (M : List Pl) (q : Option (Nat × Nat)) : AL := (nb, .box [.sc (.map (some kb))] 196) :: (kb, bP .string (qN M)) :: (mb, .box [.vec q 2 (M.map jQ)] 375) :: tok q 377 2 M.length
def zU (nb kb mb : Nat) (M : List Pl) (u : AV) : AV → AL → Prop := fun c L => c = u ∧ ∃ q, L = ql nb kb mb M q
set_option maxHeartbeats 4000000 in
theorem uL (nb kb mb : Nat) (M : List Pl) (hM : ∀ x ∈ M, iI x) (hl : M.length ≤ 1000000) (q : Option (Nat × Nat)) (p : Pl) (hp : iI p) : AC Tryz.prog 276 ([.agg (jQ p)] ++ [f0 nb, f0 mb]) (ql nb kb mb M q) (zU nb kb mb (df M p) (aD ((df M p).idxOf p : Nat))) := by
 refine aG Tryz.func276 rfl Tryz.ntmps276 rfl fun B => ?_
 haveI := AD.mk (BX p hp)
 have hml : (M.map jQ).length = M.length := Hv ..
 unfold ql
 repeat' (first|refine ae ?_|refine a6 ?_|refine a8 ?_|refine aa ?_|refine ah a7 rfl rfl ?_|(apply c9; first|refine aC a7 0 rfl rfl rfl rfl rfl ?_|refine aC a7 1 rfl rfl rfl rfl rfl ?_|refine aC a7 2 rfl rfl rfl rfl rfl ?_|refine aC a7 3 rfl rfl rfl rfl rfl ?_|refine aJ a7 0 rfl rfl rfl rfl rfl ?_|refine aJ a7 1 rfl rfl rfl rfl rfl ?_|refine aJ a7 2 rfl rfl rfl rfl rfl ?_|refine aC a7 1 rfl rfl rfl (by assumption) rfl ?_|refine aC a7 0 rfl rfl rfl (by assumption) rfl ?_|fail)|refine b9 ?_|(apply bc;refine aX ?_)|fail)
 refine fj 1 (.int .i64 0) Tryz.underlying196 Tryz.underlying9 rfl rfl trivial rfl (by kernel_rfl) rfl ?_
 by_cases hm : p ∈ M
 ·have hg := sj hM hp hm
  have ht := ey hm
  rw [hg, ht]
  repeat' (first|refine ae ?_|refine a6 ?_|refine aq ?_|refine am ?_|refine a8 ?_|refine aa ?_|refine ah a7 rfl rfl ?_|refine bi rfl ?_)
  exact au rfl rfl ⟨rfl, q, rfl⟩
 ·have hg := zw hM hp hm
  have hpu := BR hM hp hm
  have ht := eX hm
  have hn := l6 hm
  rw [hg]
  repeat' (first|refine ae ?_|refine a6 ?_|refine a8 ?_|refine aa ?_|refine ah a7 rfl rfl ?_|(apply c9; first|refine aC a7 0 rfl rfl rfl rfl rfl ?_|refine aC a7 1 rfl rfl rfl rfl rfl ?_|refine aC a7 2 rfl rfl rfl rfl rfl ?_|refine aC a7 3 rfl rfl rfl rfl rfl ?_|refine aJ a7 0 rfl rfl rfl rfl rfl ?_|refine aJ a7 1 rfl rfl rfl rfl rfl ?_|refine aJ a7 2 rfl rfl rfl rfl rfl ?_|refine aC a7 1 rfl rfl rfl (by assumption) rfl ?_|refine aC a7 0 rfl rfl rfl (by assumption) rfl ?_|fail)|refine bK rfl ?_)
  refine cH 1 (qN (M ++ [p])) Tryz.underlying196 Tryz.underlying9 rfl rfl trivial (by rw [hml]; rfl) rfl hpu wH ?_
  repeat' (first|refine a6 ?_|refine a8 ?_|refine aa ?_|refine ah a7 rfl rfl ?_|(apply c9; first|refine aC a7 0 rfl rfl rfl rfl rfl ?_|refine aC a7 1 rfl rfl rfl rfl rfl ?_|refine aC a7 2 rfl rfl rfl rfl rfl ?_|refine aC a7 3 rfl rfl rfl rfl rfl ?_|refine aJ a7 0 rfl rfl rfl rfl rfl ?_|refine aJ a7 1 rfl rfl rfl rfl rfl ?_|refine aJ a7 2 rfl rfl rfl rfl rfl ?_|refine aC a7 1 rfl rfl rfl (by assumption) rfl ?_|refine aC a7 0 rfl rfl rfl (by assumption) rfl ?_|fail)|refine cE a7 ?_|fail)
  refine cP a7 [(nb, .box [.sc (.map (some kb))] 196), (kb, bP .string (qN (M ++ [p]))), (mb, .box [.vec q 2 (M.map jQ)] 375)] rfl rfl rfl rfl ?_ (by rw [hml]; simp; omega) (by rw [hml]; simp; omega) rfl fun q' => ?_
  ·rw [hml]
   exact List.perm_append_comm (l₁ := [_, _, _])
  have hsn : M.map jQ ++ [jQ p] = (M ++ [p]).map jQ := by rw [List.map_append]; rfl
  refine bq (bj (L' := (nb, .box [.sc (.map (some kb))] 196) :: (kb, bP .string (qN (M ++ [p]))) :: (mb, .box [.vec q 2 (M.map jQ)] 375) :: tok q' 377 2 (M.map jQ ++ [jQ p]).length) (List.perm_append_comm (l₂ := [_, _, _]))) ?_
  repeat' (first|refine ae ?_|refine a6 ?_|refine am ?_|refine a8 ?_|refine aa ?_|refine ah a7 rfl rfl ?_|(apply aQ; first|refine aj a7 0 rfl rfl rfl rfl rfl rfl rfl ?_|refine aj a7 1 rfl rfl rfl rfl rfl rfl rfl ?_|refine aj a7 2 rfl rfl rfl rfl rfl rfl rfl ?_|refine aj a7 3 rfl rfl rfl rfl rfl rfl rfl ?_|fail))
  refine au rfl rfl ⟨?_, q', ?_⟩
  ·rw [hml, hn]
  ·rw [ht, hsn, Hv]
   unfold ql
   rw [← hsn]
   rfl
theorem vr (r : bn) : bw Tryz.prog 283 [.agg (bL r)] (.tup [.imm 1 (ba r.Back), ce true]) := by
 refine aG Tryz.func283 rfl Tryz.ntmps283 rfl fun B => ?_
 repeat' (first|refine ae ?_|refine a6 ?_|refine am ?_|refine a8 ?_|refine aa ?_|refine ah a7 rfl rfl ?_|refine b9 ?_|fail)
 exact aS rfl rfl rfl rfl
set_option maxHeartbeats 4000000 in
theorem vP (r : bn) (h1 : r.In.length ≤ 1000000) (h2 : r.Ahead.length ≤ 1000000) : bw Tryz.prog 282 [.agg (bL r)] (.tup [.imm 1 (ba (dV r)), ce (!r.In.isEmpty)]) := by
 refine aG Tryz.func282 rfl Tryz.ntmps282 rfl fun B => ?_
 have hil := c8 r.In
 have hal := c8 r.Ahead
 repeat' (first|refine ae ?_|refine a6 ?_|refine a8 ?_|refine aa ?_|refine ah a7 rfl rfl ?_|refine b9 ?_|fail)
 refine ay rfl (fun h => ?_) (fun h => ?_)
 ·have hz : r.In = [] := List.eq_nil_of_length_eq_zero (by have := Hz h; omega)
  unfold dV
  rw [hz]
  clear h
  repeat' (first|refine ae ?_|refine a6 ?_|refine am ?_|refine a8 ?_|refine aw ?_|refine aa ?_|refine ah a7 rfl rfl ?_)
  refine bf (bA (t := 2) (c' := .imm 1 []) rfl fun σ v h => dA 1 h) ?_
  exact aS rfl rfl rfl rfl
 ·have hz : r.In ≠ [] := fun e => by have := Hy h; rw [hil, e] at this; simp at this
  have he : r.In.isEmpty = false := by cases hr : r.In; exact absurd hr hz; rfl
  unfold dV
  rw [he]
  clear h
  repeat' (first|refine ae ?_|refine a6 ?_|refine aq ?_|refine a8 ?_|refine ah a7 rfl rfl ?_|(apply b6; refine aZ ?_)|fail)
  refine Bm a7 (r.In.length + r.Ahead.length) rfl rfl rfl rfl rfl (by rw [hil, hal, Hw]) (by omega) (by omega) rfl fun b => ?_
  repeat' (first|refine ae ?_|refine a6 ?_|refine a8 ?_|refine aa ?_|refine ah a7 rfl rfl ?_)
  refine cP a7 [] rfl rfl rfl rfl (by rw [List.append_nil]; exact Hp _) (by simp; omega) (by simp; omega) rfl fun q1 => ?_
  repeat' (first|refine ae ?_|refine a6 ?_|refine a8 ?_|refine aa ?_|refine ah a7 rfl rfl ?_)
  refine cP a7 [] rfl rfl rfl rfl (Hp _) (by simp; omega) (by simp; omega) rfl fun q2 => ?_
  repeat' (first|refine am ?_|refine a8 ?_|refine aa ?_|refine ah a7 rfl rfl ?_)
  have hra : ba (r.In ++ r.Ahead) = [] ++ ba r.In ++ ba r.Ahead := by simp [ba]
  refine bf (bA (t := 2) (c' := .imm 1 (ba (r.In ++ r.Ahead))) rfl fun σ v h => by rw [hra]; exact VR.im h) ?_
  refine cB (List.nil_sublist _) ?_
  exact aS rfl rfl rfl rfl
end Go.Proofs.YtamjlkdanllgjaaGreatDoor
