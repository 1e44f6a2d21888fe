/-
  Which lookups are done, and for which forms.
-/
import Derived.Test.YtamjlkdanllgjaaGreatDoorM19
import Derived.Test.YtamjlkdanllgjaaGreatDoorM15
import Derived.Test.YtamjlkdanllgjaaGreatDoorM17
import Derived.Test.YtamjlkdanllgjaaGreatDoorM18
import Derived.Test.YtamjlkdanllgjaaGreatDoorM12
namespace Go.Proofs.YtamjlkdanllgjaaGreatDoor
open Go.RowKit
attribute [local irreducible] AT br AX AO Av Kt aW cZ DA cw
set_option maxRecDepth 8000
abbrev FE : ByteArray := ⟨#[105, 115, 111, 108]⟩
abbrev FD : ByteArray := ⟨#[105, 110, 105, 116]⟩
abbrev FF : ByteArray := ⟨#[109, 101, 100, 105]⟩
abbrev FC : ByteArray := ⟨#[102, 105, 110, 97]⟩
def d4 (s : ByteArray) : Int := if s = FE then 1 else if s = FD then 2 else if s = FF then 3 else if s = FC then 4 else 0
theorem rF (s : ByteArray) : 0 ≤ d4 s ∧ d4 s ≤ 4 := by unfold d4; split; decide; split; decide; split; decide; split <;> decide
theorem Di (s : ByteArray) : bw Tryz.prog 27 [qS s] (aD (d4 s)) := by
 refine aG Tryz.func27 rfl Tryz.ntmps27 rfl fun B => ?_
 repeat' (first|refine ae ?_|refine a6 ?_|refine ar ?_|refine a8 ?_|refine aa ?_|refine ah a7 rfl rfl ?_)
 refine ay rfl (fun h1 => ?_) (fun h1 => ?_)
 ·repeat' (first|refine ae ?_|refine a6 ?_|refine am ?_|refine a8 ?_|refine aw ?_|refine aK ?_|refine aa ?_|refine ah a7 rfl rfl ?_)
  exact au rfl rfl (by rw [d4, if_pos (Hz h1)])
 repeat' (first|refine ae ?_|refine a6 ?_|refine a8 ?_|refine aa ?_|refine ah a7 rfl rfl ?_)
 refine ay rfl (fun h2 => ?_) (fun h2 => ?_)
 ·repeat' (first|refine ae ?_|refine a6 ?_|refine am ?_|refine a8 ?_|refine aw ?_|refine aK ?_|refine aa ?_|refine ah a7 rfl rfl ?_)
  exact au rfl rfl (by rw [d4, if_neg (Hy h1), if_pos (Hz h2)])
 repeat' (first|refine ae ?_|refine a6 ?_|refine a8 ?_|refine aa ?_|refine ah a7 rfl rfl ?_)
 refine ay rfl (fun h3 => ?_) (fun h3 => ?_)
 ·repeat' (first|refine ae ?_|refine a6 ?_|refine am ?_|refine a8 ?_|refine aw ?_|refine aK ?_|refine aa ?_|refine ah a7 rfl rfl ?_)
  exact au rfl rfl (by rw [d4, if_neg (Hy h1), if_neg (Hy h2), if_pos (Hz h3)])
 repeat' (first|refine ae ?_|refine a6 ?_|refine a8 ?_|refine aa ?_|refine ah a7 rfl rfl ?_)
 refine ay rfl (fun h4 => ?_) (fun h4 => ?_)
 ·repeat' (first|refine ae ?_|refine a6 ?_|refine am ?_|refine a8 ?_|refine aw ?_|refine aK ?_|refine aa ?_|refine ah a7 rfl rfl ?_)
  exact au rfl rfl (by rw [d4, if_neg (Hy h1), if_neg (Hy h2), if_neg (Hy h3), if_pos (Hz h4)])
 repeat' (first|refine ae ?_|refine a6 ?_|refine aq ?_|refine am ?_|refine a8 ?_|refine aR ?_|refine aa ?_|refine ah a7 rfl rfl ?_)
 exact au rfl rfl (by rw [d4, if_neg (Hy h1), if_neg (Hy h2), if_neg (Hy h3), if_neg (Hy h4)])
instance (s : ByteArray) : AD Tryz.prog 27 [qS s] (aD (d4 s)) := ⟨Di s⟩
def ee (bs : List Bool) (n : Nat) : List Int := ((List.range n).filter fun k => bs.getD k false && !bs.getD 0 false).map fun (k : Nat) => (k : Int)
theorem tK (bs : List Bool) (n : Nat) : ee bs (n + 1) = ee bs n ++ (if bs.getD n false = true ∧ bs.getD 0 false = false then [(n : Int)] else []) := by
 unfold ee
 rw [List.range_succ, List.filter_append, List.map_append]
 congr 1
 by_cases h : bs.getD n false = true ∧ bs.getD 0 false = false
 ·rw [if_pos h, List.filter_cons, if_pos (by simp only [h.1, h.2]; rfl)]; rfl
 ·rw [if_neg h, List.filter_cons, if_neg (by intro hc; simp at hc; exact h (by simpa using hc))]; rfl
theorem wq (bs : List Bool) (n : Nat) : (ee bs n).length ≤ n := by
 unfold ee
 rw [Hv]
 exact Nat.le_trans (List.length_filter_le ..) (by simp)
theorem DY (b0 b1 b2 b3 b4 : Bool) : bw Tryz.prog 29 [.agg [ce b0, ce b1, ce b2, ce b3, ce b4]] (.imm 1 (aT (ee [b0, b1, b2, b3, b4] 5))) := by
 refine aG Tryz.func29 rfl Tryz.ntmps29 rfl fun B => ?_
 repeat' (first|refine ae ?_|refine a6 ?_|refine ar ?_|refine a8 ?_|refine aa ?_|refine ah a7 rfl rfl ?_|refine b9 ?_|fail)
 refine cA (bA (t := 3) rfl fun σ v h => er 1 h) ?_
 refine aI [1, 6] (α := Nat × Option (Nat × Nat)) (fun s => [(3, .vec s.2 1 (aT (ee [b0, b1, b2, b3, b4] s.1))), (7, aD s.1)]) (fun s => s.1 ≤ 5) (fun s => tok s.2 3 1 (ee [b0, b1, b2, b3, b4] s.1).length) (fun s => 5 - s.1) (0, none) rfl ⟨rfl, rfl, trivial⟩ (Nat.zero_le _) (fun _ _ h => h) ?_
 rintro ⟨i, k⟩ hi
 dsimp only at hi ⊢
 have hln := wq [b0, b1, b2, b3, b4] i
 have hin := bg (ee [b0, b1, b2, b3, b4] i)
 try dsimp only [Ht, Hs, Hr, Hn]
 repeat' (first|refine ae ?_|refine a6 ?_|refine a8 ?_|refine aa ?_|refine ah a7 rfl rfl ?_)
 refine ay rfl (fun h => ?_) (fun h => ?_)
 ·have hi5 : i < 5 := by have := Hz h; omega
  obtain ⟨u, hu⟩ : ∃ u, ([b0, b1, b2, b3, b4] : List Bool)[i]? = some u := ⟨_, Eg hi5⟩
  have hug : ([ce b0, ce b1, ce b2, ce b3, ce b4] : List AV)[i]? = some (ce u) := by
   have : ([ce b0, ce b1, ce b2, ce b3, ce b4] : List AV) = ([b0, b1, b2, b3, b4] : List Bool).map fun b => ce b := rfl
   rw [this, List.getElem?_map, hu]
   rfl
  have hsu := tK [b0, b1, b2, b3, b4] i
  rw [List.getD_eq_getElem?_getD, hu] at hsu
  clear h
  repeat' (first|refine ae ?_|refine a6 ?_|refine ar ?_|refine aq ?_|refine a8 ?_|refine ah a7 rfl rfl ?_)
  refine DG a7 i rfl rfl rfl rfl rfl hi5 hug rfl ?_
  cases u with
  | false =>
   rw [if_neg (by simp), List.append_nil] at hsu
   repeat' (first|refine ae ?_|refine a6 ?_|refine aq ?_|refine a8 ?_|refine aR ?_|refine aa ?_|refine ah a7 rfl rfl ?_|refine aE rfl rfl rfl rfl ?_|(apply b6; refine aZ ?_)|refine bi rfl ?_)
   exact aF (i + 1, k) rfl ⟨by rw [hsu]; rfl, by rw [Hw]; rfl, trivial⟩ (by dsimp only; omega) (by dsimp only; omega) (fun _ _ h => by rw [hsu]; exact h)
  | true =>
   repeat' (first|refine ae ?_|refine a6 ?_|refine a8 ?_|refine aa ?_|refine ah a7 rfl rfl ?_|refine aB rfl rfl ?_)
   refine Ff a7 0 ?_
   repeat' (first|refine a8 ?_|refine aa ?_|refine ah a7 rfl rfl ?_|refine aB rfl rfl ?_)
   cases b0 with
   | true =>
    rw [if_neg (by simp), List.append_nil] at hsu
    repeat' (first|refine a6 ?_|refine aq ?_|refine a8 ?_|refine aR ?_|refine aa ?_|refine ah a7 rfl rfl ?_|(apply b6; refine aZ ?_)|refine bi rfl ?_)
    exact aF (i + 1, k) rfl ⟨by rw [hsu]; rfl, by rw [Hw]; rfl, trivial⟩ (by dsimp only; omega) (by dsimp only; omega) (fun _ _ h => by rw [hsu]; exact h)
   | false =>
    rw [if_pos (by simp)] at hsu
    have hia := nN (ee [false, b1, b2, b3, b4] i) [(i : Int)]
    rw [← hsu] at hia
    repeat' (first|refine a6 ?_|refine ah a7 rfl rfl ?_|refine cE a7 ?_|refine bK rfl ?_)
    refine cP a7 [] rfl rfl rfl rfl (by rw [hin, List.append_nil]) (by rw [hin]; simp; omega) (by rw [hin]; simp; omega) rfl fun k' => ?_
    rw [show aT (ee [false, b1, b2, b3, b4] i) ++ [[AV.sc (.int .i64 (i : Int))]] = aT (ee [false, b1, b2, b3, b4] (i + 1)) from hia, bg, List.append_nil]
    repeat' (first|refine a6 ?_|refine a8 ?_|refine aR ?_|refine aa ?_|refine ah a7 rfl rfl ?_|(apply b6; refine aZ ?_)|fail)
    exact aF (i + 1, k') rfl ⟨rfl, by rw [Hw]; rfl, trivial⟩ (by dsimp only; omega) (by dsimp only; omega) (fun _ _ h => h)
 ·have hi5 : i = 5 := by have := Hy h; omega
  subst hi5
  repeat' (first|refine ae ?_|refine a6 ?_|refine am ?_|refine aL ?_|refine a8 ?_|refine av ?_|refine aA ?_|refine az ?_|refine aa ?_|refine ah a7 rfl rfl ?_)
  refine cB (List.nil_sublist _) ?_
  refine bf (bA (t := 2) rfl fun σ v h => h.im) ?_
  exact au rfl rfl rfl
set_option maxRecDepth 8000
theorem pq {want : List ByteArray} {i : Nat} {z : ByteArray} (h : want[i]? = some z) (s : ByteArray) : lH (want.take (i + 1)) s = (lH (want.take i) s || decide (z = s)) := by
 unfold lH
 rw [List.take_add_one, h, List.any_append]
 simp
def mB (want : List ByteArray) : Value → Option AV
 | .string s => if lH want s then some (ce true) else none
 | _ => none
theorem Aa (want : List ByteArray) (s : ByteArray) : (mB want (.string s)).getD (.sc (.bool false)) = ce (lH want s) := by
 show ((if lH want s then some (ce true) else none : Option AV)).getD (.sc (.bool false)) = _
 cases lH want s <;> rfl
def pb (want : List ByteArray) (t : bI) : List (Int × Int) := if lH want t.Name then t.Lookups.map fun l => (d4 t.Name, l) else []
def bS (want : List ByteArray) (fs : List bI) : List (Int × Int) := (fs.map (pb want)).flatten
def ju (ps : List (Int × Int)) (l : Int) : Bool := ps.any fun p => decide (p.2 = l)
def dD (ps : List (Int × Int)) (k l : Int) : Bool := ps.any fun p => decide (p = (k, l))
def jG (ps : List (Int × Int)) (l : Int) : List Bool := [dD ps 0 l, dD ps 1 l, dD ps 2 l, dD ps 3 l, dD ps 4 l]
def gN (ps : List (Int × Int)) (l : Int) : List AV := [ce (dD ps 0 l), ce (dD ps 1 l), ce (dD ps 2 l), ce (dD ps 3 l), ce (dD ps 4 l)]
def oP (ps : List (Int × Int)) : Value → Option AV
 | .int .i64 l => if ju ps l then some (.agg (gN ps l)) else none
 | _ => none
def Dd : List (Int × Int) → List Int
 | [] => []
 | p :: r => if ju r p.2 then Dd r else Dd r ++ [p.2]
def mO (ps : List (Int × Int)) : List Int := Dd ps.reverse
theorem y4 (ps : List (Int × Int)) (l : Int) : ju ps.reverse l = ju ps l := by unfold ju; rw [List.any_reverse]
theorem xP (ps : List (Int × Int)) (p : Int × Int) : mO (ps ++ [p]) = if ju ps p.2 then mO ps else mO ps ++ [p.2] := by
 unfold mO
 rw [List.reverse_append, List.reverse_singleton, List.singleton_append, Dd, y4]
theorem uv : ∀ ps : List (Int × Int), (Dd ps).length ≤ ps.length
 | [] => Nat.le_refl _
 | p :: r => by
  have := uv r
  unfold Dd
  split
  ·simp; omega
  ·simp; omega
theorem q4 (ps : List (Int × Int)) : (mO ps).length ≤ ps.length := by have := uv ps.reverse; rwa [List.length_reverse] at this
theorem rQ {ps : List (Int × Int)} {l : Int} (h : ju ps l = false) (k : Int) : dD ps k l = false := by
 unfold ju at h
 unfold dD
 rw [List.any_eq_false] at h ⊢
 intro p hp he
 have := Hz he
 subst this
 exact h _ hp (by simp)
theorem tO {ps : List (Int × Int)} {l : Int} (h : ju ps l = false) : gN ps l = [ce false, ce false, ce false, ce false, ce false] := by
 unfold gN
 simp only [rQ h]
theorem mn (ps : List (Int × Int)) (p : Int × Int) (k l : Int) : dD (ps ++ [p]) k l = (dD ps k l || decide (p = (k, l))) := by
 unfold dD
 rw [List.any_append]
 simp
theorem tP (ps : List (Int × Int)) (m : Nat) (hm : m ≤ 4) (l : Int) : (gN ps l).set m (ce true) = gN (ps ++ [((m : Int), l)]) l := by
 have : m = 0 ∨ m = 1 ∨ m = 2 ∨ m = 3 ∨ m = 4 := by omega
 unfold gN
 simp only [mn]
 rcases this with rfl | rfl | rfl | rfl | rfl <;> simp
theorem sa (ps : List (Int × Int)) {m : Int} {l l' : Int} (h : l' ≠ l) : gN (ps ++ [(m, l)]) l' = gN ps l' := by
 unfold gN
 simp only [mn]
 have : ∀ k : Int, decide ((m, l) = (k, l')) = false := fun k => decide_eq_false fun e => h (by injection e with _ e; exact e.symm)
 simp only [this, Bool.or_false]
theorem po (ps : List (Int × Int)) (p : Int × Int) (l : Int) : ju (ps ++ [p]) l = (ju ps l || decide (p.2 = l)) := by
 unfold ju
 rw [List.any_append]
 simp
theorem yL (ps : List (Int × Int)) (m l : Int) : oP (ps ++ [(m, l)]) (.int .i64 l) = some (.agg (gN (ps ++ [(m, l)]) l)) := by
 show (if ju (ps ++ [(m, l)]) l = true then some (AV.agg (gN (ps ++ [(m, l)]) l)) else none) = _
 rw [po]
 simp
theorem wi (ps : List (Int × Int)) (m l : Int) (q : Value) (h : q ≠ .int .i64 l) : oP (ps ++ [(m, l)]) q = oP ps q := by
 unfold oP
 split
 ·rename_i l'
  have hne : l' ≠ l := fun e => h (by rw [e])
  rw [po, decide_eq_false (show ¬ (m, l).2 = l' from fun e => hne e.symm), Bool.or_false, sa ps hne]
 ·rfl
theorem yK (ps : List (Int × Int)) (l : Int) : (oP ps (.int .i64 l)).getD (.agg [ce false, ce false, ce false, ce false, ce false]) = .agg (gN ps l) ∧ (oP ps (.int .i64 l)).isSome = ju ps l := by
 unfold oP
 cases h : ju ps l with
 | true => simp [h]
 | false => simp [h, tO h]
def zS (q : Option (Nat × Nat × List AV)) (ls : List Int) : Prop := match q with
 | none => ls = []
 | some (_, cap, js) => ls.length + js.length = cap ∧ cap ≤ maxLen
def Bh (q : Option (Nat × Nat × List AV)) (ls : List Int) : AV := match q with
 | none => .sc (.slice none 0 0)
 | some (b, cap, _) => .sc (.slice (some ⟨b, 0, none⟩) ls.length cap)
def FP (q : Option (Nat × Nat × List AV)) (ls : List Int) : AL := match q with
 | none => []
 | some (b, _, js) => [(b, .box (ls.map aD ++ js) 3)]
def cm (want : List ByteArray) (f : aP) : List Int := eF (mO (bS want f.Features))
def eS (want : List ByteArray) (f : aP) : List (List Int) := (cm want f).map fun l => ee (jG (bS want f.Features) l) 5
abbrev C8 : TypeDesc := .string
theorem sv (σ : bT) : VR σ (.agg [ce false, ce false, ce false, ce false, ce false]) (.agg #[.bool false, .bool false, .bool false, .bool false, .bool false]) :=
 .agg _ [.bool false, .bool false, .bool false, .bool false, .bool false] rfl (cz.cons (.sc _) (cz.cons (.sc _) (cz.cons (.sc _) (cz.cons (.sc _) (cz.cons (.sc _) cz.nil))))).2 (by intro u hu; simp at hu; rw [hu]; rfl)
set_option maxHeartbeats 16000000 in
theorem yT (f : aP) (want : List ByteArray) (hF : f.Features.length ≤ 1000000) (hp : (bS want f.Features).length ≤ 1000000) : bw Tryz.prog 10 [cf f, .imm 1 (sn want)] (.tup [.imm 1 (aT (cm want f)), .imm 1 (ba (eS want f))]) := by
 refine aG Tryz.func10 rfl Tryz.ntmps10 rfl fun B => ?_
 refine cJ 1 rfl rfl fun hlen => ?_
 have hsl := zB want
 rw [hsl] at hlen
 repeat' (first|refine ae ?_|refine a6 ?_|refine a8 ?_|refine aa ?_|refine ah a7 rfl rfl ?_|refine b9 ?_|fail)
 refine dg C8 fun ab => ?_
 repeat' (first|refine ae ?_|refine a6 ?_|refine ar ?_|refine a8 ?_|refine aa ?_|refine ah a7 rfl rfl ?_)
 refine aI [2, 4, 5, 6, 20, 21] (α := Nat) (fun i => [(22, aD i)]) (fun i => i ≤ want.length) (fun i => [(ab, bP C8 (mB (want.take i)))]) (fun i => want.length - i) 0 rfl ⟨rfl, trivial⟩ (Nat.zero_le _) (fun σ w h => ?_) fun i hi => ?_
 ·rw [show mB (want.take 0) = fun _ => none from funext fun v => by cases v <;> rfl]
  exact h
 try dsimp only [Ht, Hs, Hr, Hn]
 repeat' (first|refine ae ?_|refine a6 ?_|refine a8 ?_|refine aa ?_|refine ah a7 rfl rfl ?_)
 refine ay rfl (fun h => ?_) (fun h => ?_)
 ·have hil : i < want.length := by have := Hz h; omega
  obtain ⟨z, hz⟩ : ∃ z, want[i]? = some z := ⟨_, Eg hil⟩
  have hzg := zA hz
  clear h
  repeat' (first|refine ae ?_|refine a6 ?_|refine ar ?_|refine aq ?_|refine a8 ?_|refine aa ?_|refine ah a7 rfl rfl ?_|(apply aO; first|refine aN a7 ?_|refine aH a7 ?_)|fail)
  refine cH 0 (mB (want.take (i + 1))) Tryz.underlying86 Tryz.underlying9 rfl rfl trivial rfl rfl ?_ (fun q hq => ?_) ?_
  ·show (if lH (want.take (i + 1)) z then some (ce true) else none) = _
   rw [pq hz]
   simp
  ·unfold mB
   split
   ·rename_i s
    rw [pq hz, decide_eq_false (show ¬ z = s from fun e => hq (by rw [e])), Bool.or_false]
   ·rfl
  repeat' (first|refine a6 ?_|refine a8 ?_|refine aR ?_|refine aa ?_|refine ah a7 rfl rfl ?_|(apply b6; refine aZ ?_)|fail)
  exact aF (i + 1) rfl ⟨by rw [Hw]; rfl, trivial⟩ hil (by omega) (fun _ _ h => h)
 have hil : i = want.length := by have := Hy h; omega
 subst hil
 rw [List.take_length]
 clear h
 repeat' (first|refine ae ?_|refine a6 ?_|refine aL ?_|refine a8 ?_|refine av ?_|refine aA ?_|refine az ?_)
 refine dg (.int .i64) fun nb => ?_
 repeat' (first|refine ae ?_|refine a6 ?_|refine ar ?_|refine a8 ?_|refine aa ?_|refine ah a7 rfl rfl ?_)
 have hfl : (f.Features.map bC).length = f.Features.length := Hv ..
 have hpre : ∀ i, (bS want (f.Features.take i)).length ≤ 1000000 := fun i => by
  have : bS want f.Features = bS want (f.Features.take i) ++ bS want (f.Features.drop i) := by
   unfold bS
   rw [← List.flatten_append, ← List.map_append, List.take_append_drop]
  rw [this, List.length_append] at hp
  omega
 refine aI [5, 6, 9, 31, 32] (α := Nat × Option (Nat × Nat × List AV)) (fun s => [(4, Bh s.2 (mO (bS want (f.Features.take s.1)))), (33, aD s.1)]) (fun s => s.1 ≤ f.Features.length ∧ zS s.2 (mO (bS want (f.Features.take s.1)))) (fun s => [(nb, bP (.int .i64) (oP (bS want (f.Features.take s.1)))), (ab, bP C8 (mB want))] ++ FP s.2 (mO (bS want (f.Features.take s.1)))) (fun s => f.Features.length - s.1) (0, none) rfl ⟨rfl, rfl, trivial⟩ ⟨Nat.zero_le _, rfl⟩ (fun σ w h => ?_) ?_
 ·show ct B σ ([(nb, bP (.int .i64) (oP [])), (ab, bP C8 (mB want))] ++ []) w
  rw [show oP [] = fun _ => none from funext fun v => by
   unfold oP
   split <;> rfl]
  exact h
 rintro ⟨i, q⟩ ⟨hi, hq⟩
 dsimp only at hi hq ⊢
 try dsimp only [Ht, Hs, Hr, Hn]
 repeat' (first|refine ae ?_|refine a6 ?_|refine a8 ?_|refine aa ?_|refine ah a7 rfl rfl ?_)
 refine ay rfl (fun h => ?_) (fun h => ?_)
 ·have hil : i < f.Features.length := by have := Hz h; omega
  obtain ⟨t, ht⟩ : ∃ z, f.Features[i]? = some z := ⟨_, Eg hil⟩
  have htg := bO (c := bC) ht
  have hsucc : bS want (f.Features.take (i + 1)) = bS want (f.Features.take i) ++ pb want t := by
   unfold bS
   rw [List.take_add_one, ht, List.map_append, List.flatten_append]
   simp
  clear h
  have hps := hpre (i + 1)
  rw [hsucc, List.length_append] at hps
  generalize bS want (f.Features.take i) = ps at *
  repeat' (first|refine ae ?_|refine a6 ?_|refine ar ?_|refine aq ?_|refine a8 ?_|refine aa ?_|refine ah a7 rfl rfl ?_|(apply aO; first|refine aN a7 ?_|refine aH a7 ?_)|(apply aQ; first|refine ai 11 a7 0 rfl rfl rfl rfl rfl rfl rfl rfl ?_|refine ai 11 a7 1 rfl rfl rfl rfl rfl rfl rfl rfl ?_|refine ai 11 a7 2 rfl rfl rfl rfl rfl rfl rfl rfl ?_|refine aj a7 0 rfl rfl rfl rfl rfl rfl rfl ?_|refine aj a7 1 rfl rfl rfl rfl rfl rfl rfl ?_|refine aj a7 2 rfl rfl rfl rfl rfl rfl rfl ?_|refine aj a7 3 rfl rfl rfl rfl rfl rfl rfl ?_|fail)|refine aY a7 fun _=>?_|fail)
  refine iW 1 (.bool false) Tryz.underlying86 Tryz.underlying9 rfl rfl trivial rfl (by kernel_rfl) rfl ?_
  rw [show (mB want (.string t.Name)).getD (.sc (.bool false)) = ce (lH want t.Name) from Aa want t.Name]
  repeat' (first|refine a8 ?_|refine aa ?_|refine ah a7 rfl rfl ?_)
  cases hw : lH want t.Name with
  | false =>
   have hft : pb want t = [] := by unfold pb; rw [hw]; rfl
   rw [hft, List.append_nil] at hsucc
   repeat' (first|refine a6 ?_|refine aL ?_|refine a8 ?_|refine av ?_|refine aA ?_|refine aa ?_|refine ah a7 rfl rfl ?_|(apply b6; refine aZ ?_)|refine bK rfl ?_)
   exact aF (i + 1, q) rfl ⟨by rw [hsucc]; rfl, by rw [Hw]; rfl, trivial⟩ ⟨hil, by dsimp only; rw [hsucc]; exact hq⟩ (by dsimp only; omega) (fun _ _ h => by rw [hsucc]; exact h)
  | true =>
   have hft : pb want t = t.Lookups.map fun l => (d4 t.Name, l) := by unfold pb; rw [hw]; rfl
   rw [hft] at hsucc hps
   rw [Hv] at hps
   have htl := bg t.Lookups
   repeat' (first|refine ae ?_|refine a6 ?_|refine ar ?_|refine aq ?_|refine a8 ?_|refine aa ?_|refine ah a7 rfl rfl ?_|(apply bc;refine aX ?_)|refine bi rfl ?_)
   refine aI [5, 6, 9, 12, 31, 32, 33, 46, 47] (α := Nat × Option (Nat × Nat × List AV)) (fun s => [(4, Bh s.2 (mO (ps ++ (t.Lookups.take s.1).map fun l => (d4 t.Name, l)))), (48, aD s.1)]) (fun s => s.1 ≤ t.Lookups.length ∧ zS s.2 (mO (ps ++ (t.Lookups.take s.1).map fun l => (d4 t.Name, l)))) (fun s => [(nb, bP (.int .i64) (oP (ps ++ (t.Lookups.take s.1).map fun l => (d4 t.Name, l)))), (ab, bP C8 (mB want))] ++ FP s.2 (mO (ps ++ (t.Lookups.take s.1).map fun l => (d4 t.Name, l)))) (fun s => t.Lookups.length - s.1) (0, q) rfl ⟨?_, rfl, trivial⟩ ⟨Nat.zero_le _, ?_⟩ (fun σ w h => ?_) ?_
   ·show some (Bh q (mO ps)) = some (Bh q (mO (ps ++ []))); rw [List.append_nil]
   ·show zS q (mO (ps ++ [])); rw [List.append_nil]; exact hq
   ·show ct B σ ([(nb, bP (.int .i64) (oP (ps ++ []))), (ab, bP C8 (mB want))] ++ FP q (mO (ps ++ []))) w
    rw [List.append_nil]
    exact h
   clear hq
   rintro ⟨j, q⟩ ⟨hj, hq⟩
   dsimp only at hj hq ⊢
   try dsimp only [Ht, Hs, Hr, Hn]
   repeat' (first|refine ae ?_|refine a6 ?_|refine a8 ?_|refine aa ?_|refine ah a7 rfl rfl ?_)
   refine ay rfl (fun h => ?_) (fun h => ?_)
   ·have hjl : j < t.Lookups.length := by have := Hz h; omega
    obtain ⟨z, hz⟩ : ∃ z, t.Lookups[j]? = some z := ⟨_, Eg hjl⟩
    have hzg := bU hz
    have hs2 : (ps ++ (t.Lookups.take (j + 1)).map fun l => (d4 t.Name, l)) = (ps ++ (t.Lookups.take j).map fun l => (d4 t.Name, l)) ++ [(d4 t.Name, z)] := by
     rw [List.take_add_one, hz, List.map_append, ← List.append_assoc]
     rfl
    have hpl : (ps ++ (t.Lookups.take j).map fun l => (d4 t.Name, l)).length < 1000000 := by
     rw [List.length_append, Hv, List.length_take]
     omega
    have hdl := q4 (ps ++ (t.Lookups.take j).map fun l => (d4 t.Name, l))
    generalize (ps ++ (t.Lookups.take j).map fun l => (d4 t.Name, l)) = pp at *
    clear h
    obtain ⟨e1, e2⟩ := yK pp z
    repeat' (first|refine ae ?_|refine a6 ?_|refine ar ?_|refine aq ?_|refine a8 ?_|refine aa ?_|refine ah a7 rfl rfl ?_|(apply aO; first|refine aN a7 ?_|refine aH a7 ?_)|fail)
    refine bW rfl rfl (na 0 (c0 := .agg [ce false, ce false, ce false, ce false, ce false]) Tryz.underlying87 Tryz.underlying3 rfl rfl rfl rfl Tryz.zeroValue89 sv) fun c L' ⟨h1, h2⟩ => ?_
    subst h1; subst h2
    rw [e1, e2]
    repeat' (first|refine ae ?_|refine a6 ?_|refine a8 ?_|refine aa ?_|refine ah a7 rfl rfl ?_|(apply aQ; first|refine ai 11 a7 0 rfl rfl rfl rfl rfl rfl rfl rfl ?_|refine ai 11 a7 1 rfl rfl rfl rfl rfl rfl rfl rfl ?_|refine ai 11 a7 2 rfl rfl rfl rfl rfl rfl rfl rfl ?_|refine aj a7 0 rfl rfl rfl rfl rfl rfl rfl ?_|refine aj a7 1 rfl rfl rfl rfl rfl rfl rfl ?_|refine aj a7 2 rfl rfl rfl rfl rfl rfl rfl ?_|refine aj a7 3 rfl rfl rfl rfl rfl rfl rfl ?_|fail)|refine aY a7 fun _=>?_|fail)
    rename_i rb
    have hd2 := xP pp (d4 t.Name, z)
    dsimp only at hd2
    refine gW (α := Option (Nat × Nat × List AV)) [4, 5, 6, 9, 12, 14, 15, 31, 32, 33, 46, 47, 48] (fun q' => [(4, Bh q' (mO (pp ++ [(d4 t.Name, z)]))), (5, .sc (.slice none 0 0)), (6, .sc (.map (some ab))), (9, .sc (.map (some nb))), (12, aD (d4 t.Name)), (14, aD z), (15, .sc (.pointer (some ⟨rb, 0, none⟩))), (31, .imm 2 (f.Features.map bC)), (32, .sc (.int .i64 ((f.Features.map bC).length : Int))), (33, aD i), (46, .imm 1 (aT t.Lookups)), (47, .sc (.int .i64 ((aT t.Lookups).length : Int))), (48, aD j)]) (fun q' => (rb, .box (gN pp z) 89) :: ([(nb, bP (.int .i64) (oP pp)), (ab, bP C8 (mB want))] ++ FP q' (mO (pp ++ [(d4 t.Name, z)])))) (fun q' => zS q' (mO (pp ++ [(d4 t.Name, z)]))) (fun Q' K => ?_) (fun q' hq' => ?_)
    ·cases hk : ju pp z with
     | true =>
      rw [hk, if_pos rfl] at hd2
      rw [hd2] at K
      repeat' (first|refine aq ?_|refine bi rfl ?_)
      exact K q _ hq rfl
     | false =>
      rw [hk, if_neg (by simp)] at hd2
      rw [hd2] at K
      generalize mO pp = ls at *
      repeat' (first|refine a6 ?_|refine ah a7 rfl rfl ?_|refine cE a7 ?_|refine bK rfl ?_)
      cases q with
      | none =>
       cases hq
       unfold Bh
       refine tA a7 rfl rfl rfl rfl rfl rfl rfl rfl fun b' cs' cap' c1 c2 c3 c4 => ?_
       repeat' (first|refine aa ?_|refine ah a7 rfl rfl ?_)
       obtain ⟨js, rfl⟩ : ∃ js, cs' = [z].map aD ++ js := ⟨cs'.drop 1, by
        have := List.take_append_drop 1 cs'
        rw [show cs'.take 1 = [aD z] from c2] at this
        exact this.symm⟩
       refine bf (bj (List.perm_append_comm (l₁ := [_]))) ?_
       exact K (some (b', cap', js)) _ ⟨by simpa [Nat.add_comm] using c1, c4⟩ rfl
      | some x =>
       obtain ⟨b, cap, js⟩ := x
       obtain ⟨q1, q2⟩ := hq
       unfold Bh
       refine pB a7 3 rfl rfl rfl rfl rfl rfl rfl (by rw [List.length_append, Hv]; omega) (by omega) q2 (by unfold maxLen; omega) (by omega) rfl fun b' cs' cap' c1 c2 c3 c4 => ?_
       repeat' (first|refine aa ?_|refine ah a7 rfl rfl ?_)
       obtain ⟨js', rfl⟩ : ∃ js', cs' = (ls ++ [z]).map aD ++ js' := ⟨cs'.drop (ls.length + 1), by
        have := List.take_append_drop (ls.length + 1) cs'
        rw [Nat.mul_one, Nat.mul_one, List.take_left' (by simp)] at c2
        rw [c2] at this
        rw [List.map_append]
        exact this.symm⟩
       refine bf (bj (List.perm_append_comm (l₁ := [_]))) ?_
       rw [List.length_append, Hv, Nat.mul_one] at c1
       have hl1 : (ls ++ [z]).length = ls.length + 1 := by rw [List.length_append]; rfl
       exact K (some (b', cap', js')) _ ⟨c1, c4⟩ (by show eM _ _ = some ((4, .sc (.slice _ (ls ++ [z]).length cap')) :: _); rw [hl1]; rfl)
    repeat' (first|refine ae ?_|refine a6 ?_|refine ah a7 rfl rfl ?_)
    obtain ⟨m, hm⟩ : ∃ m : Nat, d4 t.Name = m := ⟨(d4 t.Name).toNat, by have := rF t.Name; omega⟩
    have hm4 : m ≤ 4 := by have := rF t.Name; omega
    refine tB a7 m rfl rfl rfl hm (by omega) rfl ?_
    repeat' (first|fail)
    refine iX a7 0 m rfl rfl (by omega) rfl rfl rfl (by show m < 5; omega) ?_
    rw [tP pp m hm4 z, ← hm]
    repeat' (first|refine a6 ?_|refine a8 ?_|refine aa ?_|refine ah a7 rfl rfl ?_|(apply c9; first|refine aC a7 0 rfl rfl rfl rfl rfl ?_|refine aC a7 1 rfl rfl rfl rfl rfl ?_|refine aC a7 2 rfl rfl rfl rfl rfl ?_|refine aC a7 3 rfl rfl rfl rfl rfl ?_|refine aJ a7 0 rfl rfl rfl rfl rfl ?_|refine aJ a7 1 rfl rfl rfl rfl rfl ?_|refine aJ a7 2 rfl rfl rfl rfl rfl ?_|refine aC a7 1 rfl rfl rfl (by assumption) rfl ?_|refine aC a7 0 rfl rfl rfl (by assumption) rfl ?_|fail)|fail)
    refine cH 1 (oP (pp ++ [(d4 t.Name, z)])) Tryz.underlying87 Tryz.underlying3 rfl rfl rfl rfl rfl (yL pp (d4 t.Name) z) (fun q hq => wi pp (d4 t.Name) z q hq) ?_
    repeat' (first|refine a6 ?_|refine a8 ?_|refine aR ?_|refine aa ?_|refine ah a7 rfl rfl ?_|(apply b6; refine aZ ?_)|fail)
    exact aF (j + 1, q') rfl ⟨by dsimp only; rw [hs2]; rfl, by rw [Hw]; rfl, trivial⟩ ⟨hjl, by dsimp only; rw [hs2]; exact hq'⟩ (by dsimp only; omega) (fun _ _ h => by dsimp only; rw [hs2]; exact ct.sublist h (List.sublist_cons_self ..))
   ·have hjl : j = t.Lookups.length := by have := Hy h; omega
    subst hjl
    rw [List.take_length] at hq ⊢
    clear h
    repeat' (first|refine a6 ?_|refine aL ?_|refine a8 ?_|refine av ?_|refine aR ?_|refine aA ?_|refine az ?_|refine aa ?_|refine ah a7 rfl rfl ?_|(apply b6; refine aZ ?_)|fail)
    exact aF (i + 1, q) rfl ⟨by rw [hsucc]; rfl, by rw [Hw]; rfl, trivial⟩ ⟨hil, by dsimp only; rw [hsucc]; exact hq⟩ (by dsimp only; omega) (fun _ _ h => by rw [hsucc]; exact h)
 have hil : i = f.Features.length := by have := Hy h; omega
 subst hil
 rw [List.take_length] at hq ⊢
 clear h hpre
 repeat' (first|refine ae ?_|refine a6 ?_|refine aL ?_|refine a8 ?_|refine av ?_|refine aA ?_|refine az ?_|refine ah a7 rfl rfl ?_)
 have hdl := q4 (bS want f.Features)
 have hsl2 := fo (mO (bS want f.Features))
 refine xu [4, 5, 9] [(4, .imm 1 (aT (cm want f))), (5, .sc (.slice none 0 0)), (9, .sc (.map (some nb)))] [(nb, bP (.int .i64) (oP (bS want f.Features)))] (fun Q1 K => ?_) ?_
 ·unfold cm at K
  generalize mO (bS want f.Features) = ls at *
  cases q with
  | none =>
   cases hq
   unfold Bh
   refine aV [] _ (zu none 0 []) rfl rfl (Hp _) rfl fun c L1 hL => ?_
   subst hL
   repeat' (first|refine aa ?_)
   refine bf (bA (t := 4) (c' := .imm 1 (aT (eF []))) rfl fun σ v h => by rw [show aT (eF []) = [] by simp [eF, aT]]; exact dA 1 h) ?_
   refine cB (L' := [(nb, bP (.int .i64) (oP (bS want f.Features)))]) (List.Sublist.cons_cons _ (List.nil_sublist _)) ?_
   exact K _ rfl
  | some x =>
   obtain ⟨b, cap, js⟩ := x
   obtain ⟨q1, q2⟩ := hq
   unfold Bh
   refine aV [(b, .box (ls.map aD ++ js) 3)] [(nb, bP (.int .i64) (oP (bS want f.Features))), (ab, bP C8 (mB want))] (zt b cap ls js (by omega)) rfl rfl (List.perm_append_comm (l₁ := [_, _])) rfl fun c L1 hL => ?_
   subst hL
   repeat' (first|refine aa ?_)
   refine bf (cy (t := 4) (sz := 1) (l := aT (eF ls)) 0 rfl rfl (by rw [Nat.mul_one, ← hsl2, List.take_left' (by rw [Hv]), ← nX]) (by rw [List.length_append, Hv]; omega) (fun q hq => by obtain ⟨y, _, rfl⟩ := List.mem_map.1 hq; rfl) (by rw [bg, hsl2]) (by omega) q2) ?_
   refine cB (L' := [(nb, bP (.int .i64) (oP (bS want f.Features)))]) (List.Sublist.cons_cons _ (List.nil_sublist _)) ?_
   exact K _ rfl
 have hpl : (cm want f).length ≤ 1000000 := by unfold cm; omega
 have hpi := bg (cm want f)
 repeat' (first|refine ae ?_|refine a6 ?_|refine ar ?_|refine a8 ?_|refine aa ?_|refine ah a7 rfl rfl ?_)
 refine cA (bA (t := 5) rfl fun σ v h => er 1 h) ?_
 refine aI [4, 9, 73, 74] (α := Nat × Option (Nat × Nat)) (fun s => [(5, .vec s.2 1 (ba (((cm want f).take s.1).map fun l => ee (jG (bS want f.Features) l) 5))), (75, aD s.1)]) (fun s => s.1 ≤ (cm want f).length) (fun s => [(nb, bP (.int .i64) (oP (bS want f.Features)))] ++ tok s.2 22 1 (ba (((cm want f).take s.1).map fun l => ee (jG (bS want f.Features) l) 5)).length) (fun s => (cm want f).length - s.1) (0, none) rfl ⟨rfl, rfl, trivial⟩ (Nat.zero_le _) (fun _ _ h => h) ?_
 rintro ⟨i, k⟩ hi
 dsimp only at hi ⊢
 try dsimp only [Ht, Hs, Hr, Hn]
 repeat' (first|refine ae ?_|refine a6 ?_|refine a8 ?_|refine aa ?_|refine ah a7 rfl rfl ?_)
 refine ay rfl (fun h => ?_) (fun h => ?_)
 ·have hil : i < (cm want f).length := by have := Hz h; omega
  obtain ⟨z, hz⟩ : ∃ z, (cm want f)[i]? = some z := ⟨_, Eg hil⟩
  have hzg := bU hz
  have hrl : (ba (((cm want f).take i).map fun l => ee (jG (bS want f.Features) l) 5)).length = i := by
   rw [c8, Hv, List.length_take]
   omega
  have hrs : ba (((cm want f).take (i + 1)).map fun l => ee (jG (bS want f.Features) l) 5) = ba (((cm want f).take i).map fun l => ee (jG (bS want f.Features) l) 5) ++ [[.imm 1 (aT (ee (jG (bS want f.Features) z) 5))]] := by
   rw [List.take_add_one, hz, List.map_append]
   simp [ba]
  have hrl2 : (ba (((cm want f).take (i + 1)).map fun l => ee (jG (bS want f.Features) l) 5)).length = i + 1 := by
   rw [hrs, List.length_append, hrl]
   rfl
  clear h
  have e1 := (yK (bS want f.Features) z).1
  repeat' (first|refine ae ?_|refine a6 ?_|refine ar ?_|refine aq ?_|refine a8 ?_|refine aa ?_|refine ah a7 rfl rfl ?_|(apply aO; first|refine aN a7 ?_|refine aH a7 ?_)|fail)
  refine bW rfl rfl (gy 0 (c0 := .agg [ce false, ce false, ce false, ce false, ce false]) Tryz.underlying87 Tryz.underlying3 rfl rfl rfl rfl Tryz.zeroValue89 sv) fun c L' ⟨h1, h2⟩ => ?_
  subst h1; subst h2
  rw [e1]
  refine aX (hc := ⟨DY _ _ _ _ _⟩) ?_
  repeat' (first|refine cE a7 ?_|fail)
  refine cP a7 [(nb, bP (.int .i64) (oP (bS want f.Features)))] rfl rfl rfl rfl (List.perm_append_comm (l₁ := [_])) (by rw [hrl]; simp; omega) (by rw [hrl]; simp; omega) rfl fun k' => ?_
  rw [show ba (((cm want f).take i).map fun l => ee (jG (bS want f.Features) l) 5) ++ [[.imm 1 (aT (ee [dD (bS want f.Features) 0 z, dD (bS want f.Features) 1 z, dD (bS want f.Features) 2 z, dD (bS want f.Features) 3 z, dD (bS want f.Features) 4 z] 5))]] = ba (((cm want f).take (i + 1)).map fun l => ee (jG (bS want f.Features) l) 5) from hrs.symm]
  refine bq (bj (List.perm_append_comm (l₂ := [_]))) ?_
  repeat' (first|refine a6 ?_|refine a8 ?_|refine aR ?_|refine aa ?_|refine ah a7 rfl rfl ?_|(apply b6; refine aZ ?_)|fail)
  exact aF (i + 1, k') rfl ⟨rfl, by rw [Hw]; rfl, trivial⟩ hil (by dsimp only; omega) (fun _ _ h => h)
 ·have hil : i = (cm want f).length := by have := Hy h; omega
  subst hil
  rw [List.take_length]
  clear h
  repeat' (first|refine ae ?_|refine a6 ?_|refine am ?_|refine aL ?_|refine a8 ?_|refine av ?_|refine aA ?_|refine az ?_|refine aa ?_|refine ah a7 rfl rfl ?_)
  refine bf (bA (t := 5) rfl fun σ v h => h.im) ?_
  refine cB (List.nil_sublist _) ?_
  exact aS rfl rfl rfl rfl
set_option maxRecDepth 8000
def jN (f : aP) (x : b8) : b8 := { x with Advance := ((f.Glyphs[x.Glyph.toNat]?).map b7.Advance).getD 0 }
abbrev sf (f f2 : aP) (u : AV) : AB := .box (bH f ++ bH f2 ++ [u]) 112
theorem ug {P : Program} {r : Option Nat} {C : Code} {Q : Exit → Act → World → Prop} {nt : Nat} {D : List Deferred} {fr : bJ} {B : Bs} {L L' : AL} (hs : L'.Sublist L) (h : AT P r C Q nt D fr B L') : AT P r C Q nt D fr B L := cA (da hs) h
theorem pi {u : AV} {y : b8} (junk : List AV) : ∀ {r : List b8} {i j : Nat} {x : b8}, r[i]? = some x → j < 6 → cu y = (cu x).set j u → (dy r ++ junk).set (i * 6 + j) u = dy (r.set i y) ++ junk
 | [], i, _, _, h, _, _ => by simp at h
 | z :: r, 0, j, x, h, hj, hy => by
  simp at h
  subst h
  rw [List.set_cons_zero, ff, ff, List.append_assoc, Nat.zero_mul, Nat.zero_add, List.set_append_left _ _ (show j < (cu z).length from hj), hy, List.append_assoc]
 | z :: r, i + 1, j, x, h, hj, hy => by
  have := pi junk (r := r) (i := i) (by simpa using h) hj hy
  rw [List.set_cons_succ, ff, ff, List.append_assoc, List.append_assoc, List.set_append_right _ _ (show (cu z).length ≤ (i + 1) * 6 + j by show 6 ≤ _; omega), ← this]
  congr 2
  show (i + 1) * 6 + j - 6 = _
  omega
def n6 (f : aP) (run : List b8) (i : Nat) : List b8 := (run.take i).map (jN f) ++ run.drop i
theorem xe (f : aP) (run : List b8) (i : Nat) : (n6 f run i).length = run.length := by
 unfold n6
 rw [List.length_append, Hv, List.length_take, List.length_drop]
 omega
theorem xd {f : aP} {run : List b8} {i : Nat} {x : b8} (h : run[i]? = some x) : (n6 f run i)[i]? = some x := by
 have hi := (Hq h).1
 have hl : ((run.take i).map (jN f)).length = i := by rw [Hv, List.length_take]; omega
 unfold n6
 rw [List.getElem?_append_right (by omega), hl, Nat.sub_self, List.getElem?_drop, Nat.add_zero]
 exact h
theorem xf {f : aP} {run : List b8} {i : Nat} {x : b8} (h : run[i]? = some x) : (n6 f run i).set i (jN f x) = n6 f run (i + 1) := by
 have hi := (Hq h).1
 have hl : ((run.take i).map (jN f)).length = i := by rw [Hv, List.length_take]; omega
 unfold n6
 rw [List.set_append_right _ _ (by omega), hl, Nat.sub_self, List.take_add_one, h, List.map_append, List.drop_eq_getElem_cons hi, List.set_cons_zero, List.append_assoc]
 rfl
theorem Co {α : Type} {s : α} {A C U : List α} : (A ++ (s :: (C ++ U))).Perm (C ++ (A ++ (s :: U))) := by
 refine ((List.perm_middle (a := s) (l₁ := C) (l₂ := U)).symm.append_left A).trans ?_
 rw [← List.append_assoc, ← List.append_assoc]
 exact List.perm_append_comm.append_right _
theorem Fp {α : Type} {s : α} {A C U : List α} : (C ++ (A ++ (s :: U))).Perm (s :: (A ++ (C ++ U))) := Co.symm.trans List.perm_middle
set_option maxHeartbeats 16000000 in
theorem pH (f f2 : aP) (rs : List Int) (want : List ByteArray) (u : AV) (sb : Nat) (Lu : AL) (hr : rs.length ≤ 1000000) (h20 : mY rs) (hc : f.Chars.length ≤ 1000000) (hF : f.Features.length ≤ 1000000) (hp : (bS want f.Features).length ≤ 1000000)
  (hk : ∀ l ∈ cm want f, 0 ≤ l ∧ ∃ q, f.Lookups[l.toNat]? = some q ∧ 1 ≤ q.Kind ∧ q.Kind ≤ 5) (run : List b8) (hu : ∀ q, iw q (cx f rs) → gk Tryz.prog u [.imm 1 (aT (cm want f)), .imm 1 (ba (eS want f)), dQ q (cx f rs)] (dE q (cx f rs) ++ Lu) (zX run Lu)) (hrl : run.length ≤ 1000000) (hG : ∀ x ∈ run, 0 ≤ x.Glyph ∧ x.Glyph < f2.Glyphs.length) :
  AC Tryz.prog 38 [f0 sb, .imm 1 (aT rs), .imm 1 (sn want)] ((sb, sf f f2 u) :: Lu) fun c L => c = .imm 6 ((run.map (jN f2)).map cu) ∧ L = Lu := by
 refine aG Tryz.func38 rfl Tryz.ntmps38 rfl fun B => ?_
 haveI i0 := AD.mk (yT f want hF hp)
 have hst := zx f rs hr h20 hc
 have hpll : (cm want f).length ≤ 1000000 := by
  have := fo (mO (bS want f.Features))
  have := q4 (bS want f.Features)
  unfold cm; omega
 have hpfl : (eS want f).length = (cm want f).length := by unfold eS; rw [Hv]
 have hil := bg (cm want f)
 have hfl := c8 (eS want f)
 repeat' (first|refine ae ?_|refine a6 ?_|refine a8 ?_|refine aa ?_|refine ah a7 rfl rfl ?_|(apply c9; first|refine aC a7 0 rfl rfl rfl rfl rfl ?_|refine aC a7 1 rfl rfl rfl rfl rfl ?_|refine aC a7 2 rfl rfl rfl rfl rfl ?_|refine aC a7 3 rfl rfl rfl rfl rfl ?_|refine aJ a7 0 rfl rfl rfl rfl rfl ?_|refine aJ a7 1 rfl rfl rfl rfl rfl ?_|refine aJ a7 2 rfl rfl rfl rfl rfl ?_|refine aC a7 1 rfl rfl rfl (by assumption) rfl ?_|refine aC a7 0 rfl rfl rfl (by assumption) rfl ?_|fail)|fail)
 rw [show AV.agg (List.take 9 (List.drop (0 + 0) (bH f ++ bH f2 ++ [u]))) = cf f from rfl]
 repeat' (first|refine ae ?_|refine a6 ?_|refine ar ?_|refine a8 ?_|refine aa ?_|refine ah a7 rfl rfl ?_|(apply bc;refine aX ?_)|fail)
 refine cA (bA (t := 7) rfl fun σ v h => er 1 h) ?_
 refine cA (bA (t := 9) rfl fun σ v h => er 1 h) ?_
 refine aI [0, 1, 11, 27, 28] (α := Nat × Option (Nat × Nat) × Option (Nat × Nat)) (fun s => [(7, .vec s.2.1 1 (aT ((cm want f).take s.1))), (9, .vec s.2.2 1 (ba ((eS want f).take s.1))), (8, .sc (.slice none 0 0)), (29, aD s.1)]) (fun s => s.1 ≤ (cm want f).length) (fun s => (sb, sf f f2 u) :: (tok s.2.1 3 1 s.1 ++ (tok s.2.2 22 1 s.1 ++ Lu))) (fun s => (cm want f).length - s.1) (0, none, none) rfl ⟨rfl, rfl, rfl, rfl, trivial⟩ (Nat.zero_le _) (fun _ _ h => h) ?_
 rintro ⟨i, k1, k2⟩ hi
 dsimp only at hi ⊢
 try dsimp only [Ht, Hs, Hr, Hn]
 repeat' (first|refine ae ?_|refine a6 ?_|refine a8 ?_|refine aa ?_|refine ah a7 rfl rfl ?_)
 refine ay rfl (fun h => ?_) (fun h => ?_)
 ·have hil : i < (cm want f).length := by have := Hz h; omega
  obtain ⟨z, hz⟩ : ∃ z, (cm want f)[i]? = some z := ⟨_, Eg hil⟩
  obtain ⟨y, hy⟩ : ∃ z, (eS want f)[i]? = some z := ⟨_, Eg (by omega)⟩
  have hzg := bU hz
  have hyg := gP hy
  obtain ⟨h0, lk, hlk, hk1, hk5⟩ := hk z (Hx hz)
  have hlg := bO (c := bo) hlk
  clear h
  repeat' (first|refine ae ?_|refine a6 ?_|refine ar ?_|refine aq ?_|refine a8 ?_|refine aa ?_|refine ah a7 rfl rfl ?_|(apply c9; first|refine aC a7 0 rfl rfl rfl rfl rfl ?_|refine aC a7 1 rfl rfl rfl rfl rfl ?_|refine aC a7 2 rfl rfl rfl rfl rfl ?_|refine aC a7 3 rfl rfl rfl rfl rfl ?_|refine aJ a7 0 rfl rfl rfl rfl rfl ?_|refine aJ a7 1 rfl rfl rfl rfl rfl ?_|refine aJ a7 2 rfl rfl rfl rfl rfl ?_|refine aC a7 1 rfl rfl rfl (by assumption) rfl ?_|refine aC a7 0 rfl rfl rfl (by assumption) rfl ?_|fail)|(apply aO; first|refine aN a7 ?_|refine aH a7 ?_)|fail)
  refine gW (α := Unit) [0, 1, 7, 8, 9, 11, 12, 13, 27, 28, 29, 47] (fun _ => [(0, f0 sb), (1, .imm 1 (aT rs)), (7, .vec k1 1 (aT (List.take i (cm want f)))), (8, .sc (.slice none 0 0)), (9, .vec k2 1 (ba (List.take i (eS want f)))), (11, .imm 1 (ba (eS want f))), (12, aD i), (13, aD z), (27, .imm 1 (aT (cm want f))), (28, .sc (.int .i64 ((aT (cm want f)).length : Int))), (29, aD i), (47, ce true)]) (fun _ => (sb, sf f f2 u) :: (tok k1 3 1 i ++ (tok k2 22 1 i ++ Lu))) (fun _ => True) (fun Q' K => ?_) (fun _ _ => ?_)
  ·have hkk : lk.Kind = 1 ∨ lk.Kind = 2 ∨ lk.Kind = 3 ∨ lk.Kind = 4 ∨ lk.Kind = 5 := by omega
   rcases hkk with e | e | e | e | e <;> rw [e]
   all_goals
    repeat' (first|refine ae ?_|refine a6 ?_|refine aq ?_|refine a8 ?_|refine aa ?_|refine ah a7 rfl rfl ?_|refine bK rfl ?_|refine bi rfl ?_)
    exact K () _ trivial rfl
  have htl : (aT (List.take i (cm want f))).length = i := by rw [bg, List.length_take]; omega
  have htf : (ba (List.take i (eS want f))).length = i := by rw [c8, List.length_take]; omega
  have hs1 : aT (List.take (i + 1) (cm want f)) = aT (List.take i (cm want f)) ++ [[aD z]] := by rw [List.take_add_one, hz]; unfold aT; rw [List.map_append]; rfl
  have hs2 : ba (List.take (i + 1) (eS want f)) = ba (List.take i (eS want f)) ++ [[.imm 1 (aT y)]] := by rw [List.take_add_one, hy]; simp [ba]
  repeat' (first|refine ae ?_|refine a6 ?_|refine ah a7 rfl rfl ?_|refine cE a7 ?_|refine bK rfl ?_)
  refine cP a7 ((sb, sf f f2 u) :: (tok k2 22 1 i ++ Lu)) rfl rfl rfl rfl (by rw [htl]; exact List.perm_middle.symm) (by rw [htl]; simp; omega) (by rw [htl]; simp; omega) rfl fun k1' => ?_
  rw [show (aT (List.take i (cm want f)) ++ [[aD z]]).length = i + 1 by rw [List.length_append, htl]; rfl]
  repeat' (first|refine a6 ?_|refine a8 ?_|refine aa ?_|refine ah a7 rfl rfl ?_|(apply aO; first|refine aN a7 ?_|refine aH a7 ?_)|refine cE a7 ?_|fail)
  refine cP a7 (tok k1' 3 1 (i + 1) ++ (sb, sf f f2 u) :: Lu) rfl rfl rfl rfl (by rw [htf]; exact Co) (by rw [htf]; simp; omega) (by rw [htf]; simp; omega) rfl fun k2' => ?_
  rw [show (ba (List.take i (eS want f)) ++ [[AV.imm 1 (aT y)]]).length = i + 1 by rw [List.length_append, htf]; rfl]
  repeat' (first|refine a6 ?_|refine a8 ?_|refine aR ?_|refine aa ?_|refine ah a7 rfl rfl ?_|(apply b6; refine aZ ?_)|fail)
  exact aF (i + 1, k1', k2') rfl ⟨by dsimp only; rw [hs1]; rfl, by dsimp only; rw [hs2]; rfl, rfl, by rw [Hw]; rfl, trivial⟩ hil (by dsimp only; omega) (fun _ _ h => h.perm Fp)
 ·have hil2 : i = (cm want f).length := by have := Hy h; omega
  subst hil2
  rw [List.take_length, List.take_of_length_le (Nat.le_of_eq hpfl)]
  clear h
  repeat' (first|refine ae ?_|refine aL ?_|refine a8 ?_|refine av ?_|refine aA ?_|refine az ?_)
  refine cA (bA (t := 7) (c' := .imm 1 (aT (cm want f))) rfl fun σ v h => VR.im h) ?_
  refine cA (bA (t := 9) (c' := .imm 1 (ba (eS want f))) rfl fun σ v h => VR.im h) ?_
  refine ug (L' := (sb, sf f f2 u) :: Lu) (List.Sublist.cons_cons _ ((List.sublist_append_right _ _).trans (List.sublist_append_right _ _))) ?_
  repeat' (first|fail)
  refine ne [.cell (sb, 18, u)] 12 [(0, .v), (1, .v), (2, .v), (3, .k), (4, .v), (5, .v), (6, .v), (7, .v), (8, .v), (9, .l), (10, .v), (11, .f)] none ?_ trivial rfl (by kernel_rfl) (by kernel_rfl) (by kernel_rfl) mixed (by kernel_rfl) rfl
  repeat' (first|refine aM ?_|refine bD a7 ?_|fail)
  refine ut a7 0 rfl rfl rfl (kG 0 rfl rfl) (by first | trivial | rfl) ?_
  repeat' (first|refine aM ?_|refine bD a7 ?_|refine mN a7 0 rfl rfl rfl rfl (by first|trivial|rfl) ?_)
  rw [show AV.agg (List.take 9 (List.drop (0 + 0) (bH f ++ bH f2 ++ [u]))) = cf f from rfl]
  repeat' (first|fail)
  refine ur [] ((sb, sf f f2 u) :: Lu) hst rfl rfl (Hp _) trivial (fun c L1 ⟨q, _, _, hL1⟩ _ => by
   subst hL1
   exact kG (dE q (cx f rs)).length (by rw [List.getElem?_append_right (Nat.le_refl _), Nat.sub_self]; rfl) rfl) fun c L1 ⟨q, hq, hc1, hL1⟩ => ?_
  subst hc1; subst hL1
  repeat' (first|fail)
  refine bM [0, 8, 68, 69, 70, 76] rfl rfl ?_
  repeat' (first|fail)
  refine ji (dE q (cx f rs) ++ Lu) [(sb, sf f f2 u)] (hu q hq) rfl rfl ?_ rfl rfl fun c L1 ⟨q2, hq2, hc2, hL2⟩ => ?_
  ·rw [List.append_assoc]
   exact (List.perm_append_comm (l₁ := [_])).append_left _
  subst hc2; subst hL2
  refine bq (bj (L' := dE q2 run ++ ((sb, sf f f2 u) :: Lu)) (by rw [List.append_assoc]; exact (List.perm_append_comm (l₁ := Lu)).append_left _)) ?_
  clear hst hu i0
  cases q2 with
  | none =>
   have he := hq2.emp rfl
   subst he
   unfold dQ dE
   dsimp only
   repeat' (first|refine ae ?_|refine a6 ?_|refine ar ?_|refine a8 ?_|refine aa ?_|refine ah a7 rfl rfl ?_)
   refine aI [0, 8, 14, 79] (α := Unit) (fun _ => [(80, aD 0), (14, .imm 6 [])]) (fun _ => True) (fun _ => [] ++ ((sb, sf f f2 u) :: Lu)) (fun _ => 0) () rfl ⟨rfl, rfl, trivial⟩ trivial (fun _ _ h => h) ?_
   rintro ⟨⟩ -
   try dsimp only [Ht, Hs, Hr, Hn]
   repeat' (first|refine ae ?_|refine a6 ?_|refine ar ?_|refine aL ?_|refine a8 ?_|refine av ?_|refine aA ?_|refine az ?_|refine aa ?_|refine ah a7 rfl rfl ?_|refine bi rfl ?_)
   refine aI [0, 101, 102] (α := Unit) (fun _ => [(103, aD 0), (14, .imm 6 [])]) (fun _ => True) (fun _ => [] ++ ((sb, sf f f2 u) :: Lu)) (fun _ => 0) () rfl ⟨rfl, rfl, trivial⟩ trivial (fun _ _ h => h) ?_
   rintro ⟨⟩ -
   try dsimp only [Ht, Hs, Hr, Hn]
   repeat' (first|refine ae ?_|refine a6 ?_|refine am ?_|refine aL ?_|refine a8 ?_|refine av ?_|refine aA ?_|refine az ?_|refine aa ?_|refine ah a7 rfl rfl ?_|refine bi rfl ?_)
   refine cB (L' := Lu) (List.sublist_cons_self _ _) ?_
   exact au rfl rfl ⟨rfl, rfl⟩
  | some m =>
   obtain ⟨m1, m2, m3⟩ := hq2.fit m rfl
   unfold dQ dE
   dsimp only
   repeat' (first|refine ae ?_|refine a6 ?_|refine ar ?_|refine a8 ?_|refine aa ?_|refine ah a7 rfl rfl ?_)
   refine aI [0, 8, 14, 79] (α := Nat) (fun i => [(80, aD i), (14, .sc (.slice (some ⟨m.rb, 0, none⟩) run.length m.cap))]) (fun i => i ≤ run.length) (fun i => [(m.rb, .box (dy (n6 f2 run i) ++ m.junk) 56)] ++ ((sb, sf f f2 u) :: Lu)) (fun i => run.length - i) 0 rfl ⟨rfl, rfl, trivial⟩ (Nat.zero_le _) (fun _ _ h => h) fun i hi => ?_
   try dsimp only [Ht, Hs, Hr, Hn]
   repeat' (first|refine ae ?_|refine a6 ?_|refine a8 ?_|refine aa ?_|refine ah a7 rfl rfl ?_)
   refine ay rfl (fun h => ?_) (fun h => ?_)
   ·have hil : i < run.length := by have := Hz h; omega
    obtain ⟨x, hx⟩ : ∃ z, run[i]? = some z := ⟨_, Eg hil⟩
    obtain ⟨g1, g2⟩ := hG x (Hx hx)
    obtain ⟨g, hg⟩ : ∃ z, f2.Glyphs[x.Glyph.toNat]? = some z := ⟨_, Eg (by omega)⟩
    have hgg := bO (c := bE) hg
    have hxr := xd (f := f2) hx
    have hset := xf (f := f2) hx
    have hal := xe f2 run i
    have hadv : jN f2 x = { x with Advance := g.Advance } := by unfold jN; rw [hg]; rfl
    rw [hadv] at hset
    have hfx := ET m.junk hxr (j := 0) rfl
    have hput := pi m.junk hxr (j := 3) (u := aD g.Advance) (y := { x with Advance := g.Advance }) (by omega) rfl
    rw [hset] at hput
    generalize n6 f2 run i = rr at *
    clear h
    repeat' (first|refine ae ?_|refine a6 ?_|refine ar ?_|refine aq ?_|refine a8 ?_|refine aa ?_|refine ah a7 rfl rfl ?_)
    refine bF 15 [(0, .v), (1, .v), (2, .v), (3, .v), (4, .v), (5, .v), (6, .l), (7, .v), (8, .v), (9, .v), (10, .v), (11, .l), (12, .v), (13, .v), (14, .v)] none ?_ trivial rfl (by kernel_rfl) (by kernel_rfl) (by kernel_rfl) mixed (by kernel_rfl) rfl
    repeat' (first|refine aM ?_|refine bD a7 ?_|refine du a7 1 rfl rfl rfl rfl (by first|trivial|rfl) ?_)
    refine cS a7 rfl rfl rfl ⟨by omega, by omega⟩ trivial ?_
    repeat' (first|refine aM ?_|refine bD a7 ?_|fail)
    refine du a7 0 rfl rfl rfl hfx (by first | trivial | rfl) ?_
    repeat' (first|refine aM ?_|refine bD a7 ?_|(apply dk;refine dT a7 ?_)|fail)
    refine bM [0, 8, 14, 79, 80, 83, 84, 97] rfl rfl ?_
    repeat' (first|refine ah a7 rfl rfl ?_|(apply aO; first|refine aN a7 ?_|refine aH a7 ?_)|fail)
    refine iX a7 0 (i * 6 + 3) rfl rfl (by show 0 + ((i : Nat) : Int).toNat * 6 + 3 = _; rw [Int.toNat_natCast, Nat.zero_add]) rfl rfl rfl (by rw [List.length_append, gD]; omega) ?_
    rw [hput]
    repeat' (first|refine a6 ?_|refine a8 ?_|refine aR ?_|refine aa ?_|refine ah a7 rfl rfl ?_|(apply b6; refine aZ ?_)|fail)
    exact aF (i + 1) rfl ⟨by rw [Hw]; rfl, rfl, trivial⟩ hil (by omega) (fun _ _ h => h)
   ·have hil : i = run.length := by have := Hy h; omega
    subst hil
    have hall : n6 f2 run run.length = run.map (jN f2) := by unfold n6; rw [List.take_length, List.drop_length, List.append_nil]
    rw [hall]
    clear h
    repeat' (first|refine ae ?_|refine a6 ?_|refine ar ?_|refine aL ?_|refine a8 ?_|refine av ?_|refine aA ?_|refine az ?_|refine aa ?_|refine ah a7 rfl rfl ?_)
    refine aI [0, 101, 102] (α := Unit) (fun _ => [(103, aD 0), (14, .sc (.slice (some ⟨m.rb, 0, none⟩) run.length m.cap))]) (fun _ => True) (fun _ => (m.rb, .box (dy (run.map (jN f2)) ++ m.junk) 56) :: ((sb, sf f f2 u) :: Lu)) (fun _ => 0) () rfl ⟨rfl, rfl, trivial⟩ trivial (fun _ _ h => h) ?_
    rintro ⟨⟩ -
    try dsimp only [Ht, Hs, Hr, Hn]
    repeat' (first|refine ae ?_|refine a6 ?_|refine am ?_|refine aL ?_|refine a8 ?_|refine av ?_|refine aA ?_|refine az ?_|refine aa ?_|refine ah a7 rfl rfl ?_|refine bi rfl ?_)
    have hml : (run.map (jN f2)).length = run.length := Hv ..
    refine bf (pN (t := 6) (q := some m) (run := run.map (jN f2)) (Lf := (sb, sf f f2 u) :: Lu) ⟨fun h => (by cases h), fun m' hm => ?_⟩ (by unfold dQ; dsimp only; rw [hml]; rfl)) ?_
    ·cases hm
     rw [List.length_append, gD] at m3 ⊢
     rw [hml]
     exact ⟨m1, m2, m3⟩
    refine cB (L' := Lu) (List.sublist_cons_self _ _) ?_
    exact au rfl rfl ⟨rfl, rfl⟩
end Go.Proofs.YtamjlkdanllgjaaGreatDoor
