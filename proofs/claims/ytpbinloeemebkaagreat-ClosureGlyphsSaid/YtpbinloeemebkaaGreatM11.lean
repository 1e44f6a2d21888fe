/-
  The program: chars, features, axes, regions, programs, as check looks at them.
-/
import Derived.Test.YtpbinloeemebkaaGreatM10
import Derived.Lib.AppendZeros
namespace Go.Proofs.YtpbinloeemebkaaGreat
open Go.RowKit
attribute [local irreducible] AT bN AX AO Av Kt bi dE DA d6
section
variable {P : Program} {l : List Oper} {fr : c9} {fin : lj} {sk : mx} {acc : c9} {L : AL} {k : Nat} {dd : Option Tmp} {ty t : TypeId} {pos : String} {af : Array Edge} {g : Option (Nat × Bool)} {x y : Operand}
theorem ne (i : Nat) (v0 : Value) {b kt et : Nat} {kd : TypeDesc} {q : Value} {m : Value → Option AV} (ht : P.underlying t = some (.map kt et)) (hkt : P.underlying kt = some kd) (hx : bB (dp l.toArray acc fr af.toList) x = some (.sc (.map (some b)))) (hy : bB (dp l.toArray acc fr af.toList) y = some (.sc q)) (hk : MapKept.IsKey kd q) (hL : L[i]? = some (b, c6 kd m)) (hz : jn P et v0 = true) (hg : mp ⟨dd, .lookup t x y false, ty, pos, af, g⟩ acc) (h : DA P l fr fin sk ((k, (m q).getD (.sc v0)) :: acc) L) :
  d6 P l fr fin k .e ⟨dd, .lookup t x y false, ty, pos, af, g⟩ sk acc L :=
 io hg (fun B => jr i ht hkt hx hy hk hL (eT hz) fun _ => .sc _) fun c L' ⟨h1, h2⟩ => by subst h1; subst h2; exact h
end
def tb (f : aH) (c : eS) (late : Bool) : Int := if c.Rune < 0 ∨ c.Rune > 1114111 then 1 else if eG f c.Glyph = false then 32 else cS late 24
theorem vR (f : aH) (c : eS) (late : Bool) : bo Tryz.prog 92 [bw f, .agg (dY c), c8 late] (aQ (tb f c late)) := by
 refine aU Tryz.func92 rfl Tryz.ntmps92 rfl fun B => ?_
 unfold tb
 (repeat' (first|refine ah ?_|refine a6 ?_|refine am ?_|refine a8 ?_|refine aa ?_|refine ae a7 rfl rfl ?_|refine b6 ?_|fail))
 refine ci [2, 3, 4] (c.Rune < 0 ∨ c.Rune > 1114111) rfl (fun Q' K => ?_) (fun hC => ?_) (fun hC => ?_)
 ·(repeat' (first|refine aa ?_|refine ae a7 rfl rfl ?_|refine aw rfl rfl ?_|refine aD rfl rfl rfl rfl ?_|refine aS rfl rfl rfl (fun _ => ?_) (fun _ => ?_)|fail))
  all_goals exact K _ _ rfl rfl (by clear K; grind)
 ·rw [if_pos hC]
  (repeat' (first|refine ah ?_|refine a6 ?_|refine au ?_|refine a8 ?_|refine ar ?_|refine aG ?_|refine aa ?_|refine ae a7 rfl rfl ?_|fail))
  exact aB rfl rfl rfl
 rw [if_neg hC]
 (repeat' (first|refine ah ?_|refine a6 ?_|refine a8 ?_|refine aa ?_|refine ae a7 rfl rfl ?_|(apply ba;refine aY ?_)|fail))
 refine av rfl (fun h => ?_) (fun h => ?_)
 ·rw [if_pos (by simpa using h)]
  (repeat' (first|refine ah ?_|refine a6 ?_|refine au ?_|refine a8 ?_|refine ar ?_|refine aG ?_|refine aa ?_|refine ae a7 rfl rfl ?_|fail))
  exact aB rfl rfl rfl
 rw [if_neg (by simpa using h)]
 (repeat' (first|refine ah ?_|refine a6 ?_|refine ak ?_|refine au ?_|refine a8 ?_|refine aJ ?_|refine aa ?_|refine ae a7 rfl rfl ?_|(apply ba;refine aY ?_)|fail))
 exact aB rfl rfl rfl
instance (f : aH) (c : eS) (late : Bool) : AD Tryz.prog 92 [bw f, .agg (dY c), c8 late] (aQ (tb f c late)) := ⟨vR f c late⟩
def nu (f : aH) (i : Nat) (c : eS) : Bool := match i with | 0 => false | j + 1 => match f.Chars[j]? with | some b => decide (c.Rune ≤ b.Rune) | none => false
def dR (f : aH) (i : Nat) (c : eS) : Int := tb f c (nu f i c)
theorem tV (f : aH) (i : Nat) (c : eS) (hc : f.Chars[i]? = some c) (hm : (f.Chars.length : Int) ≤ 1000) : bo Tryz.prog 91 [aQ i, .agg (dY c), .iptr (bO f)] (aQ (dR f i c)) := by
 refine aU Tryz.func91 rfl Tryz.ntmps91 rfl fun B => ?_
 have hil := (List.getElem?_eq_some_iff.1 hc).1
 unfold dR
 cases i with
 | zero =>
  (repeat' (first|refine ah ?_|refine a6 ?_|refine a8 ?_|refine aa ?_|refine ae a7 rfl rfl ?_|refine b6 ?_|fail))
  refine bj 17 [(0, .v), (1, .v), (2, .v), (3, .v), (4, .v), (5, .v), (6, .v), (7, .v), (8, .v), (9, .v), (10, .v), (11, .v), (12, .v), (13, .v), (14, .v), (15, .v), (16, .v)] none ?_ trivial rfl (by kernel_rfl) (by kernel_rfl) (by kernel_rfl) mixed (by kernel_rfl) rfl
  (repeat' (first|refine aN ?_|refine bf a7 ?_|(apply cZ;refine dl ?_)|refine f3 rfl rfl ?_|fail))
  refine bl [22] rfl rfl ?_
  (repeat' (first|refine au ?_|refine a8 ?_|refine aa ?_|refine ae a7 rfl rfl ?_|fail))
  exact aB rfl rfl rfl
 | succ j =>
  obtain ⟨b, hb⟩ : ∃ b, f.Chars[j]? = some b := ⟨_, List.getElem?_eq_getElem (by omega)⟩
  have hbg : (f.Chars.map dY)[(((j + 1 : Nat) : Int) - 1).toNat]? = some (dY b) := by rw [show (((j + 1 : Nat) : Int) - 1).toNat = j by omega]; exact b5 hb
  have hl : nu f (j + 1) c = decide (c.Rune ≤ b.Rune) := by simp [nu, hb]
  have hpos : decide (0 < ((j + 1 : Nat) : Int)) = true := decide_eq_true (by omega)
  rw [hl]
  (repeat' (first|refine ah ?_|refine a6 ?_|refine a8 ?_|refine aa ?_|refine ae a7 rfl rfl ?_|refine b6 ?_|fail))
  refine bj 17 [(0, .v), (1, .v), (2, .v), (3, .v), (4, .v), (5, .v), (6, .v), (7, .v), (8, .v), (9, .v), (10, .v), (11, .v), (12, .v), (13, .v), (14, .v), (15, .v), (16, .v)] none ?_ trivial rfl (by kernel_rfl) (by kernel_rfl) (by kernel_rfl) mixed (by kernel_rfl) rfl
  (repeat' (first|refine aN ?_|refine bf a7 ?_|fail))
  rw [hpos]
  (repeat' (first|refine aN ?_|refine bf a7 ?_|(apply ey;refine fH ?_)|(apply bs;refine bH a7 ?_)|(apply cZ;refine dl ?_)|fail))
  refine bl [22] rfl rfl ?_
  (repeat' (first|refine au ?_|refine a8 ?_|refine aa ?_|refine ae a7 rfl rfl ?_|fail))
  exact aB rfl rfl rfl
def qm (a : dG) (name : Int) : Int := if name ≠ 0 then name else cS (!(decide ([a.Min, a.Def, a.Max].all cx = true ∧ a.Min ≤ a.Def ∧ a.Def ≤ a.Max))) 60
theorem vL (a : dG) (name : Int) : bo Tryz.prog 102 [.agg (dP a), aQ name] (aQ (qm a name)) := by
 refine aU Tryz.func102 rfl Tryz.ntmps102 rfl fun B => ?_
 unfold qm
 (repeat' (first|refine ah ?_|refine a6 ?_|refine a8 ?_|refine aa ?_|refine ae a7 rfl rfl ?_|refine b6 ?_|fail))
 refine av rfl (fun h => ?_) (fun h => ?_)
 ·rw [if_pos (of_decide_eq_true h)]
  (repeat' (first|refine ah ?_|refine a6 ?_|refine au ?_|refine a8 ?_|refine ar ?_|refine aa ?_|refine ae a7 rfl rfl ?_|fail))
  exact aB rfl rfl rfl
 rw [if_neg (of_decide_eq_false h)]
 (repeat' (first|refine ah ?_|refine a6 ?_|refine ak ?_|refine a8 ?_|refine ae a7 rfl rfl ?_|refine bM a7 ?_|(apply ba;refine aY ?_)|fail))
 refine bv (t := 5) [] ([a.Min, a.Def, a.Max].all cx = true ∧ a.Min ≤ a.Def ∧ a.Def ≤ a.Max) rfl (fun Q' K => ?_) ?_
 ·(repeat' (first|refine aa ?_|refine ae a7 rfl rfl ?_|refine aw rfl rfl ?_|refine aD rfl rfl rfl rfl ?_|refine aS rfl rfl rfl (fun _ => ?_) (fun _ => ?_)|fail))
  all_goals exact K _ _ rfl rfl (by clear K; grind)
 (repeat' (first|refine ah ?_|refine a6 ?_|refine au ?_|refine a8 ?_|refine aa ?_|refine ae a7 rfl rfl ?_|(apply ba;refine aY ?_)|fail))
 exact aB rfl rfl rfl
instance (a : dG) (name : Int) : AD Tryz.prog 102 [.agg (dP a), aQ name] (aQ (qm a name)) := ⟨vL a name⟩
def ob (_ : Nat) (t : dB) : Int := cS (decide (¬ (-64 ≤ t.Start ∧ t.Start ≤ t.Peak ∧ t.Peak ≤ t.End ∧ t.End ≤ 64) ∨ (t.Start < 0 ∧ t.End > 0 ∧ t.Peak ≠ 0))) 61
set_option maxHeartbeats 1000000 in
theorem x8 (i : Nat) (t : dB) : bo Tryz.prog 186 [aQ i, .agg (gO t)] (aQ (ob i t)) := by
 refine aU Tryz.func186 rfl Tryz.ntmps186 rfl fun B => ?_
 (repeat' (first|refine ah ?_|refine a6 ?_|refine a8 ?_|refine aa ?_|refine ae a7 rfl rfl ?_|refine b6 ?_|fail))
 refine bv (t := 5) [3] (-64 ≤ t.Start ∧ t.Start ≤ t.Peak ∧ t.Peak ≤ t.End ∧ t.End ≤ 64) rfl (fun Q' K => ?_) ?_
 ·(repeat' (first|refine aa ?_|refine ae a7 rfl rfl ?_|refine aw rfl rfl ?_|refine aD rfl rfl rfl rfl ?_|refine aS rfl rfl rfl (fun _ => ?_) (fun _ => ?_)|fail))
  all_goals exact K _ _ rfl rfl (by clear K; grind)
 (repeat' (first|refine ah ?_|refine a6 ?_|refine a8 ?_|refine ae a7 rfl rfl ?_|fail))
 refine bv (t := 6) [5] (t.Start < 0 ∧ t.End > 0 ∧ t.Peak ≠ 0) rfl (fun Q' K => ?_) ?_
 ·(repeat' (first|refine aa ?_|refine ae a7 rfl rfl ?_|refine aw rfl rfl ?_|refine aD rfl rfl rfl rfl ?_|refine aS rfl rfl rfl (fun _ => ?_) (fun _ => ?_)|fail))
  all_goals exact K _ _ rfl rfl (by clear K; grind)
 have ht : ob i t = cS (!(decide (-64 ≤ t.Start ∧ t.Start ≤ t.Peak ∧ t.Peak ≤ t.End ∧ t.End ≤ 64)) || decide (t.Start < 0 ∧ t.End > 0 ∧ t.Peak ≠ 0)) 61 := by unfold ob; rw [Bool.decide_or, decide_not]
 rw [ht]
 generalize decide (-64 ≤ t.Start ∧ t.Start ≤ t.Peak ∧ t.Peak ≤ t.End ∧ t.End ≤ 64) = p
 generalize decide (t.Start < 0 ∧ t.End > 0 ∧ t.Peak ≠ 0) = q
 cases p <;> cases q
 all_goals
  (repeat' (first|refine ah ?_|refine a6 ?_|refine au ?_|refine a8 ?_|refine aa ?_|refine ae a7 rfl rfl ?_|refine aw rfl rfl ?_|refine aD rfl rfl rfl rfl ?_|(apply ba;refine aY ?_)|fail))
  exact aB rfl rfl rfl
def uO (axes : Int) (r : List dB) : Int := if (r.length : Int) ≠ axes then 61 else (cC r ob).1
theorem su (r : List dB) (axes : Int) : bo Tryz.prog 105 [.agg (cI r), aQ axes] (aQ (uO axes r)) := by
 refine aU Tryz.func105 rfl Tryz.ntmps105 rfl fun B => ?_
 unfold uO
 (repeat' (first|refine ah ?_|refine a6 ?_|refine a8 ?_|refine aa ?_|refine ae a7 rfl rfl ?_|refine b6 ?_|fail))
 rw [List.length_map]
 refine av rfl (fun h => ?_) (fun h => ?_)
 ·rw [if_pos (of_decide_eq_true h)]
  (repeat' (first|refine ah ?_|refine a6 ?_|refine au ?_|refine a8 ?_|refine ar ?_|refine aa ?_|refine ae a7 rfl rfl ?_|fail))
  exact aB rfl rfl rfl
 rw [if_neg (of_decide_eq_false h)]
 (repeat' (first|refine ah ?_|refine a6 ?_|refine ak ?_|refine a8 ?_|refine ae a7 rfl rfl ?_|fail))
 refine aZ [] [] (xU (u := .sc (.func (.func 186) #[] #[])) (g := 186) (caps := []) rfl r _ (fun _ _ => True) [] trivial (cP (fun i x _ => x8 i x))) rfl rfl (List.Perm.refl _) rfl fun c L1 hc => ?_
 have hc : c = bX (cC r ob) := hc
 subst hc
 unfold bX
 (repeat' (first|refine ah ?_|refine a6 ?_|refine au ?_|refine a8 ?_|refine aa ?_|refine ae a7 rfl rfl ?_|fail))
 exact aB rfl rfl rfl
instance (r : List dB) (axes : Int) : AD Tryz.prog 105 [.agg (cI r), aQ axes] (aQ (uO axes r)) := ⟨su r axes⟩
theorem r8 (f : aH) (i : Nat) (r : List dB) : bo Tryz.prog 104 [aQ i, .agg (cI r), .iptr (bO f)] (aQ (uO f.Axes.length r)) := by
 refine aU Tryz.func104 rfl Tryz.ntmps104 rfl fun B => ?_
 (repeat' (first|refine ah ?_|refine a6 ?_|refine au ?_|refine a8 ?_|refine aa ?_|refine ae a7 rfl rfl ?_|refine b6 ?_|(apply ba;refine aY ?_)|fail))
 rw [List.length_map]
 (repeat' (first|fail))
 exact aB rfl rfl rfl
theorem tX (i : Nat) (l : List ew) : bo Tryz.prog 107 [aQ i, .imm 2 (l.map ga)] (aQ (iM l)) := by
 refine aU Tryz.func107 rfl Tryz.ntmps107 rfl fun B => ?_
 (repeat' (first|refine ah ?_|refine a6 ?_|refine au ?_|refine a8 ?_|refine aa ?_|refine ae a7 rfl rfl ?_|(apply ba;refine aY ?_)|fail))
 exact aB rfl rfl rfl
def qq (_ : Nat) (n : Int) : Int := cS (!([n].all cx)) 1
theorem vT (i : Nat) (n : Int) : bo Tryz.prog 110 [aQ i, aQ n] (aQ (qq i n)) := by
 refine aU Tryz.func110 rfl Tryz.ntmps110 rfl fun B => ?_
 (repeat' (first|refine ah ?_|refine a6 ?_|refine au ?_|refine a8 ?_|refine aa ?_|refine ae a7 rfl rfl ?_|refine bM a7 ?_|(apply ba;refine aY ?_)|fail))
 exact aB rfl rfl rfl
def j6 (f : aH) : Int := if f.Unit < 16 ∨ f.Unit > 4096 then 1 else if f.Glyphs.length = 0 then 32 else 0
theorem wd (f : aH) : bo Tryz.prog 82 [bw f] (aQ (j6 f)) := by
 refine aU Tryz.func82 rfl Tryz.ntmps82 rfl fun B => ?_
 unfold j6
 (repeat' (first|refine ah ?_|refine a6 ?_|refine am ?_|refine a8 ?_|refine aa ?_|refine ae a7 rfl rfl ?_|refine b6 ?_|fail))
 refine ci [1] (f.Unit < 16 ∨ f.Unit > 4096) rfl (fun Q' K => ?_) (fun hC => ?_) (fun hC => ?_)
 ·(repeat' (first|refine aa ?_|refine ae a7 rfl rfl ?_|refine aw rfl rfl ?_|refine aD rfl rfl rfl rfl ?_|refine aS rfl rfl rfl (fun _ => ?_) (fun _ => ?_)|fail))
  all_goals exact K _ _ rfl rfl (by clear K; grind)
 ·rw [if_pos hC]
  (repeat' (first|refine ah ?_|refine a6 ?_|refine au ?_|refine a8 ?_|refine ar ?_|refine aG ?_|refine aa ?_|refine ae a7 rfl rfl ?_|fail))
  exact aB rfl rfl rfl
 rw [if_neg hC]
 (repeat' (first|refine ah ?_|refine a6 ?_|refine a8 ?_|refine aa ?_|refine ae a7 rfl rfl ?_|fail))
 rw [List.length_map]
 refine av rfl (fun h => ?_) (fun h => ?_)
 ·rw [if_pos (by have := of_decide_eq_true h; omega)]
  (repeat' (first|refine ah ?_|refine a6 ?_|refine au ?_|refine a8 ?_|refine ar ?_|refine aG ?_|refine aa ?_|refine ae a7 rfl rfl ?_|fail))
  exact aB rfl rfl rfl
 rw [if_neg (by have := of_decide_eq_false h; omega)]
 (repeat' (first|refine ah ?_|refine a6 ?_|refine ak ?_|refine au ?_|refine a8 ?_|refine aJ ?_|refine aa ?_|refine ae a7 rfl rfl ?_|fail))
 exact aB rfl rfl rfl
instance (f : aH) : AD Tryz.prog 82 [bw f] (aQ (j6 f)) := ⟨wd f⟩
theorem oR (f : aH) : bo Tryz.prog 81 [.iptr (bO f)] (bX (j6 f, 0)) := by
 refine aU Tryz.func81 rfl Tryz.ntmps81 rfl fun B => ?_
 (repeat' (first|refine ah ?_|refine a6 ?_|refine au ?_|refine a8 ?_|refine aa ?_|refine ae a7 rfl rfl ?_|(apply ba;refine aY ?_)|fail))
 exact b4 rfl rfl rfl rfl
end Go.Proofs.YtpbinloeemebkaaGreat

namespace Go.Proofs.YtpbinloeemebkaaGreat
open Go.RowKit
attribute [local irreducible] AT bN AX AO Av Kt bi dE DA d6
open Go.MapKept
section
variable {P : Program} {r : Option Nat} {ops : Array Oper} {Q : Exit → Act → World → Prop} {nt : Nat} {D : List Deferred} {fr : c9} {B : Bs} {L : AL} {rest : List Oper} {d : Nat} {ty t : TypeId} {pos : String} {af : Array Edge} {x y z : Operand} {u : AV} {cd : Code}
theorem gW {f : FuncId} {args : Array Operand} {ts : Array TypeId} {cs caps : List AV} {v : AV} [bt P f] (hc : bo P f (cs ++ caps) v) (hx : bB fr x = some u) (hu : iL u = some (f, caps)) (hv : eU fr args.toList = some cs) (hn : Oper.noDefer ⟨some d, .call ⟨.value x, args, ts⟩, ty, pos, af, none⟩ = true) (hd : Nat.ble nt d = false) (h : bN P r ops Q nt D rest ((d, v) :: fr) B L) :
  bN P r ops Q nt D (⟨some d, .call ⟨.value x, args, ts⟩, ty, pos, af, none⟩ :: rest) fr B L :=
 cy [] L hc hx hu hv (List.Perm.refl _) hn hd fun c L1 hc => by
  have hc' : c = v := hc
  subst hc'
  exact bh (dA (List.sublist_append_right ..)) h
theorem xB (t : Nat) {u : AV} {s : Nat} {l : List (List AV)} (hl : bZ fr t = some u) (hu : j7 u = some (s, l)) (h : l.length ≤ 9223372036854775807 → bN P r ops Q nt D rest fr B L) : bN P r ops Q nt D rest fr B L :=
 xA (fun σ a w ha _ => (wh (ha.look t u hl) hu).1) h
end
def oT (t : bA) (i : Nat) (l : Int) : Bool := match i with | 0 => false | j + 1 => match t.Lookups[j]? with | some b => decide (l ≤ b) | none => false
def fC (f : aH) (t : bA) (i : Nat) (l : Int) : Int := cS (decide (l < 0 ∨ l ≥ f.Lookups.length) || oT t i l) 43
set_option maxHeartbeats 1000000 in
theorem ud (f : aH) (t : bA) (i : Nat) (l : Int) (hl : t.Lookups[i]? = some l) (hn : t.Lookups.length ≤ 9223372036854775807) : bo Tryz.prog 180 [aQ i, aQ l, .iptr (bO f), .iptr (bS t)] (aQ (fC f t i l)) := by
 refine aU Tryz.func180 rfl Tryz.ntmps180 rfl fun B => ?_
 have hil := (List.getElem?_eq_some_iff.1 hl).1
 unfold fC
 cases i with
 | zero =>
  (repeat' (first|refine ah ?_|refine a6 ?_|refine a8 ?_|refine aa ?_|refine ae a7 rfl rfl ?_|fail))
  refine bv (t := 7) [] (l < 0 ∨ l ≥ f.Lookups.length) rfl (fun Q' K => ?_) ?_
  ·(repeat' (first|refine aa ?_|refine ae a7 rfl rfl ?_|refine aw rfl rfl ?_|refine aD rfl rfl rfl rfl ?_|refine bT rfl rfl rfl ?_|refine aS rfl rfl rfl (fun _ => ?_) (fun _ => ?_)|fail))
   all_goals exact K _ _ rfl rfl (by clear K; simp_all <;> omega)
  (repeat' (first|refine ah ?_|refine a6 ?_|refine au ?_|refine a8 ?_|refine aa ?_|refine ae a7 rfl rfl ?_|(apply ba;refine aY ?_)|fail))
  refine aB rfl rfl ?_
  simp [oT]
 | succ j =>
  obtain ⟨b, hb⟩ : ∃ b, t.Lookups[j]? = some b := ⟨_, List.getElem?_eq_getElem (by omega)⟩
  have hbg : (aV t.Lookups)[(((j + 1 : Nat) : Int) - 1).toNat]? = some [aQ b] := by rw [show (((j + 1 : Nat) : Int) - 1).toNat = j by omega]; exact bk hb
  have hlt : oT t (j + 1) l = decide (l ≤ b) := by simp [oT, hb]
  have hpos : decide (0 < ((j + 1 : Nat) : Int)) = true := decide_eq_true (by omega)
  rw [hlt]
  (repeat' (first|refine ah ?_|refine a6 ?_|refine a8 ?_|refine aa ?_|refine ae a7 rfl rfl ?_|fail))
  refine bv (t := 7) [] ((l < 0 ∨ l ≥ f.Lookups.length) ∨ l ≤ b) rfl (fun Q' K => ?_) ?_
  ·(repeat' (first|refine aa ?_|refine ae a7 rfl rfl ?_|refine aw rfl rfl ?_|refine aD rfl rfl rfl rfl ?_|refine bT rfl rfl rfl ?_|(apply aX; refine aW ?_)|(apply aP; first|refine aO a7 ?_|refine aI a7 ?_)|refine aS rfl rfl rfl (fun _ => ?_) (fun _ => ?_)|fail))
   all_goals exact K _ _ rfl rfl (by clear K; simp_all <;> omega)
  (repeat' (first|refine ah ?_|refine a6 ?_|refine au ?_|refine a8 ?_|refine aa ?_|refine ae a7 rfl rfl ?_|(apply ba;refine aY ?_)|fail))
  refine aB rfl rfl ?_
  rw [Bool.decide_or]
def qw (f : aH) (t : bA) (name : Int) : Int := if name ≠ 0 then name else (cC t.Lookups (fC f t)).1
theorem qx (f : aH) (t : bA) (name : Int) : bo Tryz.prog 98 [bw f, .agg (bS t), aQ name] (aQ (qw f t name)) := by
 refine aU Tryz.func98 rfl Tryz.ntmps98 rfl fun B => ?_
 unfold qw
 (repeat' (first|refine ah ?_|refine a6 ?_|refine a8 ?_|refine aa ?_|refine ae a7 rfl rfl ?_|refine b6 ?_|fail))
 refine av rfl (fun h => ?_) (fun h => ?_)
 ·rw [if_pos (of_decide_eq_true h)]
  (repeat' (first|refine ah ?_|refine a6 ?_|refine au ?_|refine a8 ?_|refine ar ?_|refine aa ?_|refine ae a7 rfl rfl ?_|fail))
  exact aB rfl rfl rfl
 rw [if_neg (of_decide_eq_false h)]
 (repeat' (first|refine ah ?_|refine a6 ?_|refine ak ?_|refine a8 ?_|refine ae a7 rfl rfl ?_|fail))
 refine xB 14 rfl rfl fun hlen => ?_
 rw [aM] at hlen
 refine aZ [] [] (kJ (u := .fn 180 [.iptr (bO f), .iptr (bS t)]) (g := 180) rfl t.Lookups _ (fun _ _ => True) [] trivial (cP (fun i x hx => ud f t i x hx (by omega)))) rfl rfl (List.Perm.refl _) rfl fun c L1 hc => ?_
 have hc : c = bX (cC t.Lookups (fC f t)) := hc
 subst hc
 unfold bX
 (repeat' (first|refine ah ?_|refine a6 ?_|refine au ?_|refine a8 ?_|refine aa ?_|refine ae a7 rfl rfl ?_|fail))
 exact aB rfl rfl rfl
instance (f : aH) (t : bA) (name : Int) : AD Tryz.prog 98 [bw f, .agg (bS t), aQ name] (aQ (qw f t name)) := ⟨qx f t name⟩
def cL (names : List ByteArray) (s : ByteArray) : Option Nat := names.findIdx? (fun x => decide (x = s))
def cj (names : List ByteArray) (v : Value) : Option AV := match v with
 | .string s => (cL names s).map fun (n : Nat) => aQ (n : Int)
 | _ => none
theorem iq {names : List ByteArray} {i : Nat} {s : ByteArray} (h : names[i]? = some s) (q : ByteArray) : cL (names.take (i + 1)) q = match cL (names.take i) q with | some n => some n | none => if s = q then some i else none := by
 unfold cL
 have hlt := (List.getElem?_eq_some_iff.1 h).1
 have hlen : (names.take i).length = i := by rw [List.length_take]; omega
 rw [List.take_add_one, h, Option.toList_some, List.findIdx?_append, hlen]
 cases List.findIdx? (fun x => decide (x = q)) (names.take i) with
 | some n => rfl
 | none =>
  by_cases e : s = q
  ·simp [e]
  ·simp [e]
theorem k8 : cj [] = fun _ => none := by
 funext v
 cases v <;> rfl
theorem j1 {names : List ByteArray} {s : ByteArray} : (cj names (.string s)).isSome = (cL names s).isSome := by
 show (Option.map (fun n : Nat => aQ (n : Int)) (cL names s)).isSome = _
 cases cL names s <;> rfl
theorem ir {names : List ByteArray} {i : Nat} {s : ByteArray} (h : names[i]? = some s) (hk : (cL (names.take i) s).isSome = true) : cj (names.take (i + 1)) = cj (names.take i) := by
 funext v
 cases v with
 | string q =>
  simp only [cj]
  rw [iq h]
  cases hq : cL (names.take i) q with
  | some n => rfl
  | none =>
   by_cases e : s = q
   ·subst e; rw [hq] at hk; cases hk
   ·simp [e]
 | _ => rfl
theorem iZ {names : List ByteArray} {i : Nat} {s : ByteArray} (h : names[i]? = some s) (hk : (cL (names.take i) s).isSome = false) : cj (names.take (i + 1)) (.string s) = some (aQ i) := by
 simp only [cj]
 rw [iq h]
 cases hq : cL (names.take i) s with
 | some n => rw [hq] at hk; cases hk
 | none => simp
theorem it {names : List ByteArray} {i : Nat} {s : ByteArray} (h : names[i]? = some s) (q : Value) (hne : q ≠ .string s) : cj (names.take (i + 1)) q = cj (names.take i) q := by
 cases q with
 | string q =>
  have hne' : s ≠ q := fun e => hne (by rw [e])
  simp only [cj]
  rw [iq h]
  cases hq : cL (names.take i) q with
  | some n => rfl
  | none => simp [hne']
 | _ => rfl
theorem nG (g : be) : bo Tryz.prog 75 [.agg (bz g)] (ph g.Name) := by
 refine aU Tryz.func75 rfl Tryz.ntmps75 rfl fun B => ?_
 (repeat' (first|refine ah ?_|refine a6 ?_|refine au ?_|refine a8 ?_|refine aa ?_|refine ae a7 rfl rfl ?_|refine b6 ?_|fail))
 exact aB rfl rfl rfl
theorem nH (g : bA) : bo Tryz.prog 77 [.agg (bS g)] (ph g.Name) := by
 refine aU Tryz.func77 rfl Tryz.ntmps77 rfl fun B => ?_
 (repeat' (first|refine ah ?_|refine a6 ?_|refine au ?_|refine a8 ?_|refine aa ?_|refine ae a7 rfl rfl ?_|refine b6 ?_|fail))
 exact aB rfl rfl rfl
theorem nI (g : dG) : bo Tryz.prog 79 [.agg (dP g)] (ph g.Name) := by
 refine aU Tryz.func79 rfl Tryz.ntmps79 rfl fun B => ?_
 (repeat' (first|refine ah ?_|refine a6 ?_|refine au ?_|refine a8 ?_|refine aa ?_|refine ae a7 rfl rfl ?_|refine b6 ?_|fail))
 exact aB rfl rfl rfl
set_option maxHeartbeats 1000000 in
theorem qz (l : List be) : AC Tryz.prog 74 [.imm 9 (l.map bz), .sc (.func (.func 75) #[] #[])] [] fun c L => ∃ m, c = .sc (.map (some m)) ∧ L = [(m, c6 .string (cj (l.map be.Name)))] := by
 refine aU Tryz.func74 rfl Tryz.ntmps74 rfl fun B => ?_
 refine cg 0 rfl rfl fun hlen => ?_
 rw [List.length_map] at hlen
 (repeat' (first|refine ah ?_|refine a6 ?_|refine a8 ?_|refine aa ?_|refine ae a7 rfl rfl ?_|fail))
 refine dW .string fun m => ?_
 (repeat' (first|refine ah ?_|refine a6 ?_|refine am ?_|refine a8 ?_|refine aa ?_|refine ae a7 rfl rfl ?_|fail))
 refine aL [1, 5, 11, 12] (α := Nat) (fun i => [(13, aQ i)]) (fun i => i ≤ l.length) (fun i => [(m, c6 .string (cj ((l.map be.Name).take i)))]) (fun i => l.length - i) 0 rfl ⟨rfl, trivial⟩ (Nat.zero_le _) (fun _ _ h => by rw [List.take_zero, k8]; exact h) fun i hi => ?_
 try dsimp only [List.cons_append, List.nil_append, List.map_cons, List.map_nil]
 (repeat' (first|refine ah ?_|refine a6 ?_|refine a8 ?_|refine aa ?_|refine ae a7 rfl rfl ?_|fail))
 refine av rfl (fun h => ?_) (fun h => ?_)
 ·have hil : i < l.length := by have := of_decide_eq_true h; simp at this; omega
  obtain ⟨z, hz⟩ : ∃ z, l[i]? = some z := ⟨_, List.getElem?_eq_getElem hil⟩
  have hzg := b5 (c := bz) hz
  have hzn : (l.map be.Name)[i]? = some z.Name := by rw [List.getElem?_map, hz]; rfl
  (repeat' (first|refine ah ?_|refine a6 ?_|refine am ?_|refine ak ?_|refine a8 ?_|refine aa ?_|refine ae a7 rfl rfl ?_|(apply aP; first|refine aO a7 ?_|refine aI a7 ?_)|(apply aT; first|refine ai 7 a7 0 rfl rfl rfl rfl rfl rfl rfl rfl ?_|refine ai 7 a7 1 rfl rfl rfl rfl rfl rfl rfl rfl ?_|refine ai 7 a7 2 rfl rfl rfl rfl rfl rfl rfl rfl ?_|refine aj a7 0 rfl rfl rfl rfl rfl rfl rfl ?_|refine aj a7 1 rfl rfl rfl rfl rfl rfl rfl ?_|refine aj a7 2 rfl rfl rfl rfl rfl rfl rfl ?_|refine aj a7 3 rfl rfl rfl rfl rfl rfl rfl ?_|fail)|refine bb a7 fun _=>?_|fail))
  refine gW (cs := [.agg (bz z)]) (caps := []) (nG z) rfl rfl rfl rfl rfl ?_
  (repeat' (first|fail))
  refine lI 0 (.int .i64 0) Tryz.underlying164 Tryz.underlying9 rfl rfl trivial rfl (by kernel_rfl) rfl ?_
  rw [j1]
  (repeat' (first|refine ah ?_|refine a6 ?_|refine a8 ?_|refine aa ?_|refine ae a7 rfl rfl ?_|fail))
  refine av rfl (fun h2 => ?_) (fun h2 => ?_)
  ·have h2' : (cL ((l.map be.Name).take i) z.Name).isSome = false := by simpa using h2
   (repeat' (first|refine a6 ?_|refine ae a7 rfl rfl ?_|fail))
   refine gW (cs := [.agg (bz z)]) (caps := []) (nG z) rfl rfl rfl rfl rfl ?_
   (repeat' (first|refine ae a7 rfl rfl ?_|fail))
   refine cG 0 (cj ((l.map be.Name).take (i + 1))) Tryz.underlying164 Tryz.underlying9 rfl rfl trivial rfl rfl (iZ hzn h2') (it hzn) ?_
   (repeat' (first|refine a6 ?_|refine a8 ?_|refine aJ ?_|refine aa ?_|refine ae a7 rfl rfl ?_|(apply aX; refine aW ?_)|fail))
   exact aE (i + 1) rfl ⟨by rw [Int.natCast_add]; rfl, trivial⟩ (by omega) (by omega) (fun _ _ h => h)
  ·have h2' : (cL ((l.map be.Name).take i) z.Name).isSome = true := by simpa using h2
   (repeat' (first|refine a6 ?_|refine ak ?_|refine a8 ?_|refine aJ ?_|refine aa ?_|refine ae a7 rfl rfl ?_|(apply aX; refine aW ?_)|fail))
   exact aE (i + 1) rfl ⟨by rw [Int.natCast_add]; rfl, trivial⟩ (by omega) (by omega) (fun _ _ h => by rw [ir hzn h2']; exact h)
 ·have hil : i = l.length := by have := of_decide_eq_false h; simp at this; omega
  subst hil
  rw [List.take_of_length_le (by simp)]
  (repeat' (first|refine ah ?_|refine a6 ?_|refine au ?_|refine aR ?_|refine a8 ?_|refine az ?_|refine aC ?_|refine aA ?_|refine aa ?_|refine ae a7 rfl rfl ?_|fail))
  exact aB rfl rfl ⟨_, rfl, rfl⟩
set_option maxHeartbeats 1000000 in
theorem qA (l : List bA) : AC Tryz.prog 76 [.imm 2 (l.map bS), .sc (.func (.func 77) #[] #[])] [] fun c L => ∃ m, c = .sc (.map (some m)) ∧ L = [(m, c6 .string (cj (l.map bA.Name)))] := by
 refine aU Tryz.func76 rfl Tryz.ntmps76 rfl fun B => ?_
 refine cg 0 rfl rfl fun hlen => ?_
 rw [List.length_map] at hlen
 (repeat' (first|refine ah ?_|refine a6 ?_|refine a8 ?_|refine aa ?_|refine ae a7 rfl rfl ?_|fail))
 refine dW .string fun m => ?_
 (repeat' (first|refine ah ?_|refine a6 ?_|refine am ?_|refine a8 ?_|refine aa ?_|refine ae a7 rfl rfl ?_|fail))
 refine aL [1, 5, 11, 12] (α := Nat) (fun i => [(13, aQ i)]) (fun i => i ≤ l.length) (fun i => [(m, c6 .string (cj ((l.map bA.Name).take i)))]) (fun i => l.length - i) 0 rfl ⟨rfl, trivial⟩ (Nat.zero_le _) (fun _ _ h => by rw [List.take_zero, k8]; exact h) fun i hi => ?_
 try dsimp only [List.cons_append, List.nil_append, List.map_cons, List.map_nil]
 (repeat' (first|refine ah ?_|refine a6 ?_|refine a8 ?_|refine aa ?_|refine ae a7 rfl rfl ?_|fail))
 refine av rfl (fun h => ?_) (fun h => ?_)
 ·have hil : i < l.length := by have := of_decide_eq_true h; simp at this; omega
  obtain ⟨z, hz⟩ : ∃ z, l[i]? = some z := ⟨_, List.getElem?_eq_getElem hil⟩
  have hzg := b5 (c := bS) hz
  have hzn : (l.map bA.Name)[i]? = some z.Name := by rw [List.getElem?_map, hz]; rfl
  (repeat' (first|refine ah ?_|refine a6 ?_|refine am ?_|refine ak ?_|refine a8 ?_|refine aa ?_|refine ae a7 rfl rfl ?_|(apply aP; first|refine aO a7 ?_|refine aI a7 ?_)|(apply aT; first|refine ai 7 a7 0 rfl rfl rfl rfl rfl rfl rfl rfl ?_|refine ai 7 a7 1 rfl rfl rfl rfl rfl rfl rfl rfl ?_|refine ai 7 a7 2 rfl rfl rfl rfl rfl rfl rfl rfl ?_|refine aj a7 0 rfl rfl rfl rfl rfl rfl rfl ?_|refine aj a7 1 rfl rfl rfl rfl rfl rfl rfl ?_|refine aj a7 2 rfl rfl rfl rfl rfl rfl rfl ?_|refine aj a7 3 rfl rfl rfl rfl rfl rfl rfl ?_|fail)|refine bb a7 fun _=>?_|fail))
  refine gW (cs := [.agg (bS z)]) (caps := []) (nH z) rfl rfl rfl rfl rfl ?_
  (repeat' (first|fail))
  refine lI 0 (.int .i64 0) Tryz.underlying164 Tryz.underlying9 rfl rfl trivial rfl (by kernel_rfl) rfl ?_
  rw [j1]
  (repeat' (first|refine ah ?_|refine a6 ?_|refine a8 ?_|refine aa ?_|refine ae a7 rfl rfl ?_|fail))
  refine av rfl (fun h2 => ?_) (fun h2 => ?_)
  ·have h2' : (cL ((l.map bA.Name).take i) z.Name).isSome = false := by simpa using h2
   (repeat' (first|refine a6 ?_|refine ae a7 rfl rfl ?_|fail))
   refine gW (cs := [.agg (bS z)]) (caps := []) (nH z) rfl rfl rfl rfl rfl ?_
   (repeat' (first|refine ae a7 rfl rfl ?_|fail))
   refine cG 0 (cj ((l.map bA.Name).take (i + 1))) Tryz.underlying164 Tryz.underlying9 rfl rfl trivial rfl rfl (iZ hzn h2') (it hzn) ?_
   (repeat' (first|refine a6 ?_|refine a8 ?_|refine aJ ?_|refine aa ?_|refine ae a7 rfl rfl ?_|(apply aX; refine aW ?_)|fail))
   exact aE (i + 1) rfl ⟨by rw [Int.natCast_add]; rfl, trivial⟩ (by omega) (by omega) (fun _ _ h => h)
  ·have h2' : (cL ((l.map bA.Name).take i) z.Name).isSome = true := by simpa using h2
   (repeat' (first|refine a6 ?_|refine ak ?_|refine a8 ?_|refine aJ ?_|refine aa ?_|refine ae a7 rfl rfl ?_|(apply aX; refine aW ?_)|fail))
   exact aE (i + 1) rfl ⟨by rw [Int.natCast_add]; rfl, trivial⟩ (by omega) (by omega) (fun _ _ h => by rw [ir hzn h2']; exact h)
 ·have hil : i = l.length := by have := of_decide_eq_false h; simp at this; omega
  subst hil
  rw [List.take_of_length_le (by simp)]
  (repeat' (first|refine ah ?_|refine a6 ?_|refine au ?_|refine aR ?_|refine a8 ?_|refine az ?_|refine aC ?_|refine aA ?_|refine aa ?_|refine ae a7 rfl rfl ?_|fail))
  exact aB rfl rfl ⟨_, rfl, rfl⟩
set_option maxHeartbeats 1000000 in
theorem qB (l : List dG) : AC Tryz.prog 78 [.imm 4 (l.map dP), .sc (.func (.func 79) #[] #[])] [] fun c L => ∃ m, c = .sc (.map (some m)) ∧ L = [(m, c6 .string (cj (l.map dG.Name)))] := by
 refine aU Tryz.func78 rfl Tryz.ntmps78 rfl fun B => ?_
 refine cg 0 rfl rfl fun hlen => ?_
 rw [List.length_map] at hlen
 (repeat' (first|refine ah ?_|refine a6 ?_|refine a8 ?_|refine aa ?_|refine ae a7 rfl rfl ?_|fail))
 refine dW .string fun m => ?_
 (repeat' (first|refine ah ?_|refine a6 ?_|refine am ?_|refine a8 ?_|refine aa ?_|refine ae a7 rfl rfl ?_|fail))
 refine aL [1, 5, 11, 12] (α := Nat) (fun i => [(13, aQ i)]) (fun i => i ≤ l.length) (fun i => [(m, c6 .string (cj ((l.map dG.Name).take i)))]) (fun i => l.length - i) 0 rfl ⟨rfl, trivial⟩ (Nat.zero_le _) (fun _ _ h => by rw [List.take_zero, k8]; exact h) fun i hi => ?_
 try dsimp only [List.cons_append, List.nil_append, List.map_cons, List.map_nil]
 (repeat' (first|refine ah ?_|refine a6 ?_|refine a8 ?_|refine aa ?_|refine ae a7 rfl rfl ?_|fail))
 refine av rfl (fun h => ?_) (fun h => ?_)
 ·have hil : i < l.length := by have := of_decide_eq_true h; simp at this; omega
  obtain ⟨z, hz⟩ : ∃ z, l[i]? = some z := ⟨_, List.getElem?_eq_getElem hil⟩
  have hzg := b5 (c := dP) hz
  have hzn : (l.map dG.Name)[i]? = some z.Name := by rw [List.getElem?_map, hz]; rfl
  (repeat' (first|refine ah ?_|refine a6 ?_|refine am ?_|refine ak ?_|refine a8 ?_|refine aa ?_|refine ae a7 rfl rfl ?_|(apply aP; first|refine aO a7 ?_|refine aI a7 ?_)|(apply aT; first|refine ai 7 a7 0 rfl rfl rfl rfl rfl rfl rfl rfl ?_|refine ai 7 a7 1 rfl rfl rfl rfl rfl rfl rfl rfl ?_|refine ai 7 a7 2 rfl rfl rfl rfl rfl rfl rfl rfl ?_|refine aj a7 0 rfl rfl rfl rfl rfl rfl rfl ?_|refine aj a7 1 rfl rfl rfl rfl rfl rfl rfl ?_|refine aj a7 2 rfl rfl rfl rfl rfl rfl rfl ?_|refine aj a7 3 rfl rfl rfl rfl rfl rfl rfl ?_|fail)|refine bb a7 fun _=>?_|fail))
  refine gW (cs := [.agg (dP z)]) (caps := []) (nI z) rfl rfl rfl rfl rfl ?_
  (repeat' (first|fail))
  refine lI 0 (.int .i64 0) Tryz.underlying164 Tryz.underlying9 rfl rfl trivial rfl (by kernel_rfl) rfl ?_
  rw [j1]
  (repeat' (first|refine ah ?_|refine a6 ?_|refine a8 ?_|refine aa ?_|refine ae a7 rfl rfl ?_|fail))
  refine av rfl (fun h2 => ?_) (fun h2 => ?_)
  ·have h2' : (cL ((l.map dG.Name).take i) z.Name).isSome = false := by simpa using h2
   (repeat' (first|refine a6 ?_|refine ae a7 rfl rfl ?_|fail))
   refine gW (cs := [.agg (dP z)]) (caps := []) (nI z) rfl rfl rfl rfl rfl ?_
   (repeat' (first|refine ae a7 rfl rfl ?_|fail))
   refine cG 0 (cj ((l.map dG.Name).take (i + 1))) Tryz.underlying164 Tryz.underlying9 rfl rfl trivial rfl rfl (iZ hzn h2') (it hzn) ?_
   (repeat' (first|refine a6 ?_|refine a8 ?_|refine aJ ?_|refine aa ?_|refine ae a7 rfl rfl ?_|(apply aX; refine aW ?_)|fail))
   exact aE (i + 1) rfl ⟨by rw [Int.natCast_add]; rfl, trivial⟩ (by omega) (by omega) (fun _ _ h => h)
  ·have h2' : (cL ((l.map dG.Name).take i) z.Name).isSome = true := by simpa using h2
   (repeat' (first|refine a6 ?_|refine ak ?_|refine a8 ?_|refine aJ ?_|refine aa ?_|refine ae a7 rfl rfl ?_|(apply aX; refine aW ?_)|fail))
   exact aE (i + 1) rfl ⟨by rw [Int.natCast_add]; rfl, trivial⟩ (by omega) (by omega) (fun _ _ h => by rw [ir hzn h2']; exact h)
 ·have hil : i = l.length := by have := of_decide_eq_false h; simp at this; omega
  subst hil
  rw [List.take_of_length_le (by simp)]
  (repeat' (first|refine ah ?_|refine a6 ?_|refine au ?_|refine aR ?_|refine a8 ?_|refine az ?_|refine aC ?_|refine aA ?_|refine aa ?_|refine ae a7 rfl rfl ?_|fail))
  exact aB rfl rfl ⟨_, rfl, rfl⟩
end Go.Proofs.YtpbinloeemebkaaGreat

namespace Go.Proofs.YtpbinloeemebkaaGreat
open Go.RowKit
attribute [local irreducible] AT bN AX AO Av Kt bi dE DA d6
theorem iY (names : List ByteArray) (s : ByteArray) : (cj names (.string s)).getD (.sc (.int .i64 0)) = aQ ((cL names s).getD 0 : Nat) := by
 show (Option.map (fun n : Nat => aQ (n : Int)) (cL names s)).getD (.sc (.int .i64 0)) = _
 cases cL names s <;> rfl
def eg (names : List ByteArray) (i : Nat) (s : ByteArray) : Bool := decide ((((cL names s).getD 0 : Nat) : Int) < (i : Int))
def f6 (f : aH) : List ByteArray := f.Glyphs.map be.Name
def fw (f : aH) : List ByteArray := f.Features.map bA.Name
def fg (f : aH) : List ByteArray := f.Axes.map dG.Name
def cM (f : aH) (i : Nat) (g : be) : Int := lD f g (ge (cJ g.Name) (eg (f6 f) i g.Name))
def ek (f : aH) (i : Nat) (t : bA) : Int := qw f t (ge (cD t.Name) (eg (fw f) i t.Name))
def ej (f : aH) (i : Nat) (a : dG) : Int := qm a (ge (cJ a.Name) (eg (fg f) i a.Name))
set_option maxHeartbeats 1000000 in
theorem nj (f : aH) (i : Nat) (g : be) (m : Nat) : AC Tryz.prog 84 [aQ i, .agg (bz g), .iptr (bO f), .iptr [.sc (.map (some m))]] [(m, c6 .string (cj (f6 f)))] fun c L => c = aQ (cM f i g) ∧ L = [(m, c6 .string (cj (f6 f)))] := by
 refine aU Tryz.func84 rfl Tryz.ntmps84 rfl fun B => ?_
 (repeat' (first|refine ah ?_|refine a6 ?_|refine a8 ?_|refine aa ?_|refine ae a7 rfl rfl ?_|refine b6 ?_|fail))
 refine bj 12 [(0, .v), (1, .v), (2, .v), (3, .v), (4, .v), (5, .v), (6, .v), (7, .v), (9, .v), (8, .e), (10, .v), (11, .v)] none ?_ trivial rfl (by kernel_rfl) (by kernel_rfl) (by kernel_rfl) mixed (by kernel_rfl) rfl
 (repeat' (first|refine aN ?_|refine bf a7 ?_|(apply cZ;refine dl ?_)|fail))
 refine ne 0 (.int .i64 0) Tryz.underlying164 Tryz.underlying9 rfl rfl trivial rfl (by kernel_rfl) trivial ?_
 rw [iY]
 (repeat' (first|refine aN ?_|refine bf a7 ?_|(apply cZ;refine dl ?_)|fail))
 refine bl [7, 8, 18] rfl rfl ?_
 (repeat' (first|refine au ?_|refine a8 ?_|refine aa ?_|refine ae a7 rfl rfl ?_|(apply ba;refine aY ?_)|fail))
 exact aB rfl rfl ⟨rfl, rfl⟩
set_option maxHeartbeats 1000000 in
theorem ue (f : aH) (i : Nat) (t : bA) (m : Nat) : AC Tryz.prog 97 [aQ i, .agg (bS t), .iptr (bO f), .iptr [.sc (.map (some m))]] [(m, c6 .string (cj (fw f)))] fun c L => c = aQ (ek f i t) ∧ L = [(m, c6 .string (cj (fw f)))] := by
 refine aU Tryz.func97 rfl Tryz.ntmps97 rfl fun B => ?_
 (repeat' (first|refine ah ?_|refine a6 ?_|refine a8 ?_|refine aa ?_|refine ae a7 rfl rfl ?_|refine b6 ?_|fail))
 refine bj 12 [(0, .v), (1, .v), (2, .v), (3, .v), (4, .v), (5, .v), (6, .v), (7, .v), (9, .v), (8, .e), (10, .v), (11, .v)] none ?_ trivial rfl (by kernel_rfl) (by kernel_rfl) (by kernel_rfl) mixed (by kernel_rfl) rfl
 (repeat' (first|refine aN ?_|refine bf a7 ?_|(apply cZ;refine dl ?_)|fail))
 refine ne 0 (.int .i64 0) Tryz.underlying164 Tryz.underlying9 rfl rfl trivial rfl (by kernel_rfl) trivial ?_
 rw [iY]
 (repeat' (first|refine aN ?_|refine bf a7 ?_|(apply cZ;refine dl ?_)|fail))
 refine bl [7, 8, 18] rfl rfl ?_
 (repeat' (first|refine au ?_|refine a8 ?_|refine aa ?_|refine ae a7 rfl rfl ?_|(apply ba;refine aY ?_)|fail))
 exact aB rfl rfl ⟨rfl, rfl⟩
set_option maxHeartbeats 1000000 in
theorem tS (f : aH) (i : Nat) (a : dG) (m : Nat) : AC Tryz.prog 101 [aQ i, .agg (dP a), .iptr [.sc (.map (some m))]] [(m, c6 .string (cj (fg f)))] fun c L => c = aQ (ej f i a) ∧ L = [(m, c6 .string (cj (fg f)))] := by
 refine aU Tryz.func101 rfl Tryz.ntmps101 rfl fun B => ?_
 (repeat' (first|refine ah ?_|refine a6 ?_|refine a8 ?_|refine aa ?_|refine ae a7 rfl rfl ?_|refine b6 ?_|fail))
 refine bj 11 [(0, .v), (1, .v), (2, .v), (3, .v), (4, .v), (5, .v), (6, .v), (8, .v), (7, .e), (9, .v), (10, .v)] none ?_ trivial rfl (by kernel_rfl) (by kernel_rfl) (by kernel_rfl) mixed (by kernel_rfl) rfl
 (repeat' (first|refine aN ?_|refine bf a7 ?_|(apply cZ;refine dl ?_)|fail))
 refine ne 0 (.int .i64 0) Tryz.underlying164 Tryz.underlying9 rfl rfl trivial rfl (by kernel_rfl) trivial ?_
 rw [iY]
 (repeat' (first|refine aN ?_|refine bf a7 ?_|(apply cZ;refine dl ?_)|fail))
 refine bl [6, 16] rfl rfl ?_
 (repeat' (first|refine au ?_|refine a8 ?_|refine aa ?_|refine ae a7 rfl rfl ?_|(apply ba;refine aY ?_)|fail))
 exact aB rfl rfl ⟨rfl, rfl⟩
end Go.Proofs.YtpbinloeemebkaaGreat

namespace Go.Proofs.YtpbinloeemebkaaGreat
open Go.RowKit
section
variable {P : Program} {fr : c9} {B : Bs} {L : AL} {d : Option Tmp} {ty t t' tn : TypeId} {pos : String} {af : Array Edge} {g : Option (Nat × Bool)} {x y z q : Operand} {u : AV}
theorem rI {e sz by_ n : Nat} {k kn : IntKind} {a : Int} (hc : mo P t e sz by_) (hsz : 0 < sz) (hn : P.underlying tn = some (.int kn)) (hx : bB fr x = some (.sc (.slice none 0 0))) (hy : bB fr y = some (.sc (.int k a))) (ha : a = (n : Int)) (h0 : 0 < n) (h63 : n ≤ 9223372036854775807) (hby : n * by_ ≤ 281474976710656) :
  AO P ⟨d, .call ⟨.builtin .append, #[x, y], #[t, tn]⟩, ty, pos, af, g⟩ fr B L (fun r L' => ∃ b cap, r = .sc (.slice (some ⟨b, 0, none⟩) n cap) ∧ n ≤ cap ∧ cap ≤ maxLen ∧ L' = (b, .vec e sz 0 cap) :: L) := by
 intro σ ρ w hρ hw
 subst ha
 haveI := hc
 obtain ⟨inf, zz, hi, rfl, rfl, hzz, hzs⟩ := hc.info
 have hr := Lib.run_append_nil_zeros (P := P) w t tn ty e inf zz k kn hc.under hn hi hzz n h0 hsz (by omega) hby
 unfold ia
 rw [show (execOp ρ ⟨d, .call ⟨.builtin .append, #[x, y], #[t, tn]⟩, ty, pos, af, g⟩).run P w = .ok (.value (.slice (some ⟨w.heap.size, 0, none⟩) n (grownCap w n 0 e))) (w.drew.alloc (.cells (Builtin.zeroCells zz.cells n ++ Builtin.zeroCells zz.cells (grownCap w n 0 e - n)) e)) by
  simp [execOp, resolve, (hρ x _ hx).sc_inv, (hρ y _ hy).sc_inv, invoke, builtin, hr]]
 have hge := grownCap_ge w n 0 e
 have hm := grownCap_le_maxLen w n 0 e (by unfold maxLen; omega)
 refine ⟨σ, .sc _, _, ce.le_refl _, .sc _, (hw.drew _).alloc _ (.vec e inf.size 0 (grownCap w n 0 e)) ⟨_, rfl, ?_, Nat.zero_le _, hm⟩, w.heap.size, _, rfl, hge, hm, rfl⟩
 rw [Array.size_append, size_zeroCells, size_zeroCells, hzs, ← Nat.add_mul]
 congr 1
 omega
theorem zl {A : Option Addr} {n c e sz by_ : Nat} (hc : mo P t e sz by_) (hx : bB fr x = some (.sc (.slice A n c))) : Av P ⟨d, .call ⟨.builtin .cap, #[x], #[t]⟩, ty, pos, af, g⟩ fr (.sc (.int .i64 c)) :=
 dX fun ρ w hρ => by simp [execOp, resolve, hρ _ _ hx, invoke, builtin, Builtin.cap_, run_underlying hc.under, Result.andThen, goInt]
theorem zp {e sz by_ : Nat} {k : IntKind} (hc : mo P t e sz by_) (hx : bB fr x = some (.sc (.slice none 0 0))) (hy : bB fr y = some (.sc (.int k 0))) : Av P ⟨d, .slice t x none (some y) none, ty, pos, af, g⟩ fr (.sc (.slice none 0 0)) := by
 intro σ ρ w hρ _
 haveI := hc
 refine ⟨_, ?_, .sc _⟩
 simp [execOp, (hρ x _ hx).sc_inv, (hρ y _ hy).sc_inv, Instr.sliceAt, Instr.slice, Instr.sliceBounds, Instr.sliceBound, asIntOf, run_underlying hc.under, ee (t := t)]
end
section
variable {P : Program} {tt : TT} {r : Option Nat} {ops : Array Oper} {Q : Exit → Act → World → Prop} {nt : Nat} {D : List Deferred} {fr : c9} {B : Bs} {L : AL} {rest : List Oper} {d : Nat} {ty t t' tn : TypeId} {pos : String} {af : Array Edge} {x y z : Operand} {u : AV}
theorem uE (ok : eW P tt) (n : Nat) {e sz by_ : Nat} {k kn : IntKind} {a : Int} (ht : mj tt t = some (e, sz, by_)) (hn : P.underlying tn = some (.int kn)) (hx : bB fr x = some (.sc (.slice none 0 0))) (hy : bB fr y = some (.sc (.int k a))) (ha : a = (n : Int)) (h0 : 0 < n) (h63 : n ≤ 9223372036854775807) (hby : n * by_ ≤ 281474976710656) (hd : Nat.ble nt d = false)
  (h : ∀ b cap, n ≤ cap → cap ≤ maxLen → bN P r ops Q nt D rest ((d, .sc (.slice (some ⟨b, 0, none⟩) n cap)) :: fr) B ((b, .vec e sz 0 cap) :: L)) :
  bN P r ops Q nt D (⟨some d, .call ⟨.builtin .append, #[x, y], #[t, tn]⟩, ty, pos, af, none⟩ :: rest) fr B L :=
 cT hd rfl (rI (bL ok ht).1 (bL ok ht).2 hn hx hy ha h0 h63 hby) fun q L' ⟨b, cap, h1, h2, h3, h4⟩ => by subst h1; subst h4; exact h b cap h2 h3
theorem wG (ok : eW P tt) {A : Option Addr} {n c e sz by_ : Nat} (ht : mj tt t = some (e, sz, by_)) (hx : bB fr x = some (.sc (.slice A n c))) (hd : Nat.ble nt d = false) (h : bN P r ops Q nt D rest ((d, .sc (.int .i64 c)) :: fr) B L) : bN P r ops Q nt D (⟨some d, .call ⟨.builtin .cap, #[x], #[t]⟩, ty, pos, af, none⟩ :: rest) fr B L := eh (zl (bL ok ht).1 hx) hd rfl h
theorem A7 (ok : eW P tt) {e sz by_ : Nat} {k : IntKind} (ht : mj tt t = some (e, sz, by_)) (hx : bB fr x = some (.sc (.slice none 0 0))) (hy : bB fr y = some (.sc (.int k 0))) (hd : Nat.ble nt d = false) (h : bN P r ops Q nt D rest ((d, .sc (.slice none 0 0)) :: fr) B L) :
  bN P r ops Q nt D (⟨some d, .slice t x none (some y) none, ty, pos, af, none⟩ :: rest) fr B L := eh (zp (bL ok ht).1 hx hy) hd rfl h
end
theorem yO {σ : ce} {b cap sz : Nat} {v : Value} (hm : cap ≤ maxLen) (h : VR σ (.sc (.slice (some ⟨b, 0, none⟩) 0 cap)) v) : VR σ (.vec (some (b, cap)) sz []) v := by
 rw [h.sc_inv]
 exact od (l := []) (xs := []) (by simp) d4.nil (by simp) (Nat.zero_le _) hm (by simp)
end Go.Proofs.YtpbinloeemebkaaGreat

namespace Go.Proofs.YtpbinloeemebkaaGreat
open Go.RowKit
attribute [local irreducible] AT bN AX AO Av Kt bi dE DA d6
theorem y7 (n : Nat) (hn : n ≤ 1000000) : AC Tryz.prog 113 [.sc (.slice none 0 0), aQ n] [] fun c L => ∃ k, c = .vec k 1 [] ∧ L = tok k 29 1 0 := by
 refine aU Tryz.func113 rfl Tryz.ntmps113 rfl fun B => ?_
 (repeat' (first|refine ah ?_|refine a6 ?_|refine ak ?_|refine a8 ?_|refine aa ?_|refine ae a7 rfl rfl ?_|refine bV rfl ?_|fail))
 refine wG a7 rfl rfl rfl ?_
 (repeat' (first|refine ah ?_|refine a6 ?_|refine a8 ?_|refine aa ?_|refine ae a7 rfl rfl ?_|(apply aX; refine aW ?_)|fail))
 by_cases h0 : n = 0
 ·subst h0
  (repeat' (first|refine ah ?_|refine a6 ?_|refine ak ?_|refine au ?_|refine a8 ?_|refine aa ?_|refine ae a7 rfl rfl ?_|refine bV rfl ?_|fail))
  refine bU (cw (t := 4) (c' := .vec none 1 []) rfl fun σ v h => jm 1 h) (aB rfl rfl ⟨none, rfl, rfl⟩)
 ·refine av rfl (fun h2 => ?_) (fun h2 => ?_)
  ·(repeat' (first|refine a6 ?_|refine ae a7 rfl rfl ?_|fail))
   refine wG a7 rfl rfl rfl ?_
   (repeat' (first|fail))
   refine A7 a7 rfl rfl rfl rfl ?_
   (repeat' (first|refine ae a7 rfl rfl ?_|fail))
   refine uE a7 n rfl Tryz.underlying3 rfl rfl (by omega) (by omega) (by omega) (by omega) rfl fun b cap h3 h4 => ?_
   (repeat' (first|refine ae a7 rfl rfl ?_|fail))
   refine wH a7 0 rfl rfl rfl rfl (by omega) (by omega) rfl ?_
   (repeat' (first|refine ah ?_|refine a6 ?_|refine au ?_|refine a8 ?_|refine aa ?_|refine ae a7 rfl rfl ?_|fail))
   refine bU (cw (t := 4) (c' := .vec (some (b, cap)) 1 []) rfl fun σ v h => yO h4 h) (aB rfl rfl ⟨some (b, cap), rfl, rfl⟩)
  ·exact absurd (of_decide_eq_false h2) (by omega)
def nO (l : List (List (List Int))) : List (List AV) := l.map fun r => [.imm 1 (c7 r)]
def eB (l : List (List (List Int))) : Nat := (l.map List.length).sum
theorem ml {l : List (List (List Int))} {i : Nat} {r : List (List Int)} (h : l[i]? = some r) : eB (l.take (i + 1)) = eB (l.take i) + r.length := by
 unfold eB
 rw [List.take_add_one, h]
 simp
theorem pa (l : List (List (List Int))) (i : Nat) : eB (l.take i) ≤ eB l := by
 have h : ((l.take i ++ l.drop i).map List.length).sum = (l.map List.length).sum := by rw [List.take_append_drop]
 rw [List.map_append, List.sum_append] at h
 unfold eB
 omega
theorem w7 (l : List (List (List Int))) : l.flatten.length = eB l := by
 unfold eB
 rw [List.length_flatten]
theorem uQ (a b : List (List Int)) : c7 a ++ c7 b = c7 (a ++ b) := by unfold c7; rw [List.map_append]
set_option maxHeartbeats 1000000 in
theorem nc (l : List (List (List Int))) (hs : eB l ≤ 1000000) : bo Tryz.prog 55 [.imm 1 (nO l)] (.imm 1 (c7 l.flatten)) := by
 refine aU Tryz.func55 rfl Tryz.ntmps55 rfl fun B => ?_
 have hrl : (nO l).length = l.length := by simp [nO]
 refine cg 0 rfl rfl fun hlen => ?_
 rw [hrl] at hlen
 (repeat' (first|refine ah ?_|refine a6 ?_|refine am ?_|refine a8 ?_|refine aa ?_|refine ae a7 rfl rfl ?_|fail))
 refine aL [0, 9, 10] (α := Nat) (fun i => [(11, aQ i), (3, aQ (eB (l.take i)))]) (fun i => i ≤ l.length) (fun _ => []) (fun i => l.length - i) 0 rfl ⟨rfl, rfl, trivial⟩ (Nat.zero_le _) (fun _ _ h => h) fun i hi => ?_
 try dsimp only [List.cons_append, List.nil_append, List.map_cons, List.map_nil]
 (repeat' (first|refine ah ?_|refine a6 ?_|refine a8 ?_|refine aa ?_|refine ae a7 rfl rfl ?_|fail))
 refine av rfl (fun h => ?_) (fun h => ?_)
 ·have hil : i < l.length := by have := of_decide_eq_true h; rw [hrl] at this; omega
  obtain ⟨z, hz⟩ : ∃ z, l[i]? = some z := ⟨_, List.getElem?_eq_getElem hil⟩
  have hzg : (nO l)[i]? = some [.imm 1 (c7 z)] := by simp [nO, hz]
  have hsz := ml hz
  have hle := pa l (i + 1)
  have hzl : (c7 z).length = z.length := by simp [c7]
  (repeat' (first|refine ah ?_|refine a6 ?_|refine am ?_|refine ak ?_|refine a8 ?_|refine aJ ?_|refine aa ?_|refine ae a7 rfl rfl ?_|(apply aX; refine aW ?_)|(apply aP; first|refine aO a7 ?_|refine aI a7 ?_)|refine bV rfl ?_|fail))
  exact aE (i + 1) rfl ⟨by rw [Int.natCast_add]; rfl, by rw [hsz, Int.natCast_add, hzl]; rfl, trivial⟩ (by omega) (by omega) (fun _ _ h => h)
 have hil : i = l.length := by have := of_decide_eq_false h; rw [hrl] at this; omega
 subst hil
 rw [List.take_length]
 clear h
 (repeat' (first|refine ah ?_|refine a6 ?_|refine aR ?_|refine a8 ?_|refine az ?_|refine aC ?_|refine aA ?_|refine ae a7 rfl rfl ?_|fail))
 refine aZ [] [] (y7 (eB l) hs) rfl rfl (List.Perm.refl _) rfl fun c L1 ⟨k, hc, hL⟩ => ?_
 subst hc; subst hL
 rw [List.append_nil]
 (repeat' (first|refine ah ?_|refine a6 ?_|refine am ?_|refine a8 ?_|refine aa ?_|refine ae a7 rfl rfl ?_|fail))
 refine aL [25, 26] (α := Nat × Option (Nat × Nat)) (fun x => [(27, aQ x.1), (6, .vec x.2 1 (c7 (l.take x.1).flatten))]) (fun x => x.1 ≤ l.length) (fun x => tok x.2 29 1 (c7 (l.take x.1).flatten).length) (fun x => l.length - x.1) (0, k) rfl ⟨rfl, rfl, trivial⟩ (Nat.zero_le _) (fun _ _ h => h) ?_
 rintro ⟨i, k⟩ hi
 dsimp only at hi ⊢
 try dsimp only [List.cons_append, List.nil_append, List.map_cons, List.map_nil]
 (repeat' (first|refine ah ?_|refine a6 ?_|refine a8 ?_|refine aa ?_|refine ae a7 rfl rfl ?_|fail))
 refine av rfl (fun h => ?_) (fun h => ?_)
 ·have hil : i < l.length := by have := of_decide_eq_true h; rw [hrl] at this; omega
  obtain ⟨z, hz⟩ : ∃ z, l[i]? = some z := ⟨_, List.getElem?_eq_getElem hil⟩
  have hzg : (nO l)[i]? = some [.imm 1 (c7 z)] := by simp [nO, hz]
  have hsz := ml hz
  have hle := pa l (i + 1)
  have hzl : (c7 z).length = z.length := by simp [c7]
  have hfl : (c7 (l.take i).flatten).length = eB (l.take i) := by rw [cq, w7]
  have hcat : c7 (l.take i).flatten ++ c7 z = c7 (l.take (i + 1)).flatten := by rw [uQ, List.take_add_one, hz]; simp
  (repeat' (first|refine ah ?_|refine a6 ?_|refine am ?_|refine ak ?_|refine a8 ?_|refine aa ?_|refine ae a7 rfl rfl ?_|(apply aP; first|refine aO a7 ?_|refine aI a7 ?_)|fail))
  refine cF a7 [] rfl rfl rfl rfl (by rw [List.append_nil]) (by rw [hfl, hzl]; omega) (by rw [hfl, hzl]; omega) rfl fun k' => ?_
  rw [hcat, List.append_nil]
  (repeat' (first|refine a6 ?_|refine a8 ?_|refine aJ ?_|refine aa ?_|refine ae a7 rfl rfl ?_|(apply aX; refine aW ?_)|fail))
  exact aE (i + 1, k') rfl ⟨by rw [Int.natCast_add]; rfl, rfl, trivial⟩ (by dsimp only; omega) (by dsimp only; omega) (fun _ _ h => h)
 ·have hil : i = l.length := by have := of_decide_eq_false h; rw [hrl] at this; omega
  subst hil
  rw [List.take_length]
  (repeat' (first|refine ah ?_|refine a6 ?_|refine au ?_|refine aR ?_|refine a8 ?_|refine az ?_|refine aC ?_|refine aA ?_|refine aa ?_|refine ae a7 rfl rfl ?_|fail))
  exact kD rfl rfl rfl rfl
end Go.Proofs.YtpbinloeemebkaaGreat
