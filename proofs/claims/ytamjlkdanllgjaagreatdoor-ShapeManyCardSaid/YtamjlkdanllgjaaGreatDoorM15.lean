/-
  The program: a rule, a lookup, as check looks at them.
-/
import Derived.Test.YtamjlkdanllgjaaGreatDoorM14
import Derived.Test.YtamjlkdanllgjaaGreatDoorM10
import Derived.Test.YtamjlkdanllgjaaGreatDoorM09
import Derived.Test.YtamjlkdanllgjaaGreatDoorM05
import Derived.Test.YtamjlkdanllgjaaGreatDoorM06
namespace Go.Proofs.YtamjlkdanllgjaaGreatDoor
open Go.RowKit
attribute [local irreducible] AT br AX AO Av Kt aW cZ DA cw
def wD (f : aP) (_ : Nat) (l : List Int) : Int := dp (!(nO f l)) 41
def wm (f : aP) (_ : Nat) (n : Int) : Int := dp (!(jv f n)) 32
def xE (kind : Int) (r : bn) : Int := dp (decide (r.X ≠ 0 ∧ kind ≠ 6)) 40
def mw (r : bn) : List (List Int) := r.Back ++ (r.In ++ r.Ahead)
theorem wv (kind : Int) (r : bn) : bw Tryz.prog 258 [.iptr [aD kind], .iptr (bL r)] (bX (mv kind r, 0)) := by
 refine aG Tryz.func258 rfl Tryz.ntmps258 rfl fun B => ?_
 repeat' (first|refine ae ?_|refine a6 ?_|refine am ?_|refine a8 ?_|refine aa ?_|refine ah a7 rfl rfl ?_|(apply bc;refine aX ?_)|fail)
 exact aS rfl rfl rfl rfl
theorem tS (f : aP) (i : Nat) (l : List Int) : bw Tryz.prog 263 [aD i, .imm 1 (aT l), .iptr (bH f)] (aD (wD f i l)) := by
 refine aG Tryz.func263 rfl Tryz.ntmps263 rfl fun B => ?_
 repeat' (first|refine ae ?_|refine a6 ?_|refine am ?_|refine a8 ?_|refine aa ?_|refine ah a7 rfl rfl ?_|(apply bc;refine aX ?_)|fail)
 exact au rfl rfl rfl
theorem ww (f : aP) (r : bn) (h : r.Back.length ≤ 6 ∧ r.In.length ≤ 6 ∧ r.Ahead.length ≤ 6) : bw Tryz.prog 260 [.iptr (bL r), .iptr (bH f)] (bX (cD (mw r) (wD f))) := by
 refine aG Tryz.func260 rfl Tryz.ntmps260 rfl fun B => ?_
 repeat' (first|refine ae ?_|refine a6 ?_|refine a8 ?_|refine aa ?_|refine ah a7 rfl rfl ?_|refine cE a7 ?_|fail)
 refine aX (hc := ⟨t7 [r.Back, r.In, r.Ahead] (by simp [fp]; omega)⟩) ?_
 rw [show ([r.Back, r.In, r.Ahead] : List (List (List Int))).flatten = mw r by simp [mw]]
 repeat' (first|refine ah a7 rfl rfl ?_)
 refine aV [] [] (AQ (u := .fn 263 [.iptr (bH f)]) (g := 263) rfl (mw r) _ (fun _ _ => True) [] trivial (cF (fun i x _ => tS f i x))) rfl rfl (Hp _) rfl fun c L1 hc => ?_
 have hc : c = bX (cD (mw r) (wD f)) := hc
 subst hc
 unfold bX
 repeat' (first|refine am ?_|refine a8 ?_|refine aa ?_|refine ah a7 rfl rfl ?_)
 exact aS rfl rfl rfl rfl
theorem wx (kind : Int) (r : bn) (hin : r.In ≠ []) : bw Tryz.prog 265 [.iptr [aD kind], .iptr (bL r)] (bX (dp (!(wl kind r)) 40, 0)) := by
 refine aG Tryz.func265 rfl Tryz.ntmps265 rfl fun B => ?_
 repeat' (first|refine ae ?_|refine a6 ?_|refine a8 ?_|refine aa ?_|refine ah a7 rfl rfl ?_)
 refine aX (hc := ⟨Bq kind r hin⟩) ?_
 repeat' (first|refine am ?_|refine a8 ?_|refine aa ?_|refine ah a7 rfl rfl ?_|(apply bc;refine aX ?_)|fail)
 exact aS rfl rfl rfl rfl
theorem tT (f : aP) (i : Nat) (n : Int) : bw Tryz.prog 268 [aD i, aD n, .iptr (bH f)] (aD (wm f i n)) := by
 refine aG Tryz.func268 rfl Tryz.ntmps268 rfl fun B => ?_
 repeat' (first|refine ae ?_|refine a6 ?_|refine am ?_|refine a8 ?_|refine aa ?_|refine ah a7 rfl rfl ?_|(apply bc;refine aX ?_)|fail)
 exact au rfl rfl rfl
theorem wy (f : aP) (r : bn) : bw Tryz.prog 267 [.iptr (bL r), .iptr (bH f)] (bX (cD r.Out (wm f))) := by
 refine aG Tryz.func267 rfl Tryz.ntmps267 rfl fun B => ?_
 repeat' (first|refine ae ?_|refine a6 ?_|refine a8 ?_|refine aa ?_|refine ah a7 rfl rfl ?_)
 refine aV [] [] (ky (u := .fn 268 [.iptr (bH f)]) (g := 268) rfl r.Out _ (fun _ _ => True) [] trivial (cF (fun i x _ => tT f i x))) rfl rfl (Hp _) rfl fun c L1 hc => ?_
 have hc : c = bX (cD r.Out (wm f)) := hc
 subst hc
 unfold bX
 repeat' (first|refine am ?_|refine a8 ?_|refine aa ?_|refine ah a7 rfl rfl ?_)
 exact aS rfl rfl rfl rfl
theorem wz (f : aP) (kind : Int) (r : bn) : bw Tryz.prog 269 [.iptr (bH f), .iptr [aD kind], .iptr (bL r)] (bX (lr f kind r, 0)) := by
 refine aG Tryz.func269 rfl Tryz.ntmps269 rfl fun B => ?_
 repeat' (first|refine ae ?_|refine a6 ?_|refine am ?_|refine a8 ?_|refine aa ?_|refine ah a7 rfl rfl ?_|(apply bc;refine aX ?_)|fail)
 exact aS rfl rfl rfl rfl
theorem wA (r : bn) : bw Tryz.prog 271 [.iptr (bL r)] (bX (dp (!([r.X].all fi)) 1, 0)) := by
 refine aG Tryz.func271 rfl Tryz.ntmps271 rfl fun B => ?_
 repeat' (first|refine ae ?_|refine a6 ?_|refine am ?_|refine a8 ?_|refine aa ?_|refine ah a7 rfl rfl ?_|refine cE a7 ?_|(apply bc;refine aX ?_)|fail)
 exact aS rfl rfl rfl rfl
theorem wB (kind : Int) (r : bn) : bw Tryz.prog 272 [.iptr (bL r), .iptr [aD kind]] (bX (xE kind r, 0)) := by
 refine aG Tryz.func272 rfl Tryz.ntmps272 rfl fun B => ?_
 unfold xE
 by_cases h : r.X ≠ 0
 ·rw [show decide (r.X ≠ 0 ∧ kind ≠ 6) = decide (kind ≠ 6) from decide_eq_decide.2 ⟨fun q => q.2, fun q => ⟨h, q⟩⟩]
  repeat' (first|refine ae ?_|refine a6 ?_|refine a8 ?_|refine aa ?_|refine ah a7 rfl rfl ?_)
  rw [decide_eq_true h]
  repeat' (first|refine am ?_|refine a8 ?_|refine aa ?_|refine ah a7 rfl rfl ?_|refine aB rfl rfl ?_|(apply bc;refine aX ?_)|fail)
  exact aS rfl rfl rfl rfl
 ·rw [show decide (r.X ≠ 0 ∧ kind ≠ 6) = false from decide_eq_false (fun q => h q.1)]
  repeat' (first|refine ae ?_|refine a6 ?_|refine a8 ?_|refine aa ?_|refine ah a7 rfl rfl ?_)
  rw [decide_eq_false h]
  repeat' (first|refine am ?_|refine a8 ?_|refine aa ?_|refine ah a7 rfl rfl ?_|refine aE rfl rfl rfl rfl ?_|(apply bc;refine aX ?_)|fail)
  exact aS rfl rfl rfl rfl
def j2 (f : aP) (kind : Int) (r : bn) : Int := (fS [(mv kind r, 0), cD (mw r) (wD f), (dp (!(wl kind r)) 40, 0), cD r.Out (wm f), (lr f kind r, 0), (dp (!([r.X].all fi)) 1, 0), (xE kind r, 0)]).1
set_option maxHeartbeats 1000000 in
theorem zg (f : aP) (kind : Int) (r : bn) : bw Tryz.prog 200 [cf f, aD kind, .agg (bL r)] (aD (j2 f kind r)) := by
 refine aG Tryz.func200 rfl Tryz.ntmps200 rfl fun B => ?_
 repeat' (first|refine ae ?_|refine a6 ?_|refine a8 ?_|refine aa ?_|refine ah a7 rfl rfl ?_|refine b9 ?_|refine cE a7 ?_|fail)
 refine aV [] [] (gC [⟨258, [.iptr [aD kind], .iptr (bL r)], [], mv kind r, 0⟩, ⟨260, [.iptr (bL r), .iptr (bH f)], [], (cD (mw r) (wD f)).1, (cD (mw r) (wD f)).2⟩, ⟨265, [.iptr [aD kind], .iptr (bL r)], [], dp (!(wl kind r)) 40, 0⟩, ⟨267, [.iptr (bL r), .iptr (bH f)], [], (cD r.Out (wm f)).1, (cD r.Out (wm f)).2⟩, ⟨269, [.iptr (bH f), .iptr [aD kind], .iptr (bL r)], [], lr f kind r, 0⟩, ⟨271, [.iptr (bL r)], [], dp (!([r.X].all fi)) 1, 0⟩, ⟨272, [.iptr (bL r), .iptr [aD kind]], [], xE kind r, 0⟩] ?_) rfl rfl (Hp _) rfl fun c L1 hc => ?_
 ·exact ⟨⟨inferInstance, wv kind r⟩, fun h1 => ⟨⟨inferInstance, ww f r (uX h1).2⟩, fun _ => ⟨⟨inferInstance, wx kind r (uX h1).1⟩, fun _ => ⟨⟨inferInstance, wy f r⟩, fun _ => ⟨⟨inferInstance, wz f kind r⟩, fun _ => ⟨⟨inferInstance, wA r⟩, fun _ => ⟨⟨inferInstance, wB kind r⟩, fun _ => trivial⟩⟩⟩⟩⟩⟩⟩
 rw [ic] at hc
 subst hc
 unfold bX
 repeat' (first|refine ae ?_|refine a6 ?_|refine am ?_|refine a8 ?_|refine aa ?_|refine ah a7 rfl rfl ?_)
 exact au rfl rfl rfl
instance (f : aP) (kind : Int) (r : bn) : AD Tryz.prog 200 [cf f, aD kind, .agg (bL r)] (aD (j2 f kind r)) := ⟨zg f kind r⟩
theorem mg (l : bk) : bw Tryz.prog 195 [.iptr (bo l)] (bX (dp (decide ((l.Rules.length : Int) > 60)) 2, 0)) := by
 refine aG Tryz.func195 rfl Tryz.ntmps195 rfl fun B => ?_
 rw [show (l.Rules.length : Int) = ((l.Rules.map bL).length : Int) by rw [Hv]]
 repeat' (first|refine ae ?_|refine a6 ?_|refine am ?_|refine a8 ?_|refine aa ?_|refine ah a7 rfl rfl ?_|(apply bc;refine aX ?_)|fail)
 exact aS rfl rfl rfl rfl
def r7 (l : bk) : Int := dp (decide (l.Kind = 7 ∨ l.Kind = 8) && decide ((l.Rules.length : Int) > 0)) 40
theorem mh (l : bk) (b : Bool) (hb : b = decide (l.Kind = 7 ∨ l.Kind = 8)) : bw Tryz.prog 196 [.iptr [ce b], .iptr (bo l)] (bX (r7 l, 0)) := by
 refine aG Tryz.func196 rfl Tryz.ntmps196 rfl fun B => ?_
 unfold r7
 rw [← hb, show (l.Rules.length : Int) = ((l.Rules.map bL).length : Int) by rw [Hv]]
 cases b
 ·repeat' (first|refine ae ?_|refine a6 ?_|refine am ?_|refine a8 ?_|refine aa ?_|refine ah a7 rfl rfl ?_|refine aE rfl rfl rfl rfl ?_|(apply bc;refine aX ?_)|fail)
  exact aS rfl rfl rfl rfl
 ·repeat' (first|refine ae ?_|refine a6 ?_|refine am ?_|refine a8 ?_|refine aa ?_|refine ah a7 rfl rfl ?_|refine aB rfl rfl ?_|(apply bc;refine aX ?_)|fail)
  exact aS rfl rfl rfl rfl
theorem qc (f : aP) (l : bk) (i : Nat) (r : bn) : bw Tryz.prog 199 [aD i, .agg (bL r), .iptr (bH f), .iptr (bo l)] (aD (j2 f l.Kind r)) := by
 refine aG Tryz.func199 rfl Tryz.ntmps199 rfl fun B => ?_
 repeat' (first|refine ae ?_|refine a6 ?_|refine am ?_|refine a8 ?_|refine aa ?_|refine ah a7 rfl rfl ?_|refine b9 ?_|(apply bc;refine aX ?_)|fail)
 exact au rfl rfl rfl
theorem mi (f : aP) (l : bk) : bw Tryz.prog 197 [.iptr (bo l), .iptr (bH f)] (bX (cD l.Rules fun _ r => j2 f l.Kind r)) := by
 refine aG Tryz.func197 rfl Tryz.ntmps197 rfl fun B => ?_
 repeat' (first|refine ae ?_|refine a6 ?_|refine a8 ?_|refine aa ?_|refine ah a7 rfl rfl ?_)
 refine aV [] [] (AE (u := .fn 199 [.iptr (bH f), .iptr (bo l)]) (g := 199) rfl l.Rules _ (fun _ _ => True) [] trivial (cF (w := fun _ r => j2 f l.Kind r) (fun i x _ => qc f l i x))) rfl rfl (Hp _) rfl fun c L1 hc => ?_
 have hc : c = bX (cD l.Rules fun _ r => j2 f l.Kind r) := hc
 subst hc
 unfold bX
 repeat' (first|refine am ?_|refine a8 ?_|refine aa ?_|refine ah a7 rfl rfl ?_)
 exact aS rfl rfl rfl rfl
def kJ (f : aP) (l : bk) : Int := if l.Kind < 1 ∨ l.Kind > 8 then 42 else (fS [(dp (decide ((l.Rules.length : Int) > 60)) 2, 0), (r7 l, 0), cD l.Rules fun _ r => j2 f l.Kind r]).1
set_option maxHeartbeats 1000000 in
theorem tv (f : aP) (l : bk) : bw Tryz.prog 119 [cf f, .agg (bo l)] (aD (kJ f l)) := by
 refine aG Tryz.func119 rfl Tryz.ntmps119 rfl fun B => ?_
 unfold kJ
 repeat' (first|refine ae ?_|refine a6 ?_|refine a8 ?_|refine aa ?_|refine ah a7 rfl rfl ?_|refine b9 ?_|fail)
 refine co [2, 3] (l.Kind < 1 ∨ l.Kind > 8) rfl (fun Q' K => ?_) (fun hC => ?_) (fun hC => ?_)
 ·repeat' (first|refine aa ?_|refine ah a7 rfl rfl ?_|refine aB rfl rfl ?_|refine aE rfl rfl rfl rfl ?_|refine aU rfl rfl rfl (fun _ => ?_) (fun _ => ?_))
  all_goals exact K _ _ rfl rfl (by clear K; grind)
 ·rw [if_pos hC]
  repeat' (first|refine ae ?_|refine a6 ?_|refine am ?_|refine a8 ?_|refine aw ?_|refine aa ?_|refine ah a7 rfl rfl ?_)
  exact au rfl rfl rfl
 rw [if_neg hC]
 repeat' (first|refine ae ?_|refine a6 ?_|refine aq ?_|refine a8 ?_|refine ah a7 rfl rfl ?_)
 by_cases h7 : l.Kind = 7
 ·rw [decide_eq_true h7]
  repeat' (first|refine ae ?_|refine a6 ?_|refine a8 ?_|refine aa ?_|refine ah a7 rfl rfl ?_|refine aE rfl rfl rfl rfl ?_|(apply aQ; first|refine ai 5 a7 0 rfl rfl rfl rfl rfl rfl rfl rfl ?_|refine ai 5 a7 1 rfl rfl rfl rfl rfl rfl rfl rfl ?_|refine ai 5 a7 2 rfl rfl rfl rfl rfl rfl rfl rfl ?_|refine aj a7 0 rfl rfl rfl rfl rfl rfl rfl ?_|refine aj a7 1 rfl rfl rfl rfl rfl rfl rfl ?_|refine aj a7 2 rfl rfl rfl rfl rfl rfl rfl ?_|refine aj a7 3 rfl rfl rfl rfl rfl rfl rfl ?_|fail)|refine aY a7 fun _=>?_|refine cE a7 ?_|fail)
  refine aV [] [] (gC [⟨195, [.iptr (bo l)], [], dp (decide ((l.Rules.length : Int) > 60)) 2, 0⟩, ⟨196, [.iptr [ce true], .iptr (bo l)], [], r7 l, 0⟩, ⟨197, [.iptr (bo l), .iptr (bH f)], [], (cD l.Rules fun _ r => j2 f l.Kind r).1, (cD l.Rules fun _ r => j2 f l.Kind r).2⟩] ⟨⟨inferInstance, mg l⟩, fun _ => ⟨⟨inferInstance, mh l true (decide_eq_true (Or.inl h7)).symm⟩, fun _ => ⟨⟨inferInstance, mi f l⟩, fun _ => trivial⟩⟩⟩) rfl rfl (Hp _) rfl fun c L1 hc => ?_
  rw [ic] at hc
  subst hc
  unfold bX
  repeat' (first|refine ae ?_|refine a6 ?_|refine am ?_|refine a8 ?_|refine aa ?_|refine ah a7 rfl rfl ?_)
  exact au rfl rfl rfl
 ·rw [decide_eq_false h7]
  repeat' (first|refine ae ?_|refine a6 ?_|refine a8 ?_|refine aa ?_|refine ah a7 rfl rfl ?_|refine aB rfl rfl ?_|(apply aQ; first|refine ai 5 a7 0 rfl rfl rfl rfl rfl rfl rfl rfl ?_|refine ai 5 a7 1 rfl rfl rfl rfl rfl rfl rfl rfl ?_|refine ai 5 a7 2 rfl rfl rfl rfl rfl rfl rfl rfl ?_|refine aj a7 0 rfl rfl rfl rfl rfl rfl rfl ?_|refine aj a7 1 rfl rfl rfl rfl rfl rfl rfl ?_|refine aj a7 2 rfl rfl rfl rfl rfl rfl rfl ?_|refine aj a7 3 rfl rfl rfl rfl rfl rfl rfl ?_|fail)|refine aY a7 fun _=>?_|refine cE a7 ?_|fail)
  refine aV [] [] (gC [⟨195, [.iptr (bo l)], [], dp (decide ((l.Rules.length : Int) > 60)) 2, 0⟩, ⟨196, [.iptr [ce (decide (l.Kind = 8))], .iptr (bo l)], [], r7 l, 0⟩, ⟨197, [.iptr (bo l), .iptr (bH f)], [], (cD l.Rules fun _ r => j2 f l.Kind r).1, (cD l.Rules fun _ r => j2 f l.Kind r).2⟩] ⟨⟨inferInstance, mg l⟩, fun _ => ⟨⟨inferInstance, mh l (decide (l.Kind = 8)) (decide_eq_decide.2 ⟨Or.inr, fun h => h.resolve_left h7⟩)⟩, fun _ => ⟨⟨inferInstance, mi f l⟩, fun _ => trivial⟩⟩⟩) rfl rfl (Hp _) rfl fun c L1 hc => ?_
  rw [ic] at hc
  subst hc
  unfold bX
  repeat' (first|refine ae ?_|refine a6 ?_|refine am ?_|refine a8 ?_|refine aa ?_|refine ah a7 rfl rfl ?_)
  exact au rfl rfl rfl
instance (f : aP) (l : bk) : AD Tryz.prog 119 [cf f, .agg (bo l)] (aD (kJ f l)) := ⟨tv f l⟩
theorem qd (f : aP) (i : Nat) (l : bk) : bw Tryz.prog 118 [aD i, .agg (bo l), .iptr (bH f)] (aD (kJ f l)) := by
 refine aG Tryz.func118 rfl Tryz.ntmps118 rfl fun B => ?_
 repeat' (first|refine ae ?_|refine a6 ?_|refine am ?_|refine a8 ?_|refine aa ?_|refine ah a7 rfl rfl ?_|refine b9 ?_|(apply bc;refine aX ?_)|fail)
 exact au rfl rfl rfl
theorem Hl {P : Program} {f : FuncId} {fn : Func} {c : Code} (hf : P.funcs[f]? = some fn) (hn : (fn.name == "runtime.NumGoroutine") = false := by kernel_rfl) (hb : fn.body = some c := by rfl) : bv P f := ⟨ak hf hn hb⟩
instance : bv Tryz.prog 387 := Hl Tryz.func387
instance : bv Tryz.prog 388 := Hl Tryz.func388
instance : bv Tryz.prog 389 := Hl Tryz.func389
instance : bv Tryz.prog 390 := Hl Tryz.func390
instance : bv Tryz.prog 391 := Hl Tryz.func391
theorem yk : kf Tryz.prog 428 "Len" 387 false 423 := fY (by kernel_rfl)
theorem nS : kf Tryz.prog 428 "Less" 388 false 423 := fY (by kernel_rfl)
theorem nT : kf Tryz.prog 428 "Swap" 389 false 423 := fY (by kernel_rfl)
theorem F5 : kf Tryz.prog 428 "Pop" 390 true 423 := fY (by kernel_rfl)
theorem Dw : kf Tryz.prog 428 "Push" 391 true 423 := fY (by kernel_rfl)
section
variable {P : Program} {fr : bJ} {d : Option Tmp} {ty t t' : TypeId} {pos : String} {af : Array Edge} {g : Option (Nat × Bool)} {x y : Operand}
theorem CQ {z : Int} {n : Nat} (hz : z = (n : Int) - 1) (hx : bh fr x = some (aD z)) (hy : bh fr y = some (aD 2)) (hn : n ≤ 9223372036854775807) : Av P ⟨d, .binOp .quo t x y t', ty, pos, af, g⟩ fr (aD (((n - 1) / 2 : Nat) : Int)) := by
 have h := Cb (P := P) (d := d) (ty := ty) (pos := pos) (af := af) (g := g) (t := t) (t' := t') hx hy (by omega)
 have e : IntKind.i64.wrap (z.tdiv 2) = (((n - 1) / 2 : Nat) : Int) := by
  subst hz
  have : ((n : Int) - 1).tdiv 2 = (((n - 1) / 2 : Nat) : Int) := by
   cases n with
   | zero => rfl
   | succ m =>
    rw [show (((m + 1 : Nat) : Int) - 1) = (m : Int) by omega, Int.tdiv_eq_ediv_of_nonneg (by omega)]
    simp
  rw [this, nF (by omega)]
 rwa [e] at h
end
abbrev HI (p : Nat) : AV := .sc (.iface 428 (.pointer (some ⟨p, 0, none⟩)))
def wV (k : Option (Nat × List AV)) (n : Nat) : Value := match k with
 | none => .slice none 0 0
 | some (b, cs) => .slice (some ⟨b, 0, none⟩) n cs.length
def nJ (k : Option (Nat × List AV)) : AL := match k with
 | none => []
 | some (b, cs) => [(b, .box cs 3)]
def hst (p : Nat) (k : Option (Nat × List AV)) (l : List Int) : AL := (p, .box [.sc (wV k l.length)] 423) :: nJ k
def lT (k : Option (Nat × List AV)) (l : List Int) : Prop := match k with
 | none => l = []
 | some (_, cs) => cs.take l.length = l.map aD ∧ l.length ≤ cs.length ∧ 0 < cs.length
theorem lT.get {b : Nat} {cs : List AV} {l : List Int} (h : lT (some (b, cs)) l) {a : Int} (h0 : 0 ≤ a) (h1 : a < l.length) : ∃ x, l[a.toNat]? = some x ∧ cs[0 + a.toNat * 1]? = some (aD x) := by
 obtain ⟨x, hx⟩ : ∃ x, l[a.toNat]? = some x := ⟨_, Eg (by omega)⟩
 refine ⟨x, hx, ?_⟩
 have h2 := congrArg (fun q => q[a.toNat]?) h.1
 simp only [List.getElem?_take, List.getElem?_map, hx] at h2
 rw [if_pos (by omega)] at h2
 rw [Nat.zero_add, Nat.mul_one]
 exact h2
theorem tr (v : Value) (n c : Nat) (A : Option Addr) (hv : v = .slice A n c) : bw Tryz.prog 387 [.sc v] (aD n) := by
 subst hv
 refine aG Tryz.func387 rfl Tryz.ntmps387 rfl fun B => ?_
 repeat' (first|refine ae ?_|refine a6 ?_|refine am ?_|refine a8 ?_|refine aa ?_|refine ah a7 rfl rfl ?_)
 exact au rfl rfl rfl
theorem kI {b n c : Nat} {cs : List AV} {x y a e : Int} (ha : 0 ≤ a ∧ a < n) (he : 0 ≤ e ∧ e < n) (hx : cs[0 + a.toNat * 1]? = some (aD x)) (hy : cs[0 + e.toNat * 1]? = some (aD y)) : AC Tryz.prog 388 [.sc (.slice (some ⟨b, 0, none⟩) n c), aD a, aD e] [(b, .box cs 3)] fun r L => r = ce (decide (x < y)) ∧ L = [(b, .box cs 3)] := by
 refine aG Tryz.func388 rfl Tryz.ntmps388 rfl fun B => ?_
 repeat' (first|refine ae ?_|refine a6 ?_|refine a8 ?_|refine aa ?_|refine ah a7 rfl rfl ?_)
 refine bF 8 [(0, .v), (1, .v), (2, .v), (3, .l), (4, .v), (5, .v), (6, .v), (7, .l)] none ?_ trivial rfl (by kernel_rfl) (by kernel_rfl) (by kernel_rfl) mixed (by kernel_rfl) rfl
 repeat' (first|refine aM ?_|refine bD a7 ?_|fail)
 refine cS a7 rfl rfl rfl ha trivial ?_
 repeat' (first|refine aM ?_|fail)
 refine du a7 0 rfl rfl rfl hx trivial ?_
 repeat' (first|refine aM ?_|refine bD a7 ?_|fail)
 refine cS a7 rfl rfl rfl he trivial ?_
 repeat' (first|refine aM ?_|fail)
 refine du a7 0 rfl rfl rfl hy trivial ?_
 repeat' (first|fail)
 refine bM [10, 14] rfl rfl ?_
 repeat' (first|refine am ?_|refine a8 ?_|refine aa ?_|refine ah a7 rfl rfl ?_)
 exact au rfl rfl ⟨rfl, rfl⟩
theorem kZ {b n c : Nat} {cs : List AV} {x y a e : Int} (ha : 0 ≤ a ∧ a < n) (he : 0 ≤ e ∧ e < n) (hx : cs[0 + a.toNat * 1]? = some (aD x)) (hy : cs[0 + e.toNat * 1]? = some (aD y)) (hn : n ≤ cs.length) : AC Tryz.prog 389 [.sc (.slice (some ⟨b, 0, none⟩) n c), aD a, aD e] [(b, .box cs 3)] fun _ L => L = [(b, .box ((cs.set a.toNat (aD y)).set e.toNat (aD x)) 3)] := by
 refine aG Tryz.func389 rfl Tryz.ntmps389 rfl fun B => ?_
 repeat' (first|fail)
 refine bF 14 [(0, .v), (1, .v), (2, .v), (3, .v), (4, .v), (5, .v), (6, .v), (7, .l), (8, .v), (9, .v), (10, .v), (11, .l), (12, .v), (13, .e)] none ?_ trivial rfl (by kernel_rfl) (by kernel_rfl) (by kernel_rfl) mixed (by kernel_rfl) rfl
 repeat' (first|refine aM ?_|refine bD a7 ?_|fail)
 refine cS a7 rfl rfl rfl he trivial ?_
 repeat' (first|refine aM ?_|fail)
 refine du a7 0 rfl rfl rfl hy trivial ?_
 repeat' (first|refine aM ?_|refine bD a7 ?_|fail)
 refine cS a7 rfl rfl rfl ha trivial ?_
 repeat' (first|refine aM ?_|fail)
 refine du a7 0 rfl rfl rfl hx trivial ?_
 repeat' (first|refine aM ?_|fail)
 refine cS a7 rfl rfl rfl ha trivial ?_
 repeat' (first|refine aM ?_|fail)
 refine ry a7 0 rfl rfl rfl rfl rfl rfl (by rw [Nat.ble_eq]; show _ + 1 ≤ _; omega) trivial fun _ => ?_
 repeat' (first|fail)
 refine bM [8, 9, 17] rfl rfl ?_
 repeat' (first|(apply aO; first|refine aN a7 ?_|refine aH a7 ?_)|fail)
 refine aj a7 0 rfl rfl rfl rfl rfl rfl (by rw [Nat.ble_eq]; show _ + 1 ≤ (ew _ _ _).length; rw [gL]; omega) ?_
 repeat' (first|refine aa ?_)
 refine cK rfl ?_
 simp only [fC, ew, Nat.zero_add, Nat.mul_one]
theorem lT.swap {b : Nat} {cs : List AV} {l : List Int} (h : lT (some (b, cs)) l) {a e x y : Int} (ha : 0 ≤ a ∧ a < l.length) (he : 0 ≤ e ∧ e < l.length) (hx : l[a.toNat]? = some x) (hy : l[e.toNat]? = some y) : lT (some (b, (cs.set a.toNat (aD y)).set e.toNat (aD x))) ((l.set a.toNat y).set e.toNat x) ∧ ((l.set a.toNat y).set e.toNat x).Perm l := by
 obtain ⟨h1, h2, h3⟩ := h
 refine ⟨⟨?_, by simpa using h2, by simpa using h3⟩, ?_⟩
 ·simp only [List.length_set]
  rw [List.take_set, List.take_set, h1, List.map_set, List.map_set]
 ·obtain ⟨hx1, hx2⟩ := Hq hx
  obtain ⟨hy1, hy2⟩ := Hq hy
  subst hx2; subst hy2
  exact List.set_set_perm hx1 hy1
set_option maxHeartbeats 4000000 in
theorem uw (p b : Nat) (cs0 : List AV) (l0 : List Int) (h : lT (some (b, cs0)) l0) (i0 n : Nat) (hn : n ≤ l0.length) (hl : l0.length ≤ 1000000) (hi0 : i0 ≤ 1000000) : AC Tryz.prog 347 [HI p, aD i0, aD n] (hst p (some (b, cs0)) l0) fun _ L => ∃ cs' l', L = hst p (some (b, cs')) l' ∧ lT (some (b, cs')) l' ∧ l'.Perm l0 := by
 refine aG Tryz.func347 rfl Tryz.ntmps347 rfl fun B => ?_
 repeat' (first|refine ae ?_|refine a6 ?_|refine ar ?_|refine a8 ?_|refine aa ?_|refine ah a7 rfl rfl ?_)
 refine aI [0, 1, 2] (α := Nat × List AV × List Int) (fun x => [(7, aD x.1)]) (fun x => x.1 ≤ 1000000 ∧ lT (some (b, x.2.1)) x.2.2 ∧ x.2.2.Perm l0) (fun x => hst p (some (b, x.2.1)) x.2.2) (fun x => 1000001 - x.1) (i0, cs0, l0) rfl ⟨rfl, trivial⟩ ⟨hi0, h, Hp _⟩ (fun _ _ h => h) ?_
 rintro ⟨i, cs, l⟩ ⟨hi, hok, hpm⟩
 dsimp only at hi hok hpm ⊢
 have hll := hpm.length_eq
 unfold hst nJ wV
 dsimp only
 try dsimp only [Ht, Hs, Hr, Hn]
 repeat' (first|refine ae ?_|refine a6 ?_|refine ar ?_|refine a8 ?_|refine aa ?_|refine ah a7 rfl rfl ?_|(apply b6; refine aZ ?_)|fail)
 refine co [0, 1, 2, 7, 8] (¬ (2 * (i : Int) + 1 < n)) rfl (fun Q' K => ?_) (fun hC => ?_) (fun hC => ?_)
 ·repeat' (first|refine aa ?_|refine ah a7 rfl rfl ?_|refine aB rfl rfl ?_|refine aE rfl rfl rfl rfl ?_|refine aU rfl rfl rfl (fun _ => ?_) (fun _ => ?_))
  all_goals exact K _ _ rfl rfl (by clear K; simp_all <;> omega)
 ·repeat' (first|refine ae ?_|refine a6 ?_|refine am ?_|refine aL ?_|refine a8 ?_|refine av ?_|refine aA ?_|refine ei rfl ?_|refine az ?_|refine aa ?_|refine ah a7 rfl rfl ?_)
  exact au rfl rfl ⟨cs, l, rfl, hok, hpm⟩
 have hC := Decidable.not_not.1 hC
 obtain ⟨x, hx, hxc⟩ := hok.get (a := i) (by omega) (by omega)
 repeat' (first|refine ae ?_|refine a6 ?_|refine aq ?_|refine a8 ?_|refine aa ?_|refine ah a7 rfl rfl ?_|(apply b6; refine aZ ?_)|fail)
 refine aU rfl rfl rfl (fun h2 => ?_) (fun h2 => ?_)
 ·have h2' := Hz h2
  obtain ⟨u, hu, huc⟩ := hok.get (a := 2 * (i : Int) + 1 + 1) (by omega) (by omega)
  obtain ⟨v, hv, hvc⟩ := hok.get (a := 2 * (i : Int) + 1) (by omega) (by omega)
  repeat' (first|refine ah a7 rfl rfl ?_|refine aB rfl rfl ?_)
  refine d5 0 [(b, .box cs 3)] [(p, .box [.sc (.slice (some ⟨b, 0, none⟩) l.length cs.length)] 423)] nS (c7 a7 rfl) rfl rfl rfl rfl (List.Perm.swap ..) (kI (x := u) (y := v) ⟨by omega, by omega⟩ ⟨by omega, by omega⟩ huc hvc) rfl rfl fun c L1 ⟨hc, hL⟩ => ?_
  subst hc; subst hL
  refine bq (bj (List.Perm.swap ..)) ?_
  repeat' (first|refine a8 ?_|refine aa ?_|refine ah a7 rfl rfl ?_)
  refine ay rfl (fun h3 => ?_) (fun h3 => ?_)
  ·clear h3
   repeat' (first|refine ae ?_|refine a6 ?_|refine a8 ?_|refine aa ?_|refine ah a7 rfl rfl ?_)
   obtain ⟨y, hy, hyc⟩ := hok.get (a := (2 * (i : Int) + 1 + 1)) (by omega) (by omega)
   refine d5 0 [(b, .box cs 3)] [(p, .box [.sc (.slice (some ⟨b, 0, none⟩) l.length cs.length)] 423)] nS (c7 a7 rfl) rfl rfl rfl rfl (List.Perm.swap ..) (kI (x := y) (y := x) ⟨by omega, by omega⟩ ⟨by omega, by omega⟩ hyc hxc) rfl rfl fun c L1 ⟨hc, hL⟩ => ?_
   subst hc; subst hL
   repeat' (first|refine a8 ?_|refine aa ?_|refine ah a7 rfl rfl ?_)
   refine ay rfl (fun h5 => ?_) (fun h5 => ?_)
   ·repeat' (first|refine ae ?_|refine a6 ?_|refine am ?_|refine aL ?_|refine a8 ?_|refine av ?_|refine aA ?_|refine ei rfl ?_|refine az ?_|refine aa ?_|refine ah a7 rfl rfl ?_)
    refine bf (bj (List.Perm.swap ..)) ?_
    exact au rfl rfl ⟨cs, l, rfl, hok, hpm⟩
   repeat' (first|refine ae ?_|refine a6 ?_|refine aq ?_|refine a8 ?_|refine ah a7 rfl rfl ?_)
   refine bq (bj (List.Perm.swap ..)) ?_
   refine d5 0 [(b, .box cs 3)] [(p, .box [.sc (.slice (some ⟨b, 0, none⟩) l.length cs.length)] 423)] nT (c7 a7 rfl) rfl rfl rfl rfl (List.Perm.swap ..) (kZ (x := x) (y := y) ⟨by omega, by omega⟩ ⟨by omega, by omega⟩ hxc hyc hok.2.1) rfl rfl fun c L1 hL => ?_
   subst hL
   repeat' (first|refine a6 ?_|refine a8 ?_|refine aR ?_|refine aa ?_|refine ah a7 rfl rfl ?_)
   have hs := hok.swap (a := i) (e := (2 * (i : Int) + 1 + 1)) ⟨by omega, by omega⟩ ⟨by omega, by omega⟩ hx hy
   refine aF (((2 * (i : Int) + 1 + 1)).toNat, (cs.set ((i : Int)).toNat (aD y)).set ((2 * (i : Int) + 1 + 1)).toNat (aD x), (l.set ((i : Int)).toNat y).set ((2 * (i : Int) + 1 + 1)).toNat x) rfl ⟨by rw [show ((((2 * (i : Int) + 1 + 1)).toNat : Nat) : Int) = (2 * (i : Int) + 1 + 1) by omega]; rfl, trivial⟩ ⟨by dsimp only; omega, hs.1, hs.2.trans hpm⟩ (by dsimp only; omega) (fun σ w h => ?_)
   have h := h.perm (List.Perm.swap ..)
   simpa [hst, wV, nJ, List.length_set] using h
  ·clear h3
   repeat' (first|refine ae ?_|refine a6 ?_|refine aq ?_|refine a8 ?_|refine ah a7 rfl rfl ?_)
   obtain ⟨y, hy, hyc⟩ := hok.get (a := (2 * (i : Int) + 1)) (by omega) (by omega)
   refine d5 0 [(b, .box cs 3)] [(p, .box [.sc (.slice (some ⟨b, 0, none⟩) l.length cs.length)] 423)] nS (c7 a7 rfl) rfl rfl rfl rfl (List.Perm.swap ..) (kI (x := y) (y := x) ⟨by omega, by omega⟩ ⟨by omega, by omega⟩ hyc hxc) rfl rfl fun c L1 ⟨hc, hL⟩ => ?_
   subst hc; subst hL
   repeat' (first|refine a8 ?_|refine aa ?_|refine ah a7 rfl rfl ?_)
   refine ay rfl (fun h5 => ?_) (fun h5 => ?_)
   ·repeat' (first|refine ae ?_|refine a6 ?_|refine am ?_|refine aL ?_|refine a8 ?_|refine av ?_|refine aA ?_|refine ei rfl ?_|refine az ?_|refine aa ?_|refine ah a7 rfl rfl ?_)
    refine bf (bj (List.Perm.swap ..)) ?_
    exact au rfl rfl ⟨cs, l, rfl, hok, hpm⟩
   repeat' (first|refine ae ?_|refine a6 ?_|refine aq ?_|refine a8 ?_|refine ah a7 rfl rfl ?_)
   refine bq (bj (List.Perm.swap ..)) ?_
   refine d5 0 [(b, .box cs 3)] [(p, .box [.sc (.slice (some ⟨b, 0, none⟩) l.length cs.length)] 423)] nT (c7 a7 rfl) rfl rfl rfl rfl (List.Perm.swap ..) (kZ (x := x) (y := y) ⟨by omega, by omega⟩ ⟨by omega, by omega⟩ hxc hyc hok.2.1) rfl rfl fun c L1 hL => ?_
   subst hL
   repeat' (first|refine a6 ?_|refine a8 ?_|refine aR ?_|refine aa ?_|refine ah a7 rfl rfl ?_)
   have hs := hok.swap (a := i) (e := (2 * (i : Int) + 1)) ⟨by omega, by omega⟩ ⟨by omega, by omega⟩ hx hy
   refine aF (((2 * (i : Int) + 1)).toNat, (cs.set ((i : Int)).toNat (aD y)).set ((2 * (i : Int) + 1)).toNat (aD x), (l.set ((i : Int)).toNat y).set ((2 * (i : Int) + 1)).toNat x) rfl ⟨by rw [show ((((2 * (i : Int) + 1)).toNat : Nat) : Int) = (2 * (i : Int) + 1) by omega]; rfl, trivial⟩ ⟨by dsimp only; omega, hs.1, hs.2.trans hpm⟩ (by dsimp only; omega) (fun σ w h => ?_)
   have h := h.perm (List.Perm.swap ..)
   simpa [hst, wV, nJ, List.length_set] using h
 ·have h2' : ¬ (2 * (i : Int) + 1 + 1 < n) := Hy (by simpa using h2)
  repeat' (first|refine ae ?_|refine a6 ?_|refine aq ?_|refine a8 ?_|refine aa ?_|refine ah a7 rfl rfl ?_|refine aE rfl rfl rfl rfl ?_|refine bi rfl ?_)
  obtain ⟨y, hy, hyc⟩ := hok.get (a := (2 * (i : Int) + 1)) (by omega) (by omega)
  refine d5 0 [(b, .box cs 3)] [(p, .box [.sc (.slice (some ⟨b, 0, none⟩) l.length cs.length)] 423)] nS (c7 a7 rfl) rfl rfl rfl rfl (List.Perm.swap ..) (kI (x := y) (y := x) ⟨by omega, by omega⟩ ⟨by omega, by omega⟩ hyc hxc) rfl rfl fun c L1 ⟨hc, hL⟩ => ?_
  subst hc; subst hL
  repeat' (first|refine a8 ?_|refine aa ?_|refine ah a7 rfl rfl ?_)
  refine ay rfl (fun h5 => ?_) (fun h5 => ?_)
  ·repeat' (first|refine ae ?_|refine a6 ?_|refine am ?_|refine aL ?_|refine a8 ?_|refine av ?_|refine aA ?_|refine ei rfl ?_|refine az ?_|refine aa ?_|refine ah a7 rfl rfl ?_)
   refine bf (bj (List.Perm.swap ..)) ?_
   exact au rfl rfl ⟨cs, l, rfl, hok, hpm⟩
  repeat' (first|refine ae ?_|refine a6 ?_|refine aq ?_|refine a8 ?_|refine ah a7 rfl rfl ?_)
  refine bq (bj (List.Perm.swap ..)) ?_
  refine d5 0 [(b, .box cs 3)] [(p, .box [.sc (.slice (some ⟨b, 0, none⟩) l.length cs.length)] 423)] nT (c7 a7 rfl) rfl rfl rfl rfl (List.Perm.swap ..) (kZ (x := x) (y := y) ⟨by omega, by omega⟩ ⟨by omega, by omega⟩ hxc hyc hok.2.1) rfl rfl fun c L1 hL => ?_
  subst hL
  repeat' (first|refine a6 ?_|refine a8 ?_|refine aR ?_|refine aa ?_|refine ah a7 rfl rfl ?_)
  have hs := hok.swap (a := i) (e := (2 * (i : Int) + 1)) ⟨by omega, by omega⟩ ⟨by omega, by omega⟩ hx hy
  refine aF (((2 * (i : Int) + 1)).toNat, (cs.set ((i : Int)).toNat (aD y)).set ((2 * (i : Int) + 1)).toNat (aD x), (l.set ((i : Int)).toNat y).set ((2 * (i : Int) + 1)).toNat x) rfl ⟨by rw [show ((((2 * (i : Int) + 1)).toNat : Nat) : Int) = (2 * (i : Int) + 1) by omega]; rfl, trivial⟩ ⟨by dsimp only; omega, hs.1, hs.2.trans hpm⟩ (by dsimp only; omega) (fun σ w h => ?_)
  have h := h.perm (List.Perm.swap ..)
  simpa [hst, wV, nJ, List.length_set] using h
theorem FM (p b : Nat) (cs0 : List AV) (l0 : List Int) (h : lT (some (b, cs0)) l0) (j0 : Nat) (hj0 : j0 < l0.length) (hl : l0.length ≤ 1000000) : AC Tryz.prog 348 [HI p, aD j0] (hst p (some (b, cs0)) l0) fun _ L => ∃ cs' l', L = hst p (some (b, cs')) l' ∧ lT (some (b, cs')) l' ∧ l'.Perm l0 := by
 refine aG Tryz.func348 rfl Tryz.ntmps348 rfl fun B => ?_
 repeat' (first|refine ar ?_)
 refine aI [0] (α := Nat × List AV × List Int) (fun x => [(1, aD x.1)]) (fun x => x.1 < l0.length ∧ lT (some (b, x.2.1)) x.2.2 ∧ x.2.2.Perm l0) (fun x => hst p (some (b, x.2.1)) x.2.2) (fun x => x.1) (j0, cs0, l0) rfl ⟨rfl, trivial⟩ ⟨hj0, h, Hp _⟩ (fun _ _ h => h) ?_
 rintro ⟨j, cs, l⟩ ⟨hi, hok, hpm⟩
 dsimp only at hi hok hpm ⊢
 have hll := hpm.length_eq
 unfold hst nJ wV
 dsimp only
 try dsimp only [Ht, Hs, Hr, Hn]
 repeat' (first|refine ae ?_|refine a6 ?_|refine ar ?_|refine ah a7 rfl rfl ?_|(apply b6; refine aZ ?_)|fail)
 refine aZ ?_ (CQ (n := j) rfl rfl rfl (by omega))
 obtain ⟨x, hx, hxc⟩ := hok.get (a := j) (by omega) (by omega)
 obtain ⟨y, hy, hyc⟩ := hok.get (a := (((j - 1) / 2 : Nat) : Int)) (by omega) (by omega)
 repeat' (first|refine ae ?_|refine a6 ?_|refine a8 ?_|refine aa ?_|refine ah a7 rfl rfl ?_)
 refine aU rfl rfl rfl (fun h2 => ?_) (fun h2 => ?_)
 ·have h2' := Hy h2
  repeat' (first|refine ah a7 rfl rfl ?_|refine aB rfl rfl ?_)
  refine d5 0 [(b, .box cs 3)] [(p, .box [.sc (.slice (some ⟨b, 0, none⟩) l.length cs.length)] 423)] nS (c7 a7 rfl) rfl rfl rfl rfl (List.Perm.swap ..) (kI (x := x) (y := y) ⟨by omega, by omega⟩ ⟨by omega, by omega⟩ hxc hyc) rfl rfl fun c L1 ⟨hc, hL⟩ => ?_
  subst hc; subst hL
  refine bq (bj (List.Perm.swap ..)) ?_
  repeat' (first|refine a8 ?_|refine aa ?_|refine ah a7 rfl rfl ?_|refine aB rfl rfl ?_)
  refine ay rfl (fun h3 => ?_) (fun h3 => ?_)
  ·repeat' (first|refine aL ?_|refine av ?_|refine aA ?_|refine ei rfl ?_|refine az ?_)
   exact cK rfl ⟨cs, l, rfl, hok, hpm⟩
  repeat' (first|refine ae ?_|refine a6 ?_|refine aq ?_|refine a8 ?_|refine ah a7 rfl rfl ?_)
  refine d5 0 [(b, .box cs 3)] [(p, .box [.sc (.slice (some ⟨b, 0, none⟩) l.length cs.length)] 423)] nT (c7 a7 rfl) rfl rfl rfl rfl (List.Perm.swap ..) (kZ (x := y) (y := x) ⟨by omega, by omega⟩ ⟨by omega, by omega⟩ hyc hxc hok.2.1) rfl rfl fun c L1 hL => ?_
  subst hL
  repeat' (first|refine a6 ?_|refine a8 ?_|refine aR ?_|refine aa ?_|refine ah a7 rfl rfl ?_)
  have hs := hok.swap (a := (((j - 1) / 2 : Nat) : Int)) (e := j) ⟨by omega, by omega⟩ ⟨by omega, by omega⟩ hy hx
  refine aF ((j - 1) / 2, (cs.set (((j - 1) / 2 : Nat) : Int).toNat (aD x)).set (j : Int).toNat (aD y), (l.set (((j - 1) / 2 : Nat) : Int).toNat x).set (j : Int).toNat y) rfl ⟨rfl, trivial⟩ ⟨by dsimp only; omega, hs.1, hs.2.trans hpm⟩ (by dsimp only; omega) (fun σ w h => ?_)
  have h := h.perm (List.Perm.swap ..)
  simpa [hst, wV, nJ, List.length_set] using h
 ·repeat' (first|refine aL ?_|refine a8 ?_|refine av ?_|refine aA ?_|refine ei rfl ?_|refine az ?_|refine aa ?_|refine ah a7 rfl rfl ?_|refine aE rfl rfl rfl rfl ?_|refine bK rfl ?_)
  exact cK rfl ⟨cs, l, rfl, hok, hpm⟩
theorem DU (p b : Nat) (cs : List AV) (l : List Int) (h : lT (some (b, cs)) l) (h0 : 0 < l.length) (hl : l.length ≤ 1000000) : AC Tryz.prog 390 [.sc (.pointer (some ⟨p, 0, none⟩))] (hst p (some (b, cs)) l) fun c L => ∃ z l', c = .sc (.iface 3 (.int .i64 z)) ∧ L = hst p (some (b, cs)) l' ∧ lT (some (b, cs)) l' ∧ l = l' ++ [z] := by
 refine aG Tryz.func390 rfl Tryz.ntmps390 rfl fun B => ?_
 unfold hst nJ wV
 dsimp only
 obtain ⟨z, hz, hzc⟩ := h.get (a := (l.length : Int) - 1) (by omega) (by omega)
 have hcl := h.2.1
 have hc1 := h.2.2
 repeat' (first|refine ae ?_|refine a6 ?_|refine a8 ?_|refine aa ?_|refine ah a7 rfl rfl ?_|(apply c9; first|refine aC a7 0 rfl rfl rfl rfl rfl ?_|refine aC a7 1 rfl rfl rfl rfl rfl ?_|refine aC a7 2 rfl rfl rfl rfl rfl ?_|refine aC a7 3 rfl rfl rfl rfl rfl ?_|refine aJ a7 0 rfl rfl rfl rfl rfl ?_|refine aJ a7 1 rfl rfl rfl rfl rfl ?_|refine aJ a7 2 rfl rfl rfl rfl rfl ?_|refine aC a7 1 rfl rfl rfl (by assumption) rfl ?_|refine aC a7 0 rfl rfl rfl (by assumption) rfl ?_|fail)|(apply b6; refine aZ ?_)|(apply aO; first|refine aN a7 ?_|refine aH a7 ?_)|fail)
 refine yD a7 (l.length - 1) rfl rfl rfl (by omega) (by omega) (by omega) rfl ?_
 repeat' (first|refine ae ?_|refine a6 ?_|refine a8 ?_|refine aa ?_|refine ah a7 rfl rfl ?_|(apply aQ; first|refine aj a7 0 rfl rfl rfl rfl rfl rfl rfl ?_|refine aj a7 1 rfl rfl rfl rfl rfl rfl rfl ?_|refine aj a7 2 rfl rfl rfl rfl rfl rfl rfl ?_|refine aj a7 3 rfl rfl rfl rfl rfl rfl rfl ?_|fail))
 refine jk (by kernel_rfl) rfl rfl ?_
 repeat' (first|refine am ?_|refine a8 ?_|refine aa ?_|refine ah a7 rfl rfl ?_)
 have hlast : l.take (l.length - 1) ++ [z] = l := by
  have h1 : l.take (l.length - 1 + 1) = l := List.take_of_length_le (by omega)
  rw [List.take_add_one, show l[l.length - 1]? = some z by rw [← hz]; congr 1; omega] at h1
  exact h1
 have hlen : (l.take (l.length - 1)).length = l.length - 1 := by rw [List.length_take]; omega
 refine au rfl rfl ⟨z, l.take (l.length - 1), rfl, ?_, ⟨?_, by rw [hlen]; omega, hc1⟩, hlast.symm⟩
 ·rw [hlen]
  rfl
 ·rw [hlen, List.map_take, ← h.1, List.take_take]
  congr 1
  omega
theorem Bv (p : Nat) (k : Option (Nat × List AV)) (l : List Int) (z : Int) (h : lT k l) (hl : l.length ≤ 1000000) : AC Tryz.prog 391 [.sc (.pointer (some ⟨p, 0, none⟩)), .sc (.iface 3 (.int .i64 z))] (hst p k l) fun _ L => ∃ b cs, L = hst p (some (b, cs)) (l ++ [z]) ∧ lT (some (b, cs)) (l ++ [z]) := by
 refine aG Tryz.func391 rfl Tryz.ntmps391 rfl fun B => ?_
 unfold hst nJ wV
 cases k with
 | none =>
  have hl0 : l = [] := h
  subst hl0
  dsimp only
  repeat' (first|fail)
  refine bF 8 [(0, .v), (1, .v), (2, .v), (3, .l), (4, .v), (5, .v), (6, .v), (7, .e)] none ?_ trivial rfl (by kernel_rfl) (by kernel_rfl) (by kernel_rfl) mixed (by kernel_rfl) rfl
  repeat' (first|refine aM ?_|refine bD a7 ?_|refine du a7 0 rfl rfl rfl rfl (by first|trivial|rfl) ?_)
  refine rx (by kernel_rfl) rfl trivial ?_
  repeat' (first|refine aM ?_|refine iK a7 ?_|fail)
  refine vE a7 rfl rfl rfl rfl rfl rfl trivial fun b' cs' h1 h2 => ?_
  repeat' (first|fail)
  refine bM [4, 11] rfl rfl ?_
  repeat' (first|refine aa ?_|refine ah a7 rfl rfl ?_|(apply aQ; first|refine aj a7 0 rfl rfl rfl rfl rfl rfl rfl ?_|refine aj a7 1 rfl rfl rfl rfl rfl rfl rfl ?_|refine aj a7 2 rfl rfl rfl rfl rfl rfl rfl ?_|refine aj a7 3 rfl rfl rfl rfl rfl rfl rfl ?_|fail))
  exact bf (bj (List.Perm.swap ..)) (cK rfl ⟨b', cs', rfl, h1, h2, h2⟩)
 | some q =>
  obtain ⟨b, cs⟩ := q
  dsimp only
  repeat' (first|fail)
  refine bF 8 [(0, .v), (1, .v), (2, .v), (3, .l), (4, .v), (5, .v), (6, .v), (7, .e)] none ?_ trivial rfl (by kernel_rfl) (by kernel_rfl) (by kernel_rfl) mixed (by kernel_rfl) rfl
  repeat' (first|refine aM ?_|refine bD a7 ?_|refine du a7 0 rfl rfl rfl rfl (by first|trivial|rfl) ?_)
  refine rx (by kernel_rfl) rfl trivial ?_
  repeat' (first|refine aM ?_|refine iK a7 ?_|fail)
  refine vD a7 1 rfl rfl rfl rfl rfl rfl rfl h.2.1 (by omega) (by omega) trivial fun b' cs' h1 h2 => ?_
  repeat' (first|fail)
  refine bM [4, 11] rfl rfl ?_
  repeat' (first|refine aa ?_|refine ah a7 rfl rfl ?_|(apply aQ; first|refine aj a7 0 rfl rfl rfl rfl rfl rfl rfl ?_|refine aj a7 1 rfl rfl rfl rfl rfl rfl rfl ?_|refine aj a7 2 rfl rfl rfl rfl rfl rfl rfl ?_|refine aj a7 3 rfl rfl rfl rfl rfl rfl rfl ?_|fail))
  refine bf (bj (List.Perm.swap ..)) (cK rfl ⟨b', cs', ?_, ?_, by simpa using h2, by omega⟩)
  ·rw [List.length_append]
   rfl
  ·rw [List.length_append, List.map_append, ← h.1]
   exact h1
theorem fW (p b : Nat) (cs : List AV) (l : List Int) : hst p (some (b, cs)) l = [(p, .box [.sc (.slice (some ⟨b, 0, none⟩) l.length cs.length)] 423), (b, .box cs 3)] := rfl
set_option maxHeartbeats 1000000 in
theorem y7 (p : Nat) (k : Option (Nat × List AV)) (l : List Int) (z : Int) (h : lT k l) (hl : l.length < 1000000) : AC Tryz.prog 312 [HI p, .sc (.iface 3 (.int .i64 z))] (hst p k l) fun _ L => ∃ b cs l', L = hst p (some (b, cs)) l' ∧ lT (some (b, cs)) l' ∧ l'.Perm (l ++ [z]) := by
 refine aG Tryz.func312 rfl Tryz.ntmps312 rfl fun B => ?_
 repeat' (first|refine ae ?_|refine a6 ?_|refine ah a7 rfl rfl ?_)
 refine rT (hst p k l) [] Dw rfl rfl (by rw [List.append_nil]) (Bv p k l z h (by omega)) rfl rfl fun c L1 ⟨b, cs, hL, hok⟩ => ?_
 subst hL
 rw [List.append_nil, fW]
 have hll : (l ++ [z]).length = l.length + 1 := by simp
 repeat' (first|refine a6 ?_|refine a8 ?_|refine aa ?_|refine ah a7 rfl rfl ?_)
 refine d5 0 [] [(p, .box [.sc (.slice (some ⟨b, 0, none⟩) (l ++ [z]).length cs.length)] 423), (b, .box cs 3)] yk (c7 a7 rfl) rfl rfl rfl rfl (Hp _) (tr _ (l ++ [z]).length _ _ rfl) rfl rfl fun c L1 hc => ?_
 have hc : c = aD (l ++ [z]).length := hc
 subst hc
 refine bq (da (List.sublist_append_right ..)) ?_
 rw [hll]
 repeat' (first|(apply b6; refine aZ ?_)|fail)
 have hup := FM p b cs (l ++ [z]) hok l.length (by rw [hll]; omega) (by rw [hll]; omega)
 rw [fW, hll] at hup
 rw [show (((l.length + 1 : Nat) : Int) - 1) = (l.length : Int) by omega]
 refine aV _ [] hup rfl rfl (by rw [List.append_nil]) rfl fun c L1 ⟨cs', l', hL, hok', hpm⟩ => ?_
 subst hL
 rw [List.append_nil]
 repeat' (first|refine aa ?_)
 exact cK rfl ⟨b, cs', l', rfl, hok', hpm⟩
set_option maxHeartbeats 1000000 in
theorem Bc (p b : Nat) (cs : List AV) (l : List Int) (h : lT (some (b, cs)) l) (h0 : 0 < l.length) (hl : l.length ≤ 1000000) : AC Tryz.prog 311 [HI p] (hst p (some (b, cs)) l) fun c L => ∃ z cs' l', c = .sc (.iface 3 (.int .i64 z)) ∧ L = hst p (some (b, cs')) l' ∧ lT (some (b, cs')) l' ∧ (l' ++ [z]).Perm l := by
 refine aG Tryz.func311 rfl Tryz.ntmps311 rfl fun B => ?_
 rw [fW]
 repeat' (first|refine ae ?_|refine a6 ?_|refine a8 ?_|refine aa ?_|refine ah a7 rfl rfl ?_)
 refine d5 0 [] [(p, .box [.sc (.slice (some ⟨b, 0, none⟩) l.length cs.length)] 423), (b, .box cs 3)] yk (c7 a7 rfl) rfl rfl rfl rfl (Hp _) (tr _ l.length _ _ rfl) rfl rfl fun c L1 hc => ?_
 have hc : c = aD l.length := hc
 subst hc
 refine bq (da (List.sublist_append_right ..)) ?_
 repeat' (first|refine ae ?_|refine a6 ?_|refine a8 ?_|refine aa ?_|refine ah a7 rfl rfl ?_|(apply b6; refine aZ ?_)|fail)
 obtain ⟨x, hx, hxc⟩ := h.get (a := 0) (by omega) (by omega)
 obtain ⟨y, hy, hyc⟩ := h.get (a := (l.length : Int) - 1) (by omega) (by omega)
 refine d5 0 [(b, .box cs 3)] [(p, .box [.sc (.slice (some ⟨b, 0, none⟩) l.length cs.length)] 423)] nT (c7 a7 rfl) rfl rfl rfl rfl (List.Perm.swap ..) (kZ (x := x) (y := y) ⟨by omega, by omega⟩ ⟨by omega, by omega⟩ hxc hyc h.2.1) rfl rfl fun c L1 hL => ?_
 subst hL
 have hs := h.swap (a := 0) (e := (l.length : Int) - 1) ⟨by omega, by omega⟩ ⟨by omega, by omega⟩ hx hy
 have hsl := hs.2.length_eq
 refine bq (bj (List.Perm.swap ..)) ?_
 repeat' (first|refine ae ?_|refine a6 ?_|refine a8 ?_|refine aa ?_|refine ah a7 rfl rfl ?_)
 have hdn := uw p b _ _ hs.1 0 (l.length - 1) (by rw [hsl]; omega) (by rw [hsl]; omega) (by omega)
 rw [fW, hsl, show (((l.length - 1 : Nat)) : Int) = (l.length : Int) - 1 by omega] at hdn
 rw [show cs.length = ((cs.set (0 : Int).toNat (aD y)).set ((l.length : Int) - 1).toNat (aD x)).length by simp]
 refine aV _ [] hdn rfl rfl (by rw [List.append_nil]) rfl fun c L1 ⟨cs', l', hL, hok', hpm⟩ => ?_
 subst hL
 rw [List.append_nil]
 repeat' (first|refine ae ?_|refine a6 ?_|refine a8 ?_|refine aa ?_|refine ah a7 rfl rfl ?_)
 have hl' := hpm.length_eq
 refine rT (hst p (some (b, cs')) l') [] F5 rfl rfl (by rw [List.append_nil]) (DU p b cs' l' hok' (by omega) (by omega)) rfl rfl fun c L1 ⟨z, l2, hc, hL, hok2, he⟩ => ?_
 subst hc; subst hL
 rw [List.append_nil]
 repeat' (first|refine am ?_|refine a8 ?_|refine aa ?_|refine ah a7 rfl rfl ?_)
 refine au rfl rfl ⟨z, cs', l2, rfl, rfl, hok2, ?_⟩
 rw [← he]
 exact hpm.trans hs.2
theorem Dn {k : Option (Nat × List AV)} {l : List Int} (h : lT k l) : ∃ A c, wV k l.length = .slice A l.length c := by
 cases k with
 | none => rw [show l = [] from h]; exact ⟨_, _, rfl⟩
 | some q => exact ⟨_, _, rfl⟩
section
variable {P : Program} {fr : bJ} {d : Option Tmp} {ty t t' : TypeId} {pos : String} {af : Array Edge} {g : Option (Nat × Bool)} {x y : Operand}
theorem A4 {n : Nat} (hx : bh fr x = some (aD n)) (hy : bh fr y = some (aD 2)) (hn : n ≤ 9223372036854775807) : Av P ⟨d, .binOp .quo t x y t', ty, pos, af, g⟩ fr (aD ((n / 2 : Nat) : Int)) := by
 have h := Cb (P := P) (d := d) (ty := ty) (pos := pos) (af := af) (g := g) (t := t) (t' := t') hx hy (by omega)
 have e : IntKind.i64.wrap ((n : Int).tdiv 2) = ((n / 2 : Nat) : Int) := by
  have : (n : Int).tdiv 2 = ((n / 2 : Nat) : Int) := by
   rw [Int.tdiv_eq_ediv_of_nonneg (by omega)]
   simp
  rw [this, nF (by omega)]
 rwa [e] at h
end
set_option maxHeartbeats 1000000 in
theorem y6 (p : Nat) (k : Option (Nat × List AV)) (l : List Int) (h : lT k l) (hl : l.length ≤ 1000000) : AC Tryz.prog 310 [HI p] (hst p k l) fun _ L => ∃ k' l', L = hst p k' l' ∧ lT k' l' ∧ l'.Perm l := by
 refine aG Tryz.func310 rfl Tryz.ntmps310 rfl fun B => ?_
 obtain ⟨A, cc, hA⟩ := Dn h
 repeat' (first|refine ae ?_|refine a6 ?_|refine ah a7 rfl rfl ?_)
 refine d5 0 [] (hst p k l) yk (c7 a7 rfl) rfl rfl rfl rfl (Hp _) (tr _ l.length cc A hA) rfl rfl fun c L1 hc => ?_
 have hc : c = aD l.length := hc
 subst hc
 refine bq (da (List.sublist_append_right ..)) ?_
 repeat' (first|refine ae ?_|refine a6 ?_|refine a8 ?_|refine aa ?_|refine ah a7 rfl rfl ?_)
 refine aZ ?_ (A4 (n := l.length) rfl rfl (by omega))
 repeat' (first|refine ar ?_|refine a8 ?_|refine aa ?_|refine ah a7 rfl rfl ?_|(apply b6; refine aZ ?_)|fail)
 refine aI [0, 2] (α := Nat × Option (Nat × List AV) × List Int) (fun x => [(3, aD ((x.1 : Int) - 1))]) (fun x => x.1 ≤ l.length / 2 ∧ lT x.2.1 x.2.2 ∧ x.2.2.Perm l) (fun x => hst p x.2.1 x.2.2) (fun x => x.1) (l.length / 2, k, l) rfl ⟨rfl, trivial⟩ ⟨Nat.le_refl _, h, Hp _⟩ (fun _ _ h => h) ?_
 rintro ⟨m, k, l'⟩ ⟨hm, hok, hpm⟩
 dsimp only at hm hok hpm ⊢
 have hll := hpm.length_eq
 try dsimp only [Ht, Hs, Hr, Hn]
 repeat' (first|refine ae ?_|refine a6 ?_|refine a8 ?_|refine aa ?_|refine ah a7 rfl rfl ?_)
 refine ay rfl (fun h2 => ?_) (fun h2 => ?_)
 ·have h2' := Hz h2
  cases k with
  | none => rw [show l' = [] from hok] at hll; simp at hll; omega
  | some q =>
   obtain ⟨b, cs⟩ := q
   repeat' (first|refine ae ?_|refine a6 ?_|refine ar ?_|refine aq ?_|refine a8 ?_|refine ah a7 rfl rfl ?_)
   have hdn := uw p b cs l' hok (m - 1) l.length (by omega) (by omega) (by omega)
   rw [show (((m - 1 : Nat)) : Int) = (m : Int) - 1 by omega] at hdn
   refine aV _ [] hdn rfl rfl (by rw [List.append_nil]) rfl fun c L1 ⟨cs', l2, hL, hok', hpm'⟩ => ?_
   subst hL
   rw [List.append_nil]
   repeat' (first|refine a6 ?_|refine a8 ?_|refine aR ?_|refine aa ?_|refine ah a7 rfl rfl ?_|(apply b6; refine aZ ?_)|fail)
   exact aF (m - 1, some (b, cs'), l2) rfl ⟨by rw [show (((m - 1 : Nat)) : Int) = (m : Int) - 1 by omega]; rfl, trivial⟩ ⟨by dsimp only; omega, hok', hpm'.trans hpm⟩ (by dsimp only; omega) (fun _ _ h => h)
 ·repeat' (first|refine aL ?_|refine av ?_|refine aA ?_|refine az ?_)
  exact cK rfl ⟨k, l', rfl, hok, hpm⟩
end Go.Proofs.YtamjlkdanllgjaaGreatDoor
namespace Go.Proofs.YtamjlkdanllgjaaGreatDoor
open Go.RowKit
attribute [local irreducible] AT br AX AO Av Kt aW cZ DA cw
def lH (l : List ByteArray) (s : ByteArray) : Bool := l.any fun t => decide (t = s)
def Cd (f : aP) (n : Int) : Bool := match f.Lookups[n.toNat]? with
 | some l => decide (0 ≤ n ∧ (l.Kind = 1 ∨ l.Kind = 2 ∨ l.Kind = 3 ∨ l.Kind = 4))
 | none => false
def zm (l : List (List Int)) : Nat := (l.map fun q => 1 + q.length).sum
def FB (r : bn) : Nat := r.Out.length + r.Calls.length + (zm r.Back + zm r.In + zm r.Ahead)
def E4 (l : List bn) : Nat := l.length + (l.map FB).sum
def Dm (g : b7) : Nat := g.Points.length + g.Parts.length + g.Anchors.length + g.Deltas.length + g.Hint.length + g.Name.size / 100
def ER (t : bI) : Nat := t.Lookups.length + t.Name.size / 100
def EU (f : aP) : Nat := f.Glyphs.length + f.Chars.length + f.Lookups.length + f.Features.length + f.Axes.length + f.Regions.length + f.Funcs.length + f.Cvt.length + (f.Glyphs.map Dm).sum + (f.Lookups.map fun l => E4 l.Rules).sum + (f.Funcs.map (·.length)).sum + (f.Features.map ER).sum + (f.Regions.map (·.length)).sum
def Ep (f : aP) : Prop := EU f ≤ 2000
section
variable {f : aP} (hs : Ep f)
include hs
end
inductive qX (f : aP) (fs : List ByteArray) : Int → Prop
 | base {t : bI} {n : Int} (h : t ∈ f.Features) (hn : lH fs t.Name = true) (hm : n ∈ t.Lookups) (h0 : 0 ≤ n) (h1 : n < f.Lookups.length) : qX f fs n
 | call {m : Int} {l : bk} {r : bn} {c : jw} (h : qX f fs m) (hl : f.Lookups[m.toNat]? = some l) (hk : l.Kind = 4) (hr : r ∈ l.Rules) (hc : c ∈ r.Calls) (hn : Cd f c.Lookup = true) : qX f fs c.Lookup
open Classical in
noncomputable def Gv (f : aP) (fs : List ByteArray) : List Int := ((List.range f.Lookups.length).map Int.ofNat).filter fun z => decide (qX f fs z)
theorem ev {l : List Int} {n : Nat} (h : l.Nodup) (hi : ∀ z ∈ l, 0 ≤ z ∧ z < n) : l.length ≤ n := by
 induction n generalizing l with
 | zero =>
  cases l with
  | nil => exact Nat.zero_le _
  | cons a l => have := hi a (List.mem_cons_self ..); omega
 | succ n ih =>
  by_cases hm : (n : Int) ∈ l
  ·have h1 := ih (l := l.erase n) (h.erase _) fun z hz => by
    have := (h.mem_erase_iff).1 hz
    have := hi z this.2
    omega
   rw [List.length_erase_of_mem hm] at h1
   omega
  ·have := ih h fun z hz => by
    have := hi z hz
    have : z ≠ n := fun e => hm (e ▸ hz)
    omega
   omega
end Go.Proofs.YtamjlkdanllgjaaGreatDoor
namespace Go.Proofs.YtamjlkdanllgjaaGreatDoor
open Go.RowKit
attribute [local irreducible] AT br AX AO Av Kt aW cZ DA cw
def G8 (fs : List ByteArray) (l : List bI) : List Int := (l.map fun t => if lH fs t.Name then t.Lookups else []).flatten
def CallsIn (f : aP) (l : List Int) (cs : List jw) : Prop := ∀ c ∈ cs, Cd f c.Lookup = true → c.Lookup ∈ l
def zW (f : aP) (l : List Int) (rs : List bn) : Prop := ∀ r ∈ rs, CallsIn f l r.Calls
structure Gy (f : aP) (fs : List ByteArray) (l : List Int) (i : Nat) : Prop where
 reach : ∀ z ∈ l, qX f fs z
 nodup : l.Nodup
 base : ∀ z ∈ G8 fs f.Features, 0 ≤ z → z < f.Lookups.length → z ∈ l
 done : ∀ j < i, ∀ z, l[j]? = some z → ∀ x, f.Lookups[z.toNat]? = some x → x.Kind = 4 → zW f l x.Rules
def GG (l : List Int) (n : Nat) : List AV := (List.range n).map fun (i : Nat) => ce (l.contains (i : Int))
def D2 (n : Nat) (l : List Int) (z : Int) : List Int := if 0 ≤ z ∧ z < n ∧ z ∉ l then l ++ [z] else l
def H0 (n : Nat) (l ns : List Int) : List Int := ns.foldl (D2 n) l
structure GB (n : Nat) (l : List Int) : Prop where
 nodup : l.Nodup
 dom : ∀ z ∈ l, 0 ≤ z ∧ z < n
abbrev GY (p : Nat) : AV := .sc (.pointer (some ⟨p, 0, none⟩))
end Go.Proofs.YtamjlkdanllgjaaGreatDoor
