/-
  From what came in to what the walks are told: a font, names.
-/
import Derived.Test.YtpbinloeemebkaaGreatM09
import Derived.Test.YtpbinloeemebkaaGreatM08
namespace Go.Proofs.YtpbinloeemebkaaGreat
open Go.ChangeShapes Go.WideShapes Go.ChangeAt Go.RowKit Go.Deep Go.Joins
section
variable {H : Type} {enc : TypeId × Value → H} {W : World}
instance : Inhabited FPoint := ⟨⟨0, 0, false⟩⟩
instance : Inhabited FPart := ⟨⟨0, 0, 0⟩⟩
instance : Inhabited FAnchor := ⟨⟨0, 0, 0, 0⟩⟩
instance : Inhabited FDelta := ⟨⟨0, 0, 0, 0⟩⟩
instance : Inhabited FIns := ⟨⟨0, 0⟩⟩
instance : Inhabited FGlyph := ⟨⟨default, 0, false, [], [], [], [], [], []⟩⟩
instance : Inhabited FChar := ⟨⟨0, 0⟩⟩
instance : Inhabited FCall := ⟨⟨0, 0⟩⟩
instance : Inhabited FRule := ⟨⟨[], [], [], [], [], 0⟩⟩
instance : Inhabited FLookup := ⟨⟨0, false, []⟩⟩
instance : Inhabited FFeature := ⟨⟨default, []⟩⟩
instance : Inhabited FAxis := ⟨⟨default, 0, 0, 0⟩⟩
instance : Inhabited FTent := ⟨⟨0, 0, 0⟩⟩
abbrev Yes {α : Type} : α → Prop := fun _ => True
abbrev Few' {α : Type} (l : List α) : Prop := l.length ≤ reachBytes
theorem o3 : Opn enc Tryz.prog W 3 (fun z : Int => [I64 z]) Yes := opn_int Tryz.underlying3
theorem o4 : Opn enc Tryz.prog W 4 (fun z : Bool => [Bol z]) Yes := opn_bool Tryz.underlying4
theorem o9 : Opn enc Tryz.prog W 9 (fun z : ByteArray => [Str z]) (fun z => z.size ≤ reachBytes) := opn_str Tryz.underlying9
theorem o29 : Opn enc Tryz.prog W 29 (fun l : List Int => [.imm 1 (ints l)]) Few' := (opn_slice Tryz.underlying29 (of_decide_eq_true (by kernel_rfl)) (by kernel_rfl) Nat.one_pos o3 (fun _ => rfl)).map id (fun _ => rfl) fun _ h => h.1
theorem o32 : Opn enc Tryz.prog W 32 (fun l : List ByteArray => [.imm 1 (strs l)]) Few' := (opn_slice Tryz.underlying32 (of_decide_eq_true (by kernel_rfl)) (by kernel_rfl) Nat.one_pos o9 (fun _ => rfl)).map id (fun _ => rfl) fun _ h => h.1
structure glyphFits (g : FGlyph) : Prop where
  points : Few' g.Points
  parts : Few' g.Parts
  anchors : Few' g.Anchors
  deltas : Few' g.Deltas
  hint : Few' g.Hint
  name : g.Name.size ≤ reachBytes
structure ruleFits (r : FRule) : Prop where
  out : Few' r.Out
  calls : Few' r.Calls
  back : Few' r.Back ∧ ∀ q ∈ r.Back, Few' q
  inn : Few' r.In ∧ ∀ q ∈ r.In, Few' q
  ahead : Few' r.Ahead ∧ ∀ q ∈ r.Ahead, Few' q
theorem o282 : Opn enc Tryz.prog W 282 cPoint Yes := (opn_struct (N := 3) Tryz.underlying282 (by kernel_rfl) (opnR_cons (s := 1) rfl (by kernel_rfl) o3 (opnR_cons (s := 1) rfl (by kernel_rfl) o3 (opnR_cons (s := 1) rfl (by kernel_rfl) o4 opnR_nil)))).map (fun p => ⟨p.1, p.2.1, p.2.2.1⟩) (fun _ => rfl) (fun _ _ => trivial)
theorem o56 : Opn enc Tryz.prog W 56 (fun l => [.imm 3 (l.map cPoint)] : List (FPoint) → List AV) (Few') := (opn_slice Tryz.underlying56 (of_decide_eq_true (by kernel_rfl)) (by kernel_rfl) (by decide) o282 (fun _ => rfl)).map id (fun _ => rfl) (fun _ h => h.1)
theorem o58 : Opn enc Tryz.prog W 58 (fun p : List FPoint × List Int × Unit => [.imm 3 (p.1.map cPoint), .imm 1 (ints p.2.1)]) (fun p => Few' p.1 ∧ Few' p.2.1) := (opn_struct (N := 2) Tryz.underlying58 (by kernel_rfl) (opnR_cons (s := 1) rfl (by kernel_rfl) o56 (opnR_cons (s := 1) rfl (by kernel_rfl) o29 opnR_nil))).map id (fun _ => rfl) fun _ h => ⟨h.1, h.2.1⟩
theorem o66 : Opn enc Tryz.prog W 66 cPart Yes := (opn_struct (N := 3) Tryz.underlying66 (by kernel_rfl) (opnR_cons (s := 1) rfl (by kernel_rfl) o3 (opnR_cons (s := 1) rfl (by kernel_rfl) o3 (opnR_cons (s := 1) rfl (by kernel_rfl) o3 opnR_nil)))).map (fun p => ⟨p.1, p.2.1, p.2.2.1⟩) (fun _ => rfl) (fun _ _ => trivial)
theorem o59 : Opn enc Tryz.prog W 59 (fun l => [.imm 3 (l.map cPart)] : List (FPart) → List AV) (Few') := (opn_slice Tryz.underlying59 (of_decide_eq_true (by kernel_rfl)) (by kernel_rfl) (by decide) o66 (fun _ => rfl)).map id (fun _ => rfl) (fun _ h => h.1)
theorem o210 : Opn enc Tryz.prog W 210 cAnchor Yes := (opn_struct (N := 4) Tryz.underlying210 (by kernel_rfl) (opnR_cons (s := 1) rfl (by kernel_rfl) o3 (opnR_cons (s := 1) rfl (by kernel_rfl) o3 (opnR_cons (s := 1) rfl (by kernel_rfl) o3 (opnR_cons (s := 1) rfl (by kernel_rfl) o3 opnR_nil))))).map (fun p => ⟨p.1, p.2.1, p.2.2.1, p.2.2.2.1⟩) (fun _ => rfl) (fun _ _ => trivial)
theorem o60 : Opn enc Tryz.prog W 60 (fun l => [.imm 4 (l.map cAnchor)] : List (FAnchor) → List AV) (Few') := (opn_slice Tryz.underlying60 (of_decide_eq_true (by kernel_rfl)) (by kernel_rfl) (by decide) o210 (fun _ => rfl)).map id (fun _ => rfl) (fun _ h => h.1)
theorem o212 : Opn enc Tryz.prog W 212 cDelta Yes := (opn_struct (N := 4) Tryz.underlying212 (by kernel_rfl) (opnR_cons (s := 1) rfl (by kernel_rfl) o3 (opnR_cons (s := 1) rfl (by kernel_rfl) o3 (opnR_cons (s := 1) rfl (by kernel_rfl) o3 (opnR_cons (s := 1) rfl (by kernel_rfl) o3 opnR_nil))))).map (fun p => ⟨p.1, p.2.1, p.2.2.1, p.2.2.2.1⟩) (fun _ => rfl) (fun _ _ => trivial)
theorem o61 : Opn enc Tryz.prog W 61 (fun l => [.imm 4 (l.map cDelta)] : List (FDelta) → List AV) (Few') := (opn_slice Tryz.underlying61 (of_decide_eq_true (by kernel_rfl)) (by kernel_rfl) (by decide) o212 (fun _ => rfl)).map id (fun _ => rfl) (fun _ h => h.1)
theorem o273 : Opn enc Tryz.prog W 273 cIns Yes := (opn_struct (N := 2) Tryz.underlying273 (by kernel_rfl) (opnR_cons (s := 1) rfl (by kernel_rfl) o3 (opnR_cons (s := 1) rfl (by kernel_rfl) o3 opnR_nil))).map (fun p => ⟨p.1, p.2.1⟩) (fun _ => rfl) (fun _ _ => trivial)
theorem o62 : Opn enc Tryz.prog W 62 (fun l => [.imm 2 (l.map cIns)] : List (FIns) → List AV) (Few') := (opn_slice Tryz.underlying62 (of_decide_eq_true (by kernel_rfl)) (by kernel_rfl) (by decide) o273 (fun _ => rfl)).map id (fun _ => rfl) (fun _ h => h.1)
theorem o64 : Opn enc Tryz.prog W 64 cGlyph glyphFits := (opn_struct (N := 9) Tryz.underlying64 (by kernel_rfl) (opnR_cons (s := 1) rfl (by kernel_rfl) o9 (opnR_cons (s := 1) rfl (by kernel_rfl) o3 (opnR_cons (s := 1) rfl (by kernel_rfl) o4 (opnR_cons (s := 2) rfl (by kernel_rfl) o58 (opnR_cons (s := 1) rfl (by kernel_rfl) o59 (opnR_cons (s := 1) rfl (by kernel_rfl) o60 (opnR_cons (s := 1) rfl (by kernel_rfl) o61 (opnR_cons (s := 1) rfl (by kernel_rfl) o62 opnR_nil))))))))).map (fun p => ⟨p.1, p.2.1, p.2.2.1, p.2.2.2.1.1, p.2.2.2.1.2.1, p.2.2.2.2.1, p.2.2.2.2.2.1, p.2.2.2.2.2.2.1, p.2.2.2.2.2.2.2.1⟩) (fun _ => rfl) (fun p h => ⟨h.2.2.2.1.1, h.2.2.2.2.1, h.2.2.2.2.2.1, h.2.2.2.2.2.2.1, h.2.2.2.2.2.2.2.1, h.1⟩)
theorem o22 : Opn enc Tryz.prog W 22 (fun l => [.imm 9 (l.map cGlyph)] : List (FGlyph) → List AV) (fun l => Few' l ∧ ∀ g ∈ l, glyphFits g) := (opn_slice Tryz.underlying22 (of_decide_eq_true (by kernel_rfl)) (by kernel_rfl) (by decide) o64 (fun _ => rfl)).map id (fun _ => rfl) (fun _ h => h)
theorem o50 : Opn enc Tryz.prog W 50 cChar Yes := (opn_struct (N := 2) Tryz.underlying50 (by kernel_rfl) (opnR_cons (s := 1) rfl (by kernel_rfl) o3 (opnR_cons (s := 1) rfl (by kernel_rfl) o3 opnR_nil))).map (fun p => ⟨p.1, p.2.1⟩) (fun _ => rfl) (fun _ _ => trivial)
theorem o23 : Opn enc Tryz.prog W 23 (fun l => [.imm 2 (l.map cChar)] : List (FChar) → List AV) (Few') := (opn_slice Tryz.underlying23 (of_decide_eq_true (by kernel_rfl)) (by kernel_rfl) (by decide) o50 (fun _ => rfl)).map id (fun _ => rfl) (fun _ h => h.1)
theorem o86 : Opn enc Tryz.prog W 86 (fun l => [.imm 1 (rowsI l)] : List (List Int) → List AV) (fun l => Few' l ∧ ∀ q ∈ l, Few' q) := (opn_slice Tryz.underlying86 (of_decide_eq_true (by kernel_rfl)) (by kernel_rfl) (by decide) o29 (fun _ => rfl)).map id (fun _ => rfl) (fun _ h => h)
theorem o91 : Opn enc Tryz.prog W 91 cCall Yes := (opn_struct (N := 2) Tryz.underlying91 (by kernel_rfl) (opnR_cons (s := 1) rfl (by kernel_rfl) o3 (opnR_cons (s := 1) rfl (by kernel_rfl) o3 opnR_nil))).map (fun p => ⟨p.1, p.2.1⟩) (fun _ => rfl) (fun _ _ => trivial)
theorem o87 : Opn enc Tryz.prog W 87 (fun l => [.imm 2 (l.map cCall)] : List (FCall) → List AV) (Few') := (opn_slice Tryz.underlying87 (of_decide_eq_true (by kernel_rfl)) (by kernel_rfl) (by decide) o91 (fun _ => rfl)).map id (fun _ => rfl) (fun _ h => h.1)
theorem o89 : Opn enc Tryz.prog W 89 cRule ruleFits := (opn_struct (N := 6) Tryz.underlying89 (by kernel_rfl) (opnR_cons (s := 1) rfl (by kernel_rfl) o86 (opnR_cons (s := 1) rfl (by kernel_rfl) o86 (opnR_cons (s := 1) rfl (by kernel_rfl) o86 (opnR_cons (s := 1) rfl (by kernel_rfl) o29 (opnR_cons (s := 1) rfl (by kernel_rfl) o87 (opnR_cons (s := 1) rfl (by kernel_rfl) o3 opnR_nil))))))).map (fun p => ⟨p.1, p.2.1, p.2.2.1, p.2.2.2.1, p.2.2.2.2.1, p.2.2.2.2.2.1⟩) (fun _ => rfl) (fun p h => ⟨h.2.2.2.1, h.2.2.2.2.1, h.1, h.2.1, h.2.2.1⟩)
theorem o68 : Opn enc Tryz.prog W 68 (fun l => [.imm 6 (l.map cRule)] : List (FRule) → List AV) (fun l => Few' l ∧ ∀ r ∈ l, ruleFits r) := (opn_slice Tryz.underlying68 (of_decide_eq_true (by kernel_rfl)) (by kernel_rfl) (by decide) o89 (fun _ => rfl)).map id (fun _ => rfl) (fun _ h => h)
theorem o70 : Opn enc Tryz.prog W 70 cLookup (fun l => Few' l.Rules ∧ ∀ r ∈ l.Rules, ruleFits r) := (opn_struct (N := 3) Tryz.underlying70 (by kernel_rfl) (opnR_cons (s := 1) rfl (by kernel_rfl) o3 (opnR_cons (s := 1) rfl (by kernel_rfl) o4 (opnR_cons (s := 1) rfl (by kernel_rfl) o68 opnR_nil)))).map (fun p => ⟨p.1, p.2.1, p.2.2.1⟩) (fun _ => rfl) (fun p h => h.2.2.1)
theorem o24 : Opn enc Tryz.prog W 24 (fun l => [.imm 3 (l.map cLookup)] : List (FLookup) → List AV) (fun l => Few' l ∧ ∀ q ∈ l, Few' q.Rules ∧ ∀ r ∈ q.Rules, ruleFits r) := (opn_slice Tryz.underlying24 (of_decide_eq_true (by kernel_rfl)) (by kernel_rfl) (by decide) o70 (fun _ => rfl)).map id (fun _ => rfl) (fun _ h => h)
theorem o72 : Opn enc Tryz.prog W 72 cFeature (fun t => Few' t.Lookups ∧ t.Name.size ≤ reachBytes) := (opn_struct (N := 2) Tryz.underlying72 (by kernel_rfl) (opnR_cons (s := 1) rfl (by kernel_rfl) o9 (opnR_cons (s := 1) rfl (by kernel_rfl) o29 opnR_nil))).map (fun p => ⟨p.1, p.2.1⟩) (fun _ => rfl) (fun p h => ⟨h.2.1, h.1⟩)
theorem o25 : Opn enc Tryz.prog W 25 (fun l => [.imm 2 (l.map cFeature)] : List (FFeature) → List AV) (fun l => Few' l ∧ ∀ t ∈ l, Few' t.Lookups ∧ t.Name.size ≤ reachBytes) := (opn_slice Tryz.underlying25 (of_decide_eq_true (by kernel_rfl)) (by kernel_rfl) (by decide) o72 (fun _ => rfl)).map id (fun _ => rfl) (fun _ h => h)
theorem o149 : Opn enc Tryz.prog W 149 cAxis Yes := (opn_struct (N := 4) Tryz.underlying149 (by kernel_rfl) (opnR_cons (s := 1) rfl (by kernel_rfl) o9 (opnR_cons (s := 1) rfl (by kernel_rfl) o3 (opnR_cons (s := 1) rfl (by kernel_rfl) o3 (opnR_cons (s := 1) rfl (by kernel_rfl) o3 opnR_nil))))).map (fun p => ⟨p.1, p.2.1, p.2.2.1, p.2.2.2.1⟩) (fun _ => rfl) (fun _ _ => trivial)
theorem o26 : Opn enc Tryz.prog W 26 (fun l => [.imm 4 (l.map cAxis)] : List (FAxis) → List AV) (Few') := (opn_slice Tryz.underlying26 (of_decide_eq_true (by kernel_rfl)) (by kernel_rfl) (by decide) o149 (fun _ => rfl)).map id (fun _ => rfl) (fun _ h => h.1)
theorem o151 : Opn enc Tryz.prog W 151 cTent Yes := (opn_struct (N := 3) Tryz.underlying151 (by kernel_rfl) (opnR_cons (s := 1) rfl (by kernel_rfl) o3 (opnR_cons (s := 1) rfl (by kernel_rfl) o3 (opnR_cons (s := 1) rfl (by kernel_rfl) o3 opnR_nil)))).map (fun p => ⟨p.1, p.2.1, p.2.2.1⟩) (fun _ => rfl) (fun _ _ => trivial)
theorem o73 : Opn enc Tryz.prog W 73 (fun l => [.imm 3 (l.map cTent)] : List (FTent) → List AV) (Few') := (opn_slice Tryz.underlying73 (of_decide_eq_true (by kernel_rfl)) (by kernel_rfl) (by decide) o151 (fun _ => rfl)).map id (fun _ => rfl) (fun _ h => h.1)
theorem o75 : Opn enc Tryz.prog W 75 cRegion Few' := (opn_struct (N := 1) Tryz.underlying75 (by kernel_rfl) (opnR_cons (s := 1) rfl (by kernel_rfl) o73 opnR_nil)).map (fun p => p.1) (fun _ => rfl) (fun _ h => h.1)
theorem o27 : Opn enc Tryz.prog W 27 (fun l => [.imm 1 (l.map cRegion)] : List (List FTent) → List AV) (fun l => Few' l ∧ ∀ r ∈ l, Few' r) := (opn_slice Tryz.underlying27 (of_decide_eq_true (by kernel_rfl)) (by kernel_rfl) (by decide) o75 (fun _ => rfl)).map id (fun _ => rfl) (fun _ h => h)
theorem o28 : Opn enc Tryz.prog W 28 (fun l => [.imm 1 (l.map cCode)] : List (List FIns) → List AV) (fun l => Few' l ∧ ∀ r ∈ l, Few' r) := (opn_slice Tryz.underlying28 (of_decide_eq_true (by kernel_rfl)) (by kernel_rfl) (by decide) o62 (fun _ => rfl)).map id (fun _ => rfl) (fun _ h => h)
theorem up {n : Nat} (h : n ≤ reachBytes) : n ≤ 140737488355328 := Nat.le_trans h (by decide)
theorem fits_of {f : FFont} (h1 : Few' f.Glyphs ∧ ∀ g ∈ f.Glyphs, glyphFits g) (h2 : Few' f.Chars) (h3 : Few' f.Lookups ∧ ∀ q ∈ f.Lookups, Few' q.Rules ∧ ∀ r ∈ q.Rules, ruleFits r) (h4 : Few' f.Features ∧ ∀ t ∈ f.Features, Few' t.Lookups ∧ t.Name.size ≤ reachBytes) (h5 : Few' f.Axes) (h6 : Few' f.Regions ∧ ∀ r ∈ f.Regions, Few' r) (h7 : Few' f.Funcs ∧ ∀ r ∈ f.Funcs, Few' r) (h8 : Few' f.Cvt) : FontFits f where
  top := ⟨up h1.1, up h2, up h3.1, up h4.1, up h5, up h6.1, up h7.1, up h8⟩
  glyph g hg := ⟨up (h1.2 g hg).points, up (h1.2 g hg).parts, up (h1.2 g hg).anchors, up (h1.2 g hg).deltas, up (h1.2 g hg).hint, up (h1.2 g hg).name⟩
  rules l hl := ⟨up (h3.2 l hl).1, fun r hr => by
    have k := (h3.2 l hl).2 r hr
    refine ⟨up k.out, up k.calls, fun s hs => ?_⟩
    simp only [List.mem_cons, List.not_mem_nil, or_false] at hs
    rcases hs with rfl | rfl | rfl
    · exact ⟨up k.back.1, fun q hq => up (k.back.2 q hq)⟩
    · exact ⟨up k.inn.1, fun q hq => up (k.inn.2 q hq)⟩
    · exact ⟨up k.ahead.1, fun q hq => up (k.ahead.2 q hq)⟩⟩
  funcs c hc := up (h7.2 c hc)
  feats t ht := ⟨up (h4.2 t ht).1, up (h4.2 t ht).2⟩
  regions r hr := up (h6.2 r hr)
theorem o31 : Opn enc Tryz.prog W 31 cFont FontFits := (opn_struct (N := 9) Tryz.underlying31 (by kernel_rfl) (opnR_cons (s := 1) rfl (by kernel_rfl) o3 (opnR_cons (s := 1) rfl (by kernel_rfl) o22 (opnR_cons (s := 1) rfl (by kernel_rfl) o23 (opnR_cons (s := 1) rfl (by kernel_rfl) o24 (opnR_cons (s := 1) rfl (by kernel_rfl) o25 (opnR_cons (s := 1) rfl (by kernel_rfl) o26 (opnR_cons (s := 1) rfl (by kernel_rfl) o27 (opnR_cons (s := 1) rfl (by kernel_rfl) o28 (opnR_cons (s := 1) rfl (by kernel_rfl) o29 opnR_nil)))))))))).map (fun p => ⟨p.1, p.2.1, p.2.2.1, p.2.2.2.1, p.2.2.2.2.1, p.2.2.2.2.2.1, p.2.2.2.2.2.2.1, p.2.2.2.2.2.2.2.1, p.2.2.2.2.2.2.2.2.1⟩) (fun _ => rfl) (fun p h => fits_of h.2.1 h.2.2.1 h.2.2.2.1 h.2.2.2.2.1 h.2.2.2.2.2.1 h.2.2.2.2.2.2.1 h.2.2.2.2.2.2.2.1 h.2.2.2.2.2.2.2.2.1)
set_option maxRecDepth 100000 in
/-- an argument that is a font -/
theorem open_fontV {base : Nat} {v : Value} {d : DataW H} {p : List MemPlace} (hok : Value.okWide Tryz.prog W .any base 31 v) (h : DataW.Trod enc Tryz.prog W 0 (fun _ => true) true 31 v d p) (hl : Light Tryz.prog 31 d) : ∃ f, VR (memOf W) (aFont f) v ∧ FontFits f := by
  obtain ⟨cs, rfl, hsz⟩ := okWide_struct Tryz.underlying31 hok
  obtain ⟨fuel, hf⟩ := h
  obtain ⟨f, h1, h2, h3⟩ := o31 (enc := enc) fuel cs.toList _ (by simpa [Value.cells] using hf) hl
  have := VR.agg (σ := memOf W) _ _ h1.1 h1.2 h2
  exact ⟨f, by simpa using this, h3⟩
set_option maxRecDepth 100000 in
theorem open_namesV {base : Nat} {v : Value} {d : DataW H} {p : List MemPlace} (hok : Value.okWide Tryz.prog W .any base 32 v) (h : DataW.Trod enc Tryz.prog W 0 (fun _ => true) true 32 v d p) (hl : Light Tryz.prog 32 d) : ∃ l, VR (memOf W) (.imm 1 (strs l)) v := by
  obtain ⟨a0, len, cap, rfl⟩ := okWide_slice Tryz.underlying32 hok
  obtain ⟨fuel, hf⟩ := h
  obtain ⟨l, h1, _, _⟩ := o32 (enc := enc) fuel [.slice a0 len cap] _ (by simpa [Value.cells] using hf) hl
  exact ⟨l, h1.2 0 _ _ rfl rfl⟩
end
end Go.Proofs.YtpbinloeemebkaaGreat

namespace Go.Proofs.YtpbinloeemebkaaGreat
open Go.RowKit
/-- a function with what it holds -/
def fnO (u : AV) : Option (FuncId × List AV) := match u with
  | .fn f cs => some (f, cs)
  | .sc (.func (.func f) a b) => match a.toList with
    | [] => match b.toList with
      | [] => some (f, [])
      | _ => none
    | _ => none
  | _ => none
theorem fnO_spec {u : AV} {f : FuncId} {cs : List AV} (h : fnO u = some (f, cs)) {σ : Mem} {v : Value} (hv : VR σ u v) : VR σ (.fn f cs) v := by
  unfold fnO at h
  split at h
  · cases h; exact hv
  · rename_i a b
    split at h
    · rename_i ha
      split at h
      · rename_i hb
        cases h
        have e1 : a = #[] := by apply Array.toList_inj.1; simpa using ha
        have e2 : b = #[] := by apply Array.toList_inj.1; simpa using hb
        subst e1; subst e2
        rw [hv.sc_inv]
        exact .fn f [] [] rfl (fun i c u h => by simp at h)
      · cases h
    · cases h
  · cases h
section
variable {P : Program} {r : Option Nat} {ops : Array Oper} {Q : Exit → Act → World → Prop} {nt : Nat} {D : List Deferred} {fr : AFr} {B : Bs} {L : AL} {rest : List Oper} {d : Nat} {ty t : TypeId} {pos : String} {af : Array Edge} {x y z : Operand} {u : AV} {g : Option (Nat × Bool)}
theorem ao_callF (Lc Lf : AL) {d : Option Tmp} {f : FuncId} {args : Array Operand} {ts : Array TypeId} {cs caps : List AV} {Post : AV → AL → Prop} [hf : CFn P f] (hx : aev fr x = some u) (hu : fnO u = some (f, caps)) (hv : aevs fr args.toList = some cs) (hL : L.Perm (Lc ++ Lf)) (h : AC P f (cs ++ caps) Lc Post) :
    AO P ⟨d, .call ⟨.value x, args, ts⟩, ty, pos, af, g⟩ fr B L (fun c L' => ∃ L1, Post c L1 ∧ L' = L1 ++ Lf) := by
  intro σ ρ w hρ hw0
  have hw := hw0.perm hL
  obtain ⟨ws, hw1, hw2⟩ := (fnO_spec hu (hρ x _ hx)).fn_inv
  have hvs := aevs_map hρ _ _ hv
  have e : args.map ρ = (args.toList.map ρ).toArray := by apply Array.toList_inj.1; simp
  unfold Op1
  rw [show (execOp ρ ⟨d, .call ⟨.value x, args, ts⟩, ty, pos, af, g⟩).run P w = .ok (.enter f (args.toList.map ρ ++ ws).toArray) w by
    simp [execOp, resolve, hw1, Deferred.ofValue, invoke, hf.enters]]
  have hall : VRs σ (cs ++ caps) (args.toList.map ρ ++ ws) := by
    refine ⟨by rw [List.length_append, List.length_append, hvs.1, hw2.1], fun i c u hc hu => ?_⟩
    have hq := hvs.1
    by_cases hi : i < cs.length
    · rw [List.getElem?_append_left hi] at hc
      rw [List.getElem?_append_left (by omega)] at hu
      exact hvs.2 i c u hc hu
    · rw [List.getElem?_append_right (by omega)] at hc
      rw [List.getElem?_append_right (by omega), ← hq] at hu
      exact hw2.2 _ c u hc hu
  refine (h σ w _ hall hw.enter).mono fun en w' ⟨v, τ, c, L', h1, h2, h3, h4⟩ => ⟨v, h1, τ, c, L' ++ Lf, h3.grow, h2, hw.leave h3, L', h4, rfl⟩
/-- a call of a function value, by its contract -/
theorem n_callF {f : FuncId} {args : Array Operand} {ts : Array TypeId} {cs caps : List AV} {Post : AV → AL → Prop} [CFn P f] (Lc Lf : AL) (hc : AC P f (cs ++ caps) Lc Post) (hx : aev fr x = some u) (hu : fnO u = some (f, caps)) (hv : aevs fr args.toList = some cs) (hL : L.Perm (Lc ++ Lf)) (hn : Oper.noDefer ⟨some d, .call ⟨.value x, args, ts⟩, ty, pos, af, none⟩ = true) (hd : Nat.ble nt d = false) (h : ∀ c L1, Post c L1 → ATL P r ops Q nt D rest ((d, c) :: fr) B (L1 ++ Lf)) :
    ATL P r ops Q nt D (⟨some d, .call ⟨.value x, args, ts⟩, ty, pos, af, none⟩ :: rest) fr B L :=
  atl_op hd hn (ao_callF Lc Lf hx hu hv hL hc) fun c L' ⟨L1, h1, h2⟩ => by subst h2; exact h c L1 h1
end
theorem AAg.shadow2 {σ : Mem} {nt : Nat} {D : List Deferred} {fr : AFr} {a : Act} {t : Nat} {v : AV} (h : AAg σ nt D fr a) (hl : VR σ v (a.tmps.getD t undef)) : AAg σ nt D ((t, v) :: fr) a :=
  ⟨h.size, h.defers, fun t' v' hl' => by
    rw [alook_cons] at hl'
    by_cases e : t = t'
    · subst e; simp only [if_true, Option.some.injEq] at hl'; subst hl'; exact hl
    · rw [if_neg e] at hl'; exact h.look t' v' hl'⟩
theorem atl_cut {P : Program} {r : Option Nat} {ops : Array Oper} {Q : Exit → Act → World → Prop} {nt : Nat} {D : List Deferred} {fr fr0 : AFr} {B : Bs} {L : AL} {rest : List Oper} {t : Nat} (ks : List Nat) (C : Prop) [Decidable C] (hks : akeep fr ks = some fr0) (h : ∀ Q', (∀ fr' b, akeep fr' ks = some fr0 → alook fr' t = some (.sc (.bool b)) → (b = true ↔ C) → AX P .normal Q' nt D fr' B L) → ATL P r ops Q' nt D rest fr B L) (k : AX P .normal Q nt D ((t, .sc (.bool (decide C))) :: fr0) B L) : ATL P r ops Q nt D rest fr B L := by
  refine h Q fun fr' b hk hb hC => fun σ a w ha hw => k σ a w ?_ hw
  have hb' : b = decide C := by
    by_cases hc : C
    · rw [decide_eq_true hc, hC.2 hc]
    · rw [decide_eq_false hc]
      cases b with
      | true => exact absurd (hC.1 rfl) hc
      | false => rfl
  subst hb'
  exact (ha.weak (akeep_afle _ hk)).shadow2 (ha.look t _ hb)
/-- a contract with more blocks: they stay -/
theorem AC.frame {P : Program} {f : FuncId} {args : List AV} {L Lf : AL} {Post : AV → AL → Prop} (h : AC P f args L Post) : AC P f args (L ++ Lf) fun c L' => ∃ L1, Post c L1 ∧ L' = L1 ++ Lf := by
  intro σ w vs hv hs
  refine (h σ w vs hv hs.enter).mono fun en w' ⟨v, τ, c, L', h1, h2, h3, h4⟩ => ⟨v, τ, c, L' ++ Lf, h1, h2, hs.leave h3, L', h4, rfl⟩
theorem AC.perm {P : Program} {f : FuncId} {args : List AV} {L L2 : AL} {Post : AV → AL → Prop} (h : AC P f args L Post) (hp : L2.Perm L) : AC P f args L2 Post := by
  intro σ w vs hv hs
  refine (h σ w vs hv ?_).mono fun en w' ⟨v, τ, c, L', h1, h2, h3, h4⟩ => ⟨v, τ, c, L', h1, h2, ?_, h4⟩
  · have := hs.perm hp
    exact ⟨this.os, this.tape, this.output, this.size, fun k h1 h2 => this.old k h1 (fun h3 => h2 ((hp.map _).mem_iff.1 h3)), this.here, fun p hp' => (this.mine p hp').imp id (fun h3 => (hp.map _).mem_iff.1 h3), this.apart, this.froz, this.free, this.grow, fun b h1 h2 => this.same b h1 (fun h3 => h2 ((hp.map _).mem_iff.1 h3))⟩
  · exact ⟨h3.os, h3.tape, h3.output, h3.size, fun k h1 h2 => h3.old k h1 (fun h3 => h2 ((hp.map _).mem_iff.2 h3)), h3.here, fun p hp' => (h3.mine p hp').imp id (fun h3 => (hp.map _).mem_iff.2 h3), h3.apart, h3.froz, h3.free, h3.grow, fun b h1 h2 => h3.same b h1 (fun h3 => h2 ((hp.map _).mem_iff.2 h3))⟩
theorem ACs.perm {P : Program} {σ0 : Mem} {f : FuncId} {args : List AV} {L L2 : AL} {Post : AV → AL → Prop} (h : ACs P σ0 f args L Post) (hp : L2.Perm L) : ACs P σ0 f args L2 Post := by
  intro σ w vs hle hv hs
  refine (h σ w vs hle hv ?_).mono fun en w' ⟨v, τ, c, L', h1, h2, h3, h4⟩ => ⟨v, τ, c, L', h1, h2, ?_, h4⟩
  · have := hs.perm hp
    exact ⟨this.os, this.tape, this.output, this.size, fun k h1 h2 => this.old k h1 (fun h3 => h2 ((hp.map _).mem_iff.1 h3)), this.here, fun p hp' => (this.mine p hp').imp id (fun h3 => (hp.map _).mem_iff.1 h3), this.apart, this.froz, this.free, this.grow, fun b h1 h2 => this.same b h1 (fun h3 => h2 ((hp.map _).mem_iff.1 h3))⟩
  · exact ⟨h3.os, h3.tape, h3.output, h3.size, fun k h1 h2 => h3.old k h1 (fun h3 => h2 ((hp.map _).mem_iff.2 h3)), h3.here, fun p hp' => (h3.mine p hp').imp id (fun h3 => (hp.map _).mem_iff.2 h3), h3.apart, h3.froz, h3.free, h3.grow, fun b h1 h2 => h3.same b h1 (fun h3 => h2 ((hp.map _).mem_iff.2 h3))⟩
theorem turn_sub {nt : Nat} {D : List Deferred} {B : Bs} {fr : AFr} {L L' : AL} (h : L'.Sublist L) : Turn nt D B fr L fr L' := fun σ _ _ ha hw => ⟨σ, ha, hw.sublist h⟩
section
variable {P : Program} {l : List Oper} {fr : AFr} {fin : AFr → AL → Prop} {sk : AkL} {acc : AFr} {L : AL} {k : Nat} {dd : Option Tmp} {ty : TypeId} {pos : String} {af : Array Edge} {g : Option (Nat × Bool)} {x : Operand} {u : AV}
theorem d_callA {f : FuncId} {args : Array Operand} {ts : Array TypeId} {cs ds : List AV} {Post : AV → AL → Prop} [CFn P f] (Lc Lf : AL) (hc : AC P f ds Lc Post) (hv : aevs (frkA l.toArray acc fr af.toList) args.toList = some cs) (hi : imsF cs = some ds) (hL : L.Perm (Lc ++ Lf)) (hg : GOA ⟨dd, .call ⟨.value (.func f), args, ts⟩, ty, pos, af, g⟩ acc) (h : ∀ c L1, Post c L1 → DA P l fr fin sk ((k, c) :: acc) (L1 ++ Lf)) :
    DA1 P l fr fin k .e ⟨dd, .call ⟨.value (.func f), args, ts⟩, ty, pos, af, g⟩ sk acc L := by
  have hc' := hc
  rw [← imsF_eq hi] at hc'
  exact da_eff hg (fun B => ao_call Lc Lf hv (fun σ vs h => h.im) hL hc') fun c L' ⟨L1, h1, h2⟩ => by subst h2; exact h c L1 h1
theorem d_callF {f : FuncId} {args : Array Operand} {ts : Array TypeId} {cs caps : List AV} {Post : AV → AL → Prop} [CFn P f] (Lc Lf : AL) (hc : AC P f (cs ++ caps) Lc Post) (hx : aev (frkA l.toArray acc fr af.toList) x = some u) (hu : fnO u = some (f, caps)) (hv : aevs (frkA l.toArray acc fr af.toList) args.toList = some cs) (hL : L.Perm (Lc ++ Lf)) (hg : GOA ⟨dd, .call ⟨.value x, args, ts⟩, ty, pos, af, g⟩ acc) (h : ∀ c L1, Post c L1 → DA P l fr fin sk ((k, c) :: acc) (L1 ++ Lf)) :
    DA1 P l fr fin k .e ⟨dd, .call ⟨.value x, args, ts⟩, ty, pos, af, g⟩ sk acc L :=
  da_eff hg (fun B => ao_callF Lc Lf hx hu hv hL hc) fun c L' ⟨L1, h1, h2⟩ => by subst h2; exact h c L1 h1
end
/-- what is told only, with blocks that are let go -/
theorem ADet.any {P : Program} {f : FuncId} {args : List AV} {u : AV} (h : ADet P f args u) (L : AL) : AC P f args L fun c L' => c = u ∧ ∃ L1, L' = L1 ++ L := (AC.frame (Lf := L) h).mono fun c L' ⟨L1, h1, h2⟩ => ⟨h1, L1, h2⟩
end Go.Proofs.YtpbinloeemebkaaGreat
