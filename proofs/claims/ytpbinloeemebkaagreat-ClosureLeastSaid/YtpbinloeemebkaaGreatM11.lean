/-
  Texts put together, texts of bytes, places in arrays, rests.
-/
import Derived.Test.YtpbinloeemebkaaGreatM10
import Derived.Test.YtpbinloeemebkaaGreatM06
namespace Go.Proofs.YtpbinloeemebkaaGreat
open Go.RowKit
section
variable {P : Program} {fr : AFr} {B : Bs} {L : AL} {d : Option Tmp} {ty t t' : TypeId} {pos : String} {af : Array Edge} {g : Option (Nat × Bool)} {x y : Operand} {u : AV}
theorem a_cat {a b : ByteArray} (hx : aev fr x = some (.sc (.string a))) (hy : aev fr y = some (.sc (.string b))) (h : a.size + b.size ≤ 1000000) : Av P ⟨d, .binOp .add t x y t', ty, pos, af, g⟩ fr (.sc (.string (a ++ b))) :=
  av_sc fun ρ w hρ => by
    have : ¬ (9223372036854775807 : Int) < ((a.size + b.size : Nat) : Int) := by omega
    have h9 : IntKind.max .i64 = 9223372036854775807 := rfl
    simp [execOp, hρ _ _ hx, hρ _ _ hy, eqGuard, binOp, Op.stringOp, h9]
    omega
theorem a_byteS {e by_ : Nat} {c : Int} (hs : CSl P t e 1 by_) (he : CInt P e .u8) (hd : CStr P t') (hx : aev fr x = some u) (hu : u.im = .imm 1 [[.sc (.int .u8 c)]]) : Av P ⟨d, .convert t t' x, ty, pos, af, g⟩ fr (.sc (.string ⟨#[UInt8.ofNat c.toNat]⟩)) :=
  fun σ ρ w hρ hw => by
    have h1 := (hρ x _ hx).im
    rw [hu] at h1
    obtain ⟨A, cap, hv, _, _, hsz, ha, hcx, hcy⟩ := h1.imm_inv
    obtain ⟨b, off, rfl⟩ := ha (by simp)
    obtain ⟨v, hv1, _⟩ := hcx 0 b off 0 rfl (by simp) (by omega)
    have hv2 := hcy 0 _ b off 0 _ v rfl rfl rfl hv1
    have hv3 := hv2.sc_inv
    subst hv3
    have hcell : w.cell? ⟨b, off, none⟩ = some (.int .u8 c) := by
      have := hw _ _ _ hv1
      simpa using this
    have hload : (loadCells ⟨b, off, none⟩ 1).run P w = .ok #[.int .u8 c] w := by
      have := run_loadCells_list (P := P) w ⟨b, off, none⟩ [.int .u8 c] fun j v hj => by
        cases j with
        | zero => simp at hj; subst hj; simpa [Addr.add] using hcell
        | succ j => simp at hj
      simpa using this
    refine ⟨_, ?_, .sc _⟩
    simp [execOp, hv, convert, run_underlying hs.under, run_underlying he.under, run_underlying hd.under, Conv.bytesToString, hload]
    rfl
theorem a_arr {n e sz k : Nat} {q : IntKind} {cs : List AV} (ht : P.underlying t = some (.array n e)) (hs : (P.info? e).map (·.size) = some sz) (hx : aev fr x = some (.iptr cs)) (hy : aev fr y = some (.sc (.int q (k : Int)))) (hk : k < n) (hl : k * sz ≤ cs.length) : Av P ⟨d, .indexAddr t x y, ty, pos, af, g⟩ fr (.iptr (cs.drop (k * sz))) :=
  fun σ ρ w hρ _ => by
    have hyv := (hρ y _ hy).sc_inv
    obtain ⟨b, off, hv, hcx, hcy⟩ := (hρ x _ hx).iptr_inv
    have hk' : (k : Int) < (n : Int) := by omega
    have hso : (sizeOf e : Sem Nat).run P w = .ok sz w := by
      cases hi : P.info? e with
      | none => rw [hi] at hs; cases hs
      | some i => rw [hi] at hs; simp at hs; simp [sizeOf, typeInfo, hi, hs]
    refine ⟨.pointer (some ⟨b, off + k * sz, none⟩), ?_, .iptr _ _ _ (fun j hj => ?_) fun j c v hc hw => ?_⟩
    · simp [execOp, hv, hyv, Instr.indexAt, asIntOf, run_underlying ht, hso, Instr.sureAddr, Addr.add]
      by_cases hn : n ≤ 1 <;> by_cases h0 : k * sz = 0 <;> simp [hk, h0]
    · have := hcx (k * sz + j) (by simp at hj; omega)
      simpa [Nat.add_assoc] using this
    · exact hcy (k * sz + j) c v (by simpa using hc) (by simpa [Nat.add_assoc] using hw)
end
def arrI (tt : TT) (t : Nat) : Option (Nat × Nat × Nat) := match tlook tt t with
  | some ⟨.arr n e sz, _, _⟩ => some (n, e, sz)
  | _ => none
theorem arrI_spec {P : Program} {tt : TT} (ok : TOk P tt) {t n e sz : Nat} (h : arrI tt t = some (n, e, sz)) : P.underlying t = some (.array n e) ∧ (P.info? e).map (·.size) = some sz := by
  unfold arrI at h
  split at h
  · rename_i n' e' sz' si z ht
    cases h
    have := ok.ok t _ ht
    simp only [tiB, Bool.and_eq_true] at this
    obtain ⟨_, h2⟩ := this
    split at h2 <;> simp at h2
    rename_i hu
    obtain ⟨⟨rfl, rfl⟩, h3⟩ := h2
    refine ⟨hu, ?_⟩
    unfold sizeB at h3
    split at h3
    · rename_i i hi
      simp at h3
      simp [hi, h3]
    · cases h3
  · cases h
section
variable {P : Program} {tt : TT} {r : Option Nat} {ops : Array Oper} {Q : Exit → Act → World → Prop} {nt : Nat} {D : List Deferred} {fr : AFr} {B : Bs} {L : AL} {rest : List Oper} {d : Nat} {ty t t' : TypeId} {pos : String} {af : Array Edge} {x y z : Operand} {u : AV}
theorem n_rem {a b : Int} (h : ATL P r ops Q nt D rest ((d, .sc (.int .i64 (a.tmod b))) :: fr) B L) (hx : aev fr x = some (.sc (.int .i64 a)) := by rfl) (hy : aev fr y = some (.sc (.int .i64 b)) := by rfl) (hb : b ≠ 0 := by omega) (hd : Nat.ble nt d = false := by rfl) : ATL P r ops Q nt D (⟨some d, .binOp .rem t x y t', ty, pos, af, none⟩ :: rest) fr B L := atl_val (a_rem hx hy hb) hd rfl h
theorem n_arr (ok : TOk P tt) (k : Nat) {n e sz : Nat} {q : IntKind} {cs : List AV} (h : ATL P r ops Q nt D rest ((d, .iptr (cs.drop (k * sz))) :: fr) B L) (ht : arrI tt t = some (n, e, sz) := by rfl) (hx : aev fr x = some (.iptr cs) := by rfl) (hy : aev fr y = some (.sc (.int q (k : Int))) := by rfl) (hk : Nat.blt k n = true := by rfl) (hl : Nat.ble (k * sz) cs.length = true := by rfl) (hd : Nat.ble nt d = false := by rfl) : ATL P r ops Q nt D (⟨some d, .indexAddr t x y, ty, pos, af, none⟩ :: rest) fr B L := by
  obtain ⟨h1, h2⟩ := arrI_spec ok ht
  exact atl_val (a_arr h1 h2 hx hy (by simpa [Nat.blt_eq] using hk) (by simpa [Nat.ble_eq] using hl)) hd rfl h
end
section
variable {P : Program} {tt : TT} {l : List Oper} {fr : AFr} {fin : FinA} {sk : AkL} {acc : AFr} {L : AL} {k : Nat} {dd : Option Tmp} {ty t t' : TypeId} {pos : String} {af : Array Edge} {g : Option (Nat × Bool)} {x y : Operand} {u : AV}
theorem d_cat {a b : ByteArray} (h : DA P l fr fin sk ((k, .sc (.string (a ++ b))) :: acc) L) (hx : aev (frkA l.toArray acc fr af.toList) x = some (.sc (.string a)) := by rfl) (hy : aev (frkA l.toArray acc fr af.toList) y = some (.sc (.string b)) := by rfl) (hs : a.size + b.size ≤ 1000000 := by decide) (hg : GOA ⟨dd, .binOp .add t x y t', ty, pos, af, g⟩ acc := by first | trivial | rfl) : DA1 P l fr fin k .v ⟨dd, .binOp .add t x y t', ty, pos, af, g⟩ sk acc L := da_val hg (ofv (a_cat hx hy hs)) h
theorem d_conv {a : Int} {q q' : IntKind} {ti ti' : TI} (ok : TOk P tt) (h : DA P l fr fin sk ((k, .sc (.int q' (q'.wrap a))) :: acc) L) (hx : aev (frkA l.toArray acc fr af.toList) x = some (.sc (.int q a)) := by rfl) (ht : tlook tt t = some ti := by rfl) (hk : ti.k = .int q := by rfl) (ht' : tlook tt t' = some ti' := by rfl) (hk' : ti'.k = .int q' := by rfl) (hg : GOA ⟨dd, .convert t t' x, ty, pos, af, g⟩ acc := by first | trivial | rfl) : DA1 P l fr fin k .v ⟨dd, .convert t t' x, ty, pos, af, g⟩ sk acc L := by
  haveI := ok.int ht hk
  haveI := ok.int ht' hk'
  exact da_val hg (ofv (a_convert hx)) h
theorem d_byteS (ok : TOk P tt) {e by_ : Nat} {c : Int} {ti ti' : TI} (h : DA P l fr fin sk ((k, .sc (.string ⟨#[UInt8.ofNat c.toNat]⟩)) :: acc) L) (hx : aev (frkA l.toArray acc fr af.toList) x = some u := by rfl) (hu : immO u = some (1, [[.sc (.int .u8 c)]]) := by rfl) (ht : slI tt t = some (e, 1, by_) := by rfl) (he : tlook tt e = some ti := by rfl) (hk : ti.k = .int .u8 := by rfl) (ht' : tlook tt t' = some ti' := by rfl) (hk' : ti'.k = .str := by rfl) (hg : GOA ⟨dd, .convert t t' x, ty, pos, af, g⟩ acc := by first | trivial | rfl) : DA1 P l fr fin k .v ⟨dd, .convert t t' x, ty, pos, af, g⟩ sk acc L :=
  da_val hg (ofv (a_byteS (slI_spec ok ht).1 (ok.int he hk) (ok.str ht' hk') hx (immO_spec hu))) h
theorem d_arr (ok : TOk P tt) (m : Nat) {n e sz : Nat} {q : IntKind} {cs : List AV} (h : DA P l fr fin sk ((k, .iptr (cs.drop (m * sz))) :: acc) L) (ht : arrI tt t = some (n, e, sz) := by rfl) (hx : aev (frkA l.toArray acc fr af.toList) x = some (.iptr cs) := by rfl) (hy : aev (frkA l.toArray acc fr af.toList) y = some (.sc (.int q (m : Int))) := by rfl) (hk : Nat.blt m n = true := by rfl) (hl : Nat.ble (m * sz) cs.length = true := by rfl) (hg : GOA ⟨dd, .indexAddr t x y, ty, pos, af, g⟩ acc := by first | trivial | rfl) : DA1 P l fr fin k .v ⟨dd, .indexAddr t x y, ty, pos, af, g⟩ sk acc L := by
  obtain ⟨h1, h2⟩ := arrI_spec ok ht
  exact da_val hg (ofv (a_arr h1 h2 hx hy (by simpa [Nat.blt_eq] using hk) (by simpa [Nat.ble_eq] using hl))) h
end
section
variable {P : Program} {l : List Oper} {fr : AFr} {fin : FinA} {sk : AkL} {acc : AFr} {L : AL} {k j : Nat} {dd : Option Tmp} {op : Op} {ty : TypeId} {pos : String} {af : Array Edge} {b want : Bool}
theorem da_noF (hj : lvA acc j = .sc (.bool b)) (hb : (b == want) = false) (hn : DA P l fr fin sk ((k, .sc undef) :: acc) L) : DA1 P l fr fin k .f ⟨dd, op, ty, pos, af, some (j, want)⟩ sk acc L := by
  intro ho
  obtain ⟨pl, hpl⟩ := hn
  refine ⟨.eff k (fun c L' => c = .sc undef ∧ L' = L) fun _ _ => pl, .f, sk, _, .inr (.inr ⟨rfl, fun c L' ⟨_, h2⟩ hK => by rw [h2]; exact hK⟩), rfl, ho, .inr ⟨⟨_, hj, fun e => by injection e with e; subst e; simp at hb⟩, rfl, rfl⟩, fun c L' ⟨h1, h2⟩ => by rw [h1, h2]; exact hpl⟩
end
end Go.Proofs.YtpbinloeemebkaaGreat

namespace Go.Proofs.YtpbinloeemebkaaGreat
structure MS where
  a : Nat
  lo : Fin 3
abbrev DM (α : Type) := MS → α × MS
section
variable {α β : Type}
def ret (x : α) : DM α := fun m => (x, m)
def bnd (g : DM α) (k : α → DM β) : DM β := fun m => k (g m).1 (g m).2
def runs (g : Nat → β → DM β) (b : β) : Nat → DM β
  | 0 => ret b
  | k + 1 => bnd (runs g b k) (g k)
end
def draw (s : List Int) (a : Nat) (n : Int) : Int := match s[a]? with
  | some x => x % n
  | none => 0
def dr (s : List Int) (n : Int) : DM Int := fun m => (draw s m.a n, { m with a := m.a + 1 })
def less : DM Unit := fun m => ((), { m with lo := ⟨m.lo.val - 1, Nat.lt_of_le_of_lt (Nat.sub_le ..) m.lo.isLt⟩ })
def loopsAre (z : Fin 3) : DM Unit := fun m => ((), { m with lo := z })
def loopsD : DM Int := fun m => ((m.lo.val : Int), m)
section
variable (s : List Int)
def ptD (p : Nat) : DM FPoint := bnd (dr s 21) fun x => bnd (dr s 21) fun y => if p = 0 then ret ⟨x * 50 - 100, y * 50 - 200, true⟩ else bnd (dr s 4) fun z => ret ⟨x * 50 - 100, y * 50 - 200, decide (0 < z)⟩
def ptsD (l : List FPoint) (k : Nat) : DM (List FPoint) := runs (fun p l => bnd (ptD s p) fun t => ret (l ++ [t])) l k
def outsD (n : Nat) : DM (List FPoint × List Int) := runs (fun _ o => bnd (dr s 4) fun k => bnd (ptsD s o.1 (2 + k).toNat) fun l => ret (l, o.2 ++ [(l.length : Int) - 1])) ([], []) n
def outlineD : DM (List FPoint × List Int) := bnd (dr s 3) fun n => outsD s n.toNat
def sizesD (q : Int) : DM (List FIns) := ret [⟨39, 0⟩, ⟨1, 16⟩, ⟨17, 0⟩, ⟨36, 2⟩, ⟨1, q⟩, ⟨2, 0⟩]
def pieceD (n funcs : Int) : DM (List FIns) := bnd (dr s (n + 1)) fun p => bnd (dr s (n + 1)) fun q => bnd (dr s 2) fun a => bnd (dr s 12) fun k =>
  if k = 0 then ret [⟨22, a⟩, ⟨23, a⟩]
  else if k = 1 then bnd (dr s 6) fun z => ret [⟨24, z⟩]
  else if k = 2 ∨ k = 3 then ret [⟨1, p⟩, ⟨1, p⟩, ⟨29, 0⟩, ⟨15, 0⟩, ⟨32, 0⟩]
  else if k = 4 then bnd (dr s 200) fun z => ret [⟨1, p⟩, ⟨1, z - 100⟩, ⟨31, 0⟩]
  else if k = 5 then ret [⟨1, p⟩, ⟨1, q⟩, ⟨33, 0⟩]
  else if k = 6 then ret [⟨34, a⟩]
  else if k = 7 then ret [⟨1, a⟩, ⟨1, q⟩, ⟨25, 0⟩, ⟨1, 3⟩, ⟨5, 0⟩, ⟨26, 0⟩]
  else if k = 8 then (if 0 < funcs then bnd (dr s funcs) fun z => ret [⟨37, z⟩] else sizesD q)
  else if k = 9 then (if 0 < funcs then bnd loopsD fun lo => if 0 < lo then bnd less fun _ => bnd (dr s 5) fun y => bnd (dr s funcs) fun z => ret [⟨1, y⟩, ⟨38, z⟩] else sizesD q else sizesD q)
  else if k = 10 then ret [⟨1, p⟩, ⟨30, 0⟩, ⟨1, q⟩, ⟨29, 0⟩, ⟨16, 0⟩, ⟨36, 3⟩, ⟨1, q⟩, ⟨1, 64⟩, ⟨31, 0⟩]
  else sizesD q
def piecesD (n funcs : Int) (k : Nat) : DM (List FIns) := runs (fun _ l => bnd (pieceD s n funcs) fun p => ret (l ++ p)) [] k
def hintD (n funcs most : Int) : DM (List FIns) := bnd (dr s most) fun k => piecesD s n funcs k.toNat
def moreD (a : Int) (k : Nat) : DM (List Int) := runs (fun j l => if l.length < 4 then bnd (dr s 3) fun z => ret (if z = 0 then l ++ [a + 1 + j] else l) else ret l) [a] k
def setD (n : Int) : DM (List Int) := bnd (dr s n) fun a => moreD s a (n - (a + 1)).toNat
def rowsD (n : Int) (k : Nat) : DM (List (List Int)) := runs (fun _ l => bnd (setD s n) fun x => ret (l ++ [x])) [] k
def rowD (n most : Int) : DM (List (List Int)) := bnd (dr s (most + 1)) fun k => rowsD s n k.toNat
def outD (n : Int) (k : Nat) : DM (List Int) := runs (fun _ l => bnd (dr s n) fun x => ret (l ++ [x])) [] k
def callsD (n : Int) (calls : List Int) (k : Nat) : DM (List FCall) := runs (fun _ l => bnd (dr s n) fun a => bnd (dr s calls.length) fun z => ret (l ++ [⟨a, calls.getD z.toNat 0⟩])) [] k
def pairD (n : Int) (a : List Int) : DM FRule := bnd (setD s n) fun b => bnd (dr s 41) fun x => ret ⟨[], [a, b], [], [], [], x * 10 - 200⟩
def sidesD (n : Int) : DM (List (List Int) × List (List Int)) := bnd (dr s 2) fun z => if z = 0 then bnd (rowD s n 2) fun b => bnd (rowD s n 2) fun c => ret (b, c) else ret ([], [])
def ruleD (n kind : Int) (calls : List Int) : DM FRule := bnd (setD s n) fun a => if kind = 6 then pairD s n a else bnd (sidesD s n) fun e =>
  if kind = 1 ∨ kind = 5 then bnd (outD s n a.length) fun o => ret ⟨e.1, [a], e.2, o, [], 0⟩
  else if kind = 2 then bnd (dr s 4) fun k => bnd (outD s n k.toNat) fun o => ret ⟨e.1, [a], e.2, o, [], 0⟩
  else if kind = 3 then bnd (rowD s n 2) fun m => bnd (dr s n) fun o => ret ⟨e.1, a :: m, e.2, [o], [], 0⟩
  else bnd (rowD s n 2) fun m => bnd (dr s 3) fun k => bnd (callsD s (a :: m).length calls (if calls.length = 0 then 0 else k.toNat)) fun c => ret ⟨e.1, a :: m, e.2, [], c, 0⟩
def kindsL : List Int := [1, 2, 3, 4, 4, 5, 6, 7, 8, 1]
def headsD (k : Nat) : DM (List FLookup × List Int) := runs (fun i o => bnd (dr s 10) fun z => bnd (dr s 3) fun y => ret (o.1 ++ [⟨kindsL.getD z.toNat 0, decide (y = 0), []⟩], if kindsL.getD z.toNat 0 ≤ 4 then o.2 ++ [(i : Int)] else o.2)) ([], []) k
def rulesD (n kind : Int) (calls : List Int) (k : Nat) : DM (List FRule) := runs (fun _ l => bnd (ruleD s n kind calls) fun r => ret (l ++ [r])) [] k
def fillD (n : Int) (calls : List Int) (l : List FLookup) (k : Nat) : DM (List FLookup) := runs (fun i l => match l[i]? with
  | none => ret l
  | some q => if q.Kind ≥ 7 then ret l else bnd (dr s 3) fun k => bnd (rulesD s n q.Kind calls (1 + k).toNat) fun rs => ret (l.set i { q with Rules := rs })) l k
def lookupsD (n : Int) : DM (List FLookup) := bnd (dr s 7) fun k => bnd (headsD s k.toNat) fun o => fillD s n o.2 o.1 k.toNat
def bytes (l : List UInt8) : ByteArray := ⟨l.toArray⟩
def letter (p : List UInt8) (n : Nat) : ByteArray := bytes (p ++ [(97 + n).toUInt8])
def gNm : List UInt8 := [103]
def axNm : List UInt8 := [97, 120]
def notdef : ByteArray := bytes [46, 110, 111, 116, 100, 101, 102]
def glyphName (n : Nat) : ByteArray := if n = 0 then notdef else letter gNm n
def partsD (n : Nat) : DM (List FPart) := if 1 < n then bnd (dr s 4) fun z => if z = 0 then bnd (dr s 9) fun x => bnd (dr s 5) fun y => ret [⟨1, x * 50 - 200, y * 50⟩] else ret [] else ret []
def anchL (cl : Int) : List (Int × Int) := [(1, 0), (1, 1), (3, 0), (4, 0), (2, cl)]
def anchorsD (mark : Bool) (cl : Int) (k : Nat) : DM (List FAnchor) := runs (fun i l => bnd (dr s 3) fun z => if z = 0 ∧ (((anchL cl).getD i (0, 0)).1 ≠ 2 ∨ mark = true) then bnd (dr s 21) fun x => bnd (dr s 21) fun y => ret (l ++ [⟨((anchL cl).getD i (0, 0)).1, ((anchL cl).getD i (0, 0)).2, x * 50, y * 50 - 200⟩]) else ret l) [] k
def deltaD (r : Nat) (l : List FDelta) (k : Nat) : DM (List FDelta) := runs (fun p l => bnd (dr s 3) fun z => if z = 0 then bnd (dr s 41) fun x => if p = 0 then ret (l ++ [⟨r, -1, x - 20, 0⟩]) else bnd (dr s 41) fun y => ret (l ++ [⟨r, (p : Int) - 1, x - 20, y - 20⟩]) else ret l) l k
def deltasD (pts : Nat) (R : Nat) : DM (List FDelta) := runs (fun r l => deltaD s r l (pts + 1)) [] R
def glyphD (R fn n : Nat) : DM FGlyph := bnd (dr s 19) fun ad => bnd (dr s 4) fun mk => bnd (outlineD s) fun o => bnd (partsD s n) fun ps => bnd (dr s 2) fun cl => bnd (anchorsD s (decide (mk = 0) && decide (n ≠ 0)) cl 5) fun an => bnd (deltasD s o.1.length R) fun de => bnd (loopsAre 2) fun _ => bnd (hintD s o.1.length fn 6) fun h => ret ⟨glyphName n, 100 + ad * 50, decide (mk = 0) && decide (n ≠ 0), o.1, o.2, ps, an, de, h⟩
def glyphsD (R fn k : Nat) : DM (List FGlyph) := runs (fun i l => bnd (glyphD s R fn i) fun g => ret (l ++ [g])) [] k
def axesD (k : Nat) : DM (List FAxis) := runs (fun i l => bnd (dr s 3) fun a => bnd (dr s 4) fun b => ret (l ++ [⟨letter axNm i, 0 - a * 100, 0, b * 100⟩])) [] k
def tentsL : List FTent := [⟨0, 64, 64⟩, ⟨0, 32, 64⟩, ⟨-64, -64, 0⟩, ⟨-1, 0, 5⟩, ⟨10, 32, 50⟩]
def tentsD (k : Nat) : DM (List FTent) := runs (fun _ l => bnd (dr s 5) fun z => ret (l ++ [tentsL.getD z.toNat ⟨0, 0, 0⟩])) [] k
def regsD (axes k : Nat) : DM (List (List FTent)) := runs (fun _ l => bnd (tentsD s axes) fun r => ret (l ++ [r])) [] k
def regionsD (axes : Nat) : DM (List (List FTent)) := if axes = 0 then ret [] else bnd (dr s 4) fun n => regsD s axes n.toNat
def funcsD (k : Nat) : DM (List (List FIns)) := runs (fun i l => bnd (loopsAre 0) fun _ => bnd (hintD s 6 i 4) fun h => ret (l ++ [h])) [] k
def cvtD (k : Nat) : DM (List Int) := runs (fun _ l => bnd (dr s 500) fun z => ret (l ++ [z - 100])) [] k
def runesL : List Int := [97, 98, 99, 102, 105, 108, 57345, 57346, 57601, 57602, 57603, 57857, 57861, 58113, 58114, 58369]
def charsD (n : Int) (k : Nat) : DM (List FChar) := runs (fun i l => bnd (dr s 4) fun z => if 0 < z then bnd (dr s n) fun g => ret (l ++ [⟨runesL.getD i 0, g⟩]) else ret l) [] k
def namesL : List ByteArray := [bytes [108, 105, 103, 97], bytes [105, 115, 111, 108], bytes [105, 110, 105, 116], bytes [109, 101, 100, 105], bytes [102, 105, 110, 97], bytes [107, 101, 114, 110], bytes [109, 97, 114, 107], bytes [99, 97, 108, 116]]
def askD (k : Nat) : DM (List Int) := runs (fun i l => bnd (dr s 3) fun z => ret (if z = 0 then l ++ [(i : Int)] else l)) [] k
def featsD (n : Nat) (k : Nat) : DM (List FFeature) := runs (fun i l => bnd (askD s n) fun r => bnd (dr s 2) fun z => ret (if z = 0 then l ++ [⟨namesL.getD i ByteArray.empty, r⟩] else l)) [] k
def unitsL : List Int := [1000, 1024, 100, 2048]
def madeD : DM FFont := bnd (dr s 4) fun u => bnd (dr s 3) fun k => bnd (axesD s k.toNat) fun ax => bnd (regionsD s k.toNat) fun rg => bnd (dr s 3) fun k2 => bnd (funcsD s k2.toNat) fun fu => bnd (dr s 4) fun k3 => bnd (cvtD s k3.toNat) fun cv => bnd (dr s 9) fun k4 => bnd (glyphsD s rg.length fu.length (2 + k4).toNat) fun gl => bnd (charsD s gl.length 16) fun ch => bnd (lookupsD s gl.length) fun lk => bnd (featsD s lk.length 8) fun ft => ret ⟨unitsL.getD u.toNat 0, gl, ch, lk, ft, ax, rg, fu, cv⟩
def madeF : FFont := (madeD s ⟨0, 0⟩).1
def textL : List Int := runesL ++ [122]
def textF : List Int := (s.take 20).map fun z => textL.getD (z % 17).toNat 0
end
end Go.Proofs.YtpbinloeemebkaaGreat

namespace Go.Proofs.YtpbinloeemebkaaGreat
open Go.RowKit
attribute [local irreducible] AT ATL AX AO Av Kt ALoopK OkA DA DA1
def askN (fs : List ByteArray) (l : List FFeature) : List Int := (l.map fun t => if hasS fs t.Name then t.Lookups else []).flatten
theorem askN_add (fs : List ByteArray) (l : List FFeature) (i : Nat) {t : FFeature} (h : l[i]? = some t) : askN fs (l.take (i + 1)) = askN fs (l.take i) ++ (if hasS fs t.Name then t.Lookups else []) := by
  unfold askN
  rw [List.take_add_one, h, List.map_append, List.flatten_append]
  simp
theorem askN_mem {fs : List ByteArray} {l : List FFeature} {z : Int} : z ∈ askN fs l ↔ ∃ t ∈ l, hasS fs t.Name = true ∧ z ∈ t.Lookups := by
  unfold askN
  rw [List.mem_flatten]
  constructor
  · rintro ⟨q, hq, hz⟩
    rw [List.mem_map] at hq
    obtain ⟨t, ht, rfl⟩ := hq
    refine ⟨t, ht, ?_⟩
    split at hz
    · exact ⟨by assumption, hz⟩
    · cases hz
  · rintro ⟨t, ht, h1, h2⟩
    exact ⟨_, List.mem_map.2 ⟨t, ht, rfl⟩, by rw [if_pos h1]; exact h2⟩
def CallsIn (f : FFont) (l : List Int) (cs : List FCall) : Prop := ∀ c ∈ cs, callN f c.Lookup = true → c.Lookup ∈ l
def RulesIn (f : FFont) (l : List Int) (rs : List FRule) : Prop := ∀ r ∈ rs, CallsIn f l r.Calls
structure LkWay (f : FFont) (fs : List ByteArray) (l : List Int) (i : Nat) : Prop where
  reach : ∀ z ∈ l, Reach f fs z
  nodup : l.Nodup
  base : ∀ z ∈ askN fs f.Features, 0 ≤ z → z < f.Lookups.length → z ∈ l
  done : ∀ j < i, ∀ z, l[j]? = some z → ∀ x, f.Lookups[z.toNat]? = some x → x.Kind = 4 → RulesIn f l x.Rules
theorem CallsIn.mono {f : FFont} {l k : List Int} {cs : List FCall} (h : CallsIn f l cs) (hs : ∀ z ∈ l, z ∈ k) : CallsIn f k cs := fun c hc hn => hs _ (h c hc hn)
theorem RulesIn.mono {f : FFont} {l k : List Int} {rs : List FRule} (h : RulesIn f l rs) (hs : ∀ z ∈ l, z ∈ k) : RulesIn f k rs := fun r hr => (h r hr).mono hs
theorem LkWay.add {f : FFont} {fs : List ByteArray} {l : List Int} {i : Nat} {n : Int} (h : LkWay f fs l i) (hn : Reach f fs n) (hl : n ∉ l) (hi : i ≤ l.length) : LkWay f fs (l ++ [n]) i where
  reach z hz := by
    rcases List.mem_append.1 hz with hz | hz
    · exact h.reach z hz
    · rw [List.mem_singleton.1 hz]; exact hn
  nodup := by
    rw [List.nodup_append]
    refine ⟨h.nodup, by simp, fun a ha b hb => ?_⟩
    rw [List.mem_singleton.1 hb]
    exact fun e => hl (e ▸ ha)
  base z hz h0 h1 := List.mem_append.2 (Or.inl (h.base z hz h0 h1))
  done j hj z hz x hx hk := by
    rw [List.getElem?_append_left (by omega)] at hz
    exact (h.done j hj z hz x hx hk).mono fun z hz => List.mem_append.2 (Or.inl hz)
theorem LkWay.end {f : FFont} {fs : List ByteArray} {l : List Int} (h : LkWay f fs l l.length) : setN l f.Lookups.length = reachN f fs := by
  refine setN_reach fun z h0 h1 => ⟨h.reach z, fun hr => ?_⟩
  clear h0 h1
  induction hr with
  | base ht hn hm h0 h1 => exact h.base _ (askN_mem.2 ⟨_, ht, hn, hm⟩) h0 h1
  | call hm hl hk hr hc hn ih =>
    obtain ⟨j, hj⟩ := List.mem_iff_getElem?.1 ih
    exact h.done j (List.getElem?_eq_some_iff.1 hj).1 _ hj _ hl hk _ hr _ hc hn
theorem LkWay.next {f : FFont} {fs : List ByteArray} {l : List Int} {i : Nat} {z : Int} {x : FLookup} (h : LkWay f fs l i) (hz : l[i]? = some z) (hx : f.Lookups[z.toNat]? = some x) (hd : x.Kind = 4 → RulesIn f l x.Rules) : LkWay f fs l (i + 1) where
  reach := h.reach
  nodup := h.nodup
  base := h.base
  done j hj y hy w hw hk := by
    by_cases e : j = i
    · subst e
      rw [hz] at hy
      injection hy with hy
      subst hy
      rw [hx] at hw
      injection hw with hw
      subst hw
      exact hd hk
    · exact h.done j (by omega) y hy w hw hk
end Go.Proofs.YtpbinloeemebkaaGreat

namespace Go.Proofs.YtpbinloeemebkaaGreat
open Go.RowKit
attribute [local irreducible] AT ATL AX AO Av Kt ALoopK OkA DA DA1
def flags (l : List Int) (n : Nat) : List AV := (List.range n).map fun (i : Nat) => Bol (l.contains (i : Int))
theorem flags_len (l : List Int) (n : Nat) : (flags l n).length = n := by simp [flags]
theorem flags_get (l : List Int) (n : Nat) {z : Int} (h0 : 0 ≤ z) (h1 : z < n) : (flags l n)[0 + z.toNat * 1]? = some (Bol (l.contains z)) := by
  rw [Nat.zero_add, Nat.mul_one]
  unfold flags
  rw [List.getElem?_map, List.getElem?_range (by omega)]
  simp only [Option.map_some]
  rw [show ((z.toNat : Nat) : Int) = z by omega]
theorem flags_set (l : List Int) (n : Nat) {z : Int} (h0 : 0 ≤ z) (h1 : z < n) : (flags l n).set (0 + z.toNat * 1) (Bol true) = flags (l ++ [z]) n := by
  rw [Nat.zero_add, Nat.mul_one]
  apply List.ext_getElem?
  intro i
  rw [List.getElem?_set, flags_len]
  unfold flags
  by_cases hi : z.toNat = i
  · subst hi
    rw [if_pos rfl, if_pos (by omega), List.getElem?_map, List.getElem?_range (by omega)]
    simp
    omega
  · rw [if_neg hi, List.getElem?_map, List.getElem?_map]
    by_cases hn : i < n
    · rw [List.getElem?_range hn]
      simp only [Option.map_some, Option.some.injEq]
      refine congrArg Bol ?_
      rw [Bool.eq_iff_iff, List.contains_iff_mem, List.contains_iff_mem, List.mem_append, List.mem_singleton]
      constructor
      · exact Or.inl
      · rintro (h | h)
        · exact h
        · omega
    · rw [List.getElem?_eq_none (by simp; omega)]
      rfl
theorem flags_nil (n : Nat) : (List.replicate n [Bol false]).flatten = flags [] n := by
  have : ∀ m, (List.replicate m [Bol false]).flatten = List.replicate m (Bol false) := by
    intro m
    induction m with
    | zero => rfl
    | succ m ih => rw [List.replicate_succ, List.flatten_cons, ih, List.replicate_succ]; rfl
  rw [this]
  unfold flags
  apply List.ext_getElem?
  intro i
  rw [List.getElem?_replicate, List.getElem?_map]
  by_cases h : i < n
  · rw [if_pos h, List.getElem?_range h]; rfl
  · rw [if_neg h, List.getElem?_eq_none (by simp; omega)]; rfl
def addOne (n : Nat) (l : List Int) (z : Int) : List Int := if 0 ≤ z ∧ z < n ∧ z ∉ l then l ++ [z] else l
def addN (n : Nat) (l ns : List Int) : List Int := ns.foldl (addOne n) l
theorem addN_take {n : Nat} {l ns : List Int} {i : Nat} {z : Int} (h : ns[i]? = some z) : addN n l (ns.take (i + 1)) = addOne n (addN n l (ns.take i)) z := by
  unfold addN
  rw [List.take_add_one, h, List.foldl_append]
  rfl
structure SetOk (n : Nat) (l : List Int) : Prop where
  nodup : l.Nodup
  dom : ∀ z ∈ l, 0 ≤ z ∧ z < n
theorem SetOk.len {n : Nat} {l : List Int} (h : SetOk n l) : l.length ≤ n := nodup_le h.nodup h.dom
theorem SetOk.nil {n : Nat} : SetOk n [] := ⟨by simp, by simp⟩
theorem SetOk.one {n : Nat} {l : List Int} (h : SetOk n l) (z : Int) : SetOk n (addOne n l z) := by
  unfold addOne
  split
  · rename_i hz
    refine ⟨?_, fun y hy => ?_⟩
    · rw [List.nodup_append]
      refine ⟨h.nodup, by simp, fun a ha b hb => ?_⟩
      rw [List.mem_singleton.1 hb]
      exact fun e => hz.2.2 (e ▸ ha)
    · rcases List.mem_append.1 hy with hy | hy
      · exact h.dom y hy
      · rw [List.mem_singleton.1 hy]; exact ⟨hz.1, hz.2.1⟩
  · exact h
theorem SetOk.add {n : Nat} {l : List Int} (h : SetOk n l) (ns : List Int) : SetOk n (addN n l ns) := by
  unfold addN
  induction ns generalizing l with
  | nil => exact h
  | cons z ns ih => exact ih (h.one z)
def setLk (p b n : Nat) (k : Option (Nat × Nat)) (l : List Int) : AL := (p, .box [.sc (.slice (some ⟨b, 0, none⟩) n n), .vec k 1 (ints l)] 123) :: (b, .box (flags l n) 4) :: tok k 81 1 (ints l).length
abbrev Ptr (p : Nat) : AV := .sc (.pointer (some ⟨p, 0, none⟩))
theorem newLk (n : Nat) (hn : n ≤ 1000000) : AC Tryz.prog 26 [I64 n] [] fun c L => ∃ p b, c = Ptr p ∧ L = setLk p b n none [] := by
  refine ac_of Tryz.func26 rfl Tryz.ntmps26 rfl fun B => ?_
  (repeat' (first|refine at_seq ?_|refine at_region ?_|refine ax_then ?_|refine atl_nil ?_|refine n_run ttok rfl rfl ?_|fail))
  refine n_make ttok n rfl rfl rfl rfl rfl rfl rfl (by omega) (by omega) rfl fun b => ?_
  rw [show (List.replicate n (List.map AV.sc [Value.bool false])).flatten = flags [] n from flags_nil n]
  (repeat' (first|refine at_ret ?_|refine ax_then ?_|refine atl_nil ?_|refine n_run ttok rfl rfl ?_|refine n_box fun _=>?_|fail))
  refine ax_turn (turn_cells 0 (cs' := [.sc (.slice (some ⟨b, 0, none⟩) n n), .vec none 1 []]) rfl fun σ vs h => ?_) (ax_ret1 rfl rfl ⟨_, b, rfl, rfl⟩)
  obtain ⟨v, ws, rfl, h1, h2⟩ := h.inv
  obtain ⟨v', ws', rfl, h3, h4⟩ := h2.inv
  exact .cons h1 (.cons (vr_nil 1 h3) h4)
theorem addLk (p b n : Nat) (k : Option (Nat × Nat)) (l ns : List Int) (hn : n ≤ 1000000) (hl : SetOk n l) : AC Tryz.prog 27 [Ptr p, .imm 1 (ints ns)] (setLk p b n k l) fun _ L => ∃ k', L = setLk p b n k' (addN n l ns) := by
  refine ac_of Tryz.func27 rfl Tryz.ntmps27 rfl fun B => ?_
  refine at_len 1 rfl rfl fun hlen => ?_
  rw [ints_len] at hlen
  (repeat' (first|refine at_seq ?_|refine at_region ?_|refine at_block ?_|refine ax_then ?_|refine atl_nil ?_|refine n_run ttok rfl rfl ?_|fail))
  refine at_loopK [0, 6, 7] (α := Nat × Option (Nat × Nat)) (fun x => [(8, I64 x.1)]) (fun x => x.1 ≤ ns.length) (fun x => setLk p b n x.2 (addN n l (ns.take x.1))) (fun x => ns.length - x.1) (0, k) rfl ⟨rfl, trivial⟩ (Nat.zero_le _) (fun _ _ h => h) ?_
  rintro ⟨i, k⟩ hi
  dsimp only at hi ⊢
  have hok := hl.add (ns.take i)
  have hok1 := hok.len
  try dsimp only [List.cons_append, List.nil_append, List.map_cons, List.map_nil]
  (repeat' (first|refine at_seq ?_|refine at_region ?_|refine ax_then ?_|refine atl_nil ?_|refine n_run ttok rfl rfl ?_|fail))
  refine at_cond rfl (fun h => ?_) (fun h => ?_)
  · have hil : i < ns.length := by have := of_decide_eq_true h; simp [ints_len] at this; omega
    obtain ⟨z, hz⟩ : ∃ z, ns[i]? = some z := ⟨_, List.getElem?_eq_getElem hil⟩
    have hzg := ints_get hz
    have had := addN_take (n := n) (l := l) hz
    generalize addN n l (ns.take i) = l1 at *
    (repeat' (first|refine at_seq ?_|refine at_region ?_|refine at_block ?_|refine at_skip ?_|refine ax_then ?_|refine atl_nil ?_|refine n_run ttok rfl rfl ?_|(apply s_index; first|refine n_index ttok ?_|refine n_indexP ttok ?_)|fail))
    refine atl_if [0, 5, 6, 7, 8] (0 ≤ z ∧ z < n ∧ z ∉ l1) rfl (fun Q' K => ?_) (fun hC => ?_) (fun hC => ?_)
    · by_cases hin : 0 ≤ z ∧ z < n
      · obtain ⟨hz0, hz1⟩ := hin
        have hfg := flags_get l1 n hz0 hz1
        clear had hok hl
        (repeat' (first|refine atl_nil ?_|refine n_run ttok rfl rfl ?_|refine atl_guard_yes rfl rfl ?_|refine atl_guard_no rfl rfl rfl rfl ?_|(apply s_load; first|refine n_load ttok 0 rfl rfl rfl rfl rfl ?_|refine n_load ttok 1 rfl rfl rfl rfl rfl ?_|refine n_load ttok 2 rfl rfl rfl rfl rfl ?_|refine n_load ttok 3 rfl rfl rfl rfl rfl ?_|refine n_loadA ttok 0 rfl rfl rfl rfl rfl ?_|refine n_loadA ttok 1 rfl rfl rfl rfl rfl ?_|refine n_loadA ttok 2 rfl rfl rfl rfl rfl ?_|refine n_load ttok 1 rfl rfl rfl (by assumption) rfl ?_|refine n_load ttok 0 rfl rfl rfl (by assumption) rfl ?_|fail)|(apply s_index; first|refine n_index ttok ?_|refine n_indexP ttok ?_)|refine atl_guard rfl rfl rfl (fun _ => ?_) (fun _ => ?_)|fail))
        all_goals exact K _ _ rfl rfl (by simp_all)
      · clear had hok hl
        (repeat' (first|refine atl_nil ?_|refine n_run ttok rfl rfl ?_|refine atl_guard_yes rfl rfl ?_|refine atl_guard_no rfl rfl rfl rfl ?_|(apply s_load; first|refine n_load ttok 0 rfl rfl rfl rfl rfl ?_|refine n_load ttok 1 rfl rfl rfl rfl rfl ?_|refine n_load ttok 2 rfl rfl rfl rfl rfl ?_|refine n_load ttok 3 rfl rfl rfl rfl rfl ?_|refine n_loadA ttok 0 rfl rfl rfl rfl rfl ?_|refine n_loadA ttok 1 rfl rfl rfl rfl rfl ?_|refine n_loadA ttok 2 rfl rfl rfl rfl rfl ?_|refine n_load ttok 1 rfl rfl rfl (by assumption) rfl ?_|refine n_load ttok 0 rfl rfl rfl (by assumption) rfl ?_|fail)|refine atl_guard rfl rfl rfl (fun _ => ?_) (fun _ => ?_)|fail))
        all_goals first
          | (refine K _ _ rfl rfl ?_; exact ⟨fun e => (by cases e), fun hh => absurd (And.intro hh.1 hh.2.1) hin⟩)
          | (rename_i e1 e2; exact absurd ⟨of_decide_eq_true e1, of_decide_eq_true e2⟩ hin)
    · obtain ⟨hz0, hz1, hz2⟩ := hC
      have had' : addN n l (ns.take (i + 1)) = l1 ++ [z] := by rw [had]; unfold addOne; rw [if_pos ⟨hz0, hz1, hz2⟩]
      (repeat' (first|refine at_seq ?_|refine at_region ?_|refine n_run ttok rfl rfl ?_|(apply s_load; first|refine n_load ttok 0 rfl rfl rfl rfl rfl ?_|refine n_load ttok 1 rfl rfl rfl rfl rfl ?_|refine n_load ttok 2 rfl rfl rfl rfl rfl ?_|refine n_load ttok 3 rfl rfl rfl rfl rfl ?_|refine n_loadA ttok 0 rfl rfl rfl rfl rfl ?_|refine n_loadA ttok 1 rfl rfl rfl rfl rfl ?_|refine n_loadA ttok 2 rfl rfl rfl rfl rfl ?_|refine n_load ttok 1 rfl rfl rfl (by assumption) rfl ?_|refine n_load ttok 0 rfl rfl rfl (by assumption) rfl ?_|fail)|(apply s_index; first|refine n_index ttok ?_|refine n_indexP ttok ?_)|fail))
      refine n_store ttok 1 rfl rfl rfl rfl rfl rfl (by rw [Nat.ble_eq, flags_len]; show _ + 1 ≤ n; omega) ?_
      rw [putA_one, flags_set l1 n hz0 hz1]
      (repeat' (first|refine at_region ?_|refine ax_then ?_|refine atl_nil ?_|refine n_run ttok rfl rfl ?_|(apply s_load; first|refine n_load ttok 0 rfl rfl rfl rfl rfl ?_|refine n_load ttok 1 rfl rfl rfl rfl rfl ?_|refine n_load ttok 2 rfl rfl rfl rfl rfl ?_|refine n_load ttok 3 rfl rfl rfl rfl rfl ?_|refine n_loadA ttok 0 rfl rfl rfl rfl rfl ?_|refine n_loadA ttok 1 rfl rfl rfl rfl rfl ?_|refine n_loadA ttok 2 rfl rfl rfl rfl rfl ?_|refine n_load ttok 1 rfl rfl rfl (by assumption) rfl ?_|refine n_load ttok 0 rfl rfl rfl (by assumption) rfl ?_|fail)|refine n_litI ttok ?_|fail))
      refine n_append ttok [(p, .box [.sc (.slice (some ⟨b, 0, none⟩) n n), .vec k 1 (ints l1)] 123), (b, .box (flags (l1 ++ [z]) n) 4)] rfl rfl rfl rfl (List.perm_append_comm (l₁ := [(p, AB.box [.sc (.slice (some ⟨b, 0, none⟩) n n), .vec k 1 (ints l1)] 123), (b, AB.box (flags (l1 ++ [z]) n) 4)])) (by rw [ints_len]; simp; omega) (by rw [ints_len]; simp; omega) rfl fun k' => ?_
      refine atl_turn (turn_perm List.perm_append_comm) ?_
      (repeat' (first|refine at_region ?_|refine ax_then ?_|refine ax_blk ?_|refine atl_nil ?_|refine n_run ttok rfl rfl ?_|(apply s_bin; refine n_bin ?_)|(apply s_store; first|refine n_store ttok 0 rfl rfl rfl rfl rfl rfl rfl ?_|refine n_store ttok 1 rfl rfl rfl rfl rfl rfl rfl ?_|refine n_store ttok 2 rfl rfl rfl rfl rfl rfl rfl ?_|refine n_store ttok 3 rfl rfl rfl rfl rfl rfl rfl ?_|fail)|fail))
      rw [show ints l1 ++ [[I64 z]] = ints (l1 ++ [z]) from ints_app l1 [z], ← had']
      refine ax_roundK (i + 1, k') rfl ⟨by rw [Int.natCast_add]; rfl, trivial⟩ (by dsimp only; omega) (by dsimp only; omega) (fun _ _ h => h)
    · have had' : addN n l (ns.take (i + 1)) = l1 := by rw [had]; unfold addOne; rw [if_neg hC]
      (repeat' (first|refine at_region ?_|refine at_skip ?_|refine ax_then ?_|refine ax_blk ?_|refine atl_nil ?_|refine n_run ttok rfl rfl ?_|(apply s_bin; refine n_bin ?_)|fail))
      refine ax_roundK (i + 1, k) rfl ⟨by rw [Int.natCast_add]; rfl, trivial⟩ (by dsimp only; omega) (by dsimp only; omega) (fun _ _ h => by dsimp only; rw [had']; exact h)
  · have hil : i = ns.length := by have := of_decide_eq_false h; simp [ints_len] at this; omega
    subst hil
    rw [List.take_length]
    (repeat' (first|refine at_exit ?_|refine ax_then_exit ?_|refine ax_blk_exit ?_|refine ax_loop_exit ?_|fail))
    exact ax_end0 rfl ⟨k, rfl⟩
end Go.Proofs.YtpbinloeemebkaaGreat

namespace Go.Proofs.YtpbinloeemebkaaGreat
open Go.RowKit
attribute [local irreducible] AT ATL AX AO Av Kt ALoopK OkA DA DA1
structure MF where
  u : AV
  gl : AV
  ch : AV
  lk : AV
  ft : AV
  ax : AV
  rg : AV
  fu : AV
  cv : AV
def mkC (s : List Int) (F : MF) (m : MS) : List AV := [.imm 1 (ints s), I64 (min m.a s.length : Nat), F.u, F.gl, F.ch, F.lk, F.ft, F.ax, F.rg, F.fu, F.cv, I64 (m.lo.val : Nat)]
abbrev mkB (b : Nat) (s : List Int) (F : MF) (m : MS) : Nat × AB := (b, .box (mkC s F m) 145)
def MDet (f : FuncId) (args : List AV) (s : List Int) (F : MF) {α : Type} (u : DM α) (out : α → AV) : Prop := ∀ (b : Nat) (m : MS), AC Tryz.prog f (Ptr b :: args) [mkB b s F m] fun c L => c = out (u m).1 ∧ L = [mkB b s F (u m).2]
theorem rem_rem {x n : Int} (hn : 0 < n) : (x.tmod n + n).tmod n = x % n := by
  have h0 := Int.lt_tmod_of_pos x hn
  rw [Int.tmod_eq_emod_of_nonneg (by omega), Int.add_emod_right]
  have h2 : (x.tmod n) % n = (x - n * x.tdiv n) % n := by rw [Int.tmod_def]
  rw [h2, Int.sub_mul_emod_self_left]
set_option maxHeartbeats 1000000 in
theorem next_mdet (s : List Int) (hs : s.length ≤ 1000000) (F : MF) (n : Int) (hn : 0 < n ∧ n ≤ 1000000) : MDet 62 [I64 n] s F (dr s n) I64 := by
  intro b m
  refine ac_of Tryz.func62 rfl Tryz.ntmps62 rfl fun B => ?_
  have hil := ints_len s
  unfold mkB
  (repeat' (first|refine at_seq ?_|refine at_region ?_|refine ax_then ?_|refine atl_nil ?_|refine n_run ttok rfl rfl ?_|fail))
  refine at_draw 9 [(0, .v), (1, .v), (2, .v), (3, .l), (4, .v), (5, .v), (6, .v), (7, .l), (8, .v)] none ?_ trivial rfl (by kernel_rfl) (by kernel_rfl) (by kernel_rfl) mixed (by kernel_rfl) rfl
  (repeat' (first|refine da_open ?_|refine d_run ttok ?_|refine d_load ttok 0 rfl rfl rfl rfl (by first|trivial|rfl) ?_|fail))
  refine da_end [0, 1, 9, 14] rfl rfl ?_
  (repeat' (first|refine ax_then ?_|refine atl_nil ?_|refine n_run ttok rfl rfl ?_|fail))
  refine at_cond rfl (fun h => ?_) (fun h => ?_)
  · have h1 : s.length ≤ min m.a s.length := by have := of_decide_eq_true h; rw [hil] at this; omega
    (repeat' (first|refine at_seq ?_|refine at_region ?_|refine at_ret ?_|refine ax_then ?_|refine ax_then_ret ?_|refine atl_nil ?_|refine n_run ttok rfl rfl ?_|fail))
    refine ax_ret1 rfl rfl ⟨?_, ?_⟩
    · unfold dr draw
      rw [List.getElem?_eq_none (show s.length ≤ m.a by omega)]
    · unfold dr mkC
      rw [show min m.a s.length = min (m.a + 1) s.length by omega]
  have h1 : m.a < s.length := by have := of_decide_eq_false h; rw [hil] at this; omega
  have h2 : min m.a s.length = m.a := by omega
  obtain ⟨x, hx⟩ : ∃ x, s[m.a]? = some x := ⟨_, List.getElem?_eq_getElem h1⟩
  have hxg := ints_get hx
  unfold mkC
  rw [h2]
  (repeat' (first|refine at_seq ?_|refine at_skip ?_|refine ax_then ?_|fail))
  refine at_draw 8 [(0, .v), (1, .v), (2, .v), (3, .l), (4, .v), (5, .v), (6, .v), (7, .l)] none ?_ trivial rfl (by kernel_rfl) (by kernel_rfl) (by kernel_rfl) mixed (by kernel_rfl) rfl
  (repeat' (first|refine da_open ?_|refine d_run ttok ?_|refine d_load ttok 0 rfl rfl rfl rfl (by first|trivial|rfl) ?_|fail))
  refine da_end [0, 1, 19, 23] rfl rfl ?_
  (repeat' (first|refine at_seq ?_|refine at_region ?_|refine ax_then ?_|refine atl_nil ?_|refine n_run ttok rfl rfl ?_|(apply s_load; first|refine n_load ttok 0 rfl rfl rfl rfl rfl ?_|refine n_load ttok 1 rfl rfl rfl rfl rfl ?_|refine n_load ttok 2 rfl rfl rfl rfl rfl ?_|refine n_load ttok 3 rfl rfl rfl rfl rfl ?_|refine n_loadA ttok 0 rfl rfl rfl rfl rfl ?_|refine n_loadA ttok 1 rfl rfl rfl rfl rfl ?_|refine n_loadA ttok 2 rfl rfl rfl rfl rfl ?_|refine n_load ttok 1 rfl rfl rfl (by assumption) rfl ?_|refine n_load ttok 0 rfl rfl rfl (by assumption) rfl ?_|fail)|(apply s_bin; refine n_bin ?_)|(apply s_index; first|refine n_index ttok ?_|refine n_indexP ttok ?_)|(apply s_store; first|refine n_store ttok 0 rfl rfl rfl rfl rfl rfl rfl ?_|refine n_store ttok 1 rfl rfl rfl rfl rfl rfl rfl ?_|refine n_store ttok 2 rfl rfl rfl rfl rfl rfl rfl ?_|refine n_store ttok 3 rfl rfl rfl rfl rfl rfl rfl ?_|fail)|fail))
  refine n_rem ?_
  (repeat' (first|refine n_run ttok rfl rfl ?_|fail))
  have hb := Int.lt_tmod_of_pos x hn.1
  have hb2 := Int.tmod_lt_of_pos x hn.1
  refine n_bin ?_
  (repeat' (first|refine n_run ttok rfl rfl ?_|fail))
  refine n_rem ?_
  (repeat' (first|refine at_ret ?_|refine ax_then ?_|refine atl_nil ?_|refine n_run ttok rfl rfl ?_|fail))
  refine ax_ret1 rfl rfl ⟨?_, ?_⟩
  · unfold dr draw
    rw [hx, rem_rem hn.1]
  · unfold dr
    dsimp only
    rw [show min (m.a + 1) s.length = m.a + 1 by omega]
    rfl
section
variable {r : Option Nat} {ops : Array Oper} {Q : Exit → Act → World → Prop} {nt : Nat} {D : List Deferred} {fr : AFr} {B : Bs} {rest : List Oper} {d : Nat} {ty : TypeId} {pos : String} {af : Array Edge} {s : List Int} {F : MF} {b : Nat} {m : MS} {Z : AL} {args : Array Operand} {ts : Array TypeId}
theorem n_md {f : FuncId} [CFn Tryz.prog f] {α : Type} {u : DM α} {out : α → AV} {az ds : List AV} (hc : MDet f az s F u out) (h : ATL Tryz.prog r ops Q nt D rest ((d, out (u m).1) :: fr) B (mkB b s F (u m).2 :: Z)) (hv : aevs fr args.toList = some ds := by rfl) (hi : imsF ds = some (Ptr b :: az) := by rfl) (hd : Nat.ble nt d = false := by rfl) : ATL Tryz.prog r ops Q nt D (⟨some d, .call ⟨.value (.func f), args, ts⟩, ty, pos, af, none⟩ :: rest) fr B (mkB b s F m :: Z) :=
  n_callA [mkB b s F m] Z (hc b m) hv hi (List.Perm.refl _) hd fun c L1 ⟨h1, h2⟩ => by subst h1; subst h2; exact h
theorem n_next {n : Int} (h : ATL Tryz.prog r ops Q nt D rest ((d, I64 (dr s n m).1) :: fr) B (mkB b s F (dr s n m).2 :: Z)) (hv : aevs fr args.toList = some [Ptr b, I64 n] := by rfl) (hs : s.length ≤ 1000000 := by assumption) (hn : 0 < n ∧ n ≤ 1000000 := by omega) (hd : Nat.ble nt d = false := by rfl) : ATL Tryz.prog r ops Q nt D (⟨some d, .call ⟨.value (.func 62), args, ts⟩, ty, pos, af, none⟩ :: rest) fr B (mkB b s F m :: Z) :=
  n_md (next_mdet s hs F n hn) h hv rfl hd
end
section
variable {l : List Oper} {fr : AFr} {fin : FinA} {sk : AkL} {acc : AFr} {k : Nat} {dd : Option Tmp} {ty : TypeId} {pos : String} {af : Array Edge} {g : Option (Nat × Bool)} {s : List Int} {F : MF} {b : Nat} {m : MS} {Z : AL} {args : Array Operand} {ts : Array TypeId}
theorem kept_nil {L : AL} : keptA [] L := fun q hq => by cases hq
theorem kept_cons {q : Nat × Nat × AV} {gs : KpL} {L : AL} (i : Nat) {cs : List AV} {e : TypeId} (hL : L[i]? = some (q.1, .box cs e)) (hc : cs[q.2.1]? = some q.2.2) (h : keptA gs L) : keptA (q :: gs) L := fun p hp => by
  rcases List.mem_cons.1 hp with rfl | hp
  · exact ⟨cs, e, List.mem_of_getElem? hL, hc⟩
  · exact h p hp
theorem d_md {f : FuncId} [CFn Tryz.prog f] {α : Type} {u : DM α} {out : α → AV} {az ds : List AV} (hc : MDet f az s F u out) (h : DA Tryz.prog l fr fin sk ((k, out (u m).1) :: acc) (mkB b s F (u m).2 :: Z)) (hv : aevs (frkA l.toArray acc fr af.toList) args.toList = some ds := by rfl) (hi : imsF ds = some (Ptr b :: az) := by rfl) (hg : GOA ⟨dd, .call ⟨.value (.func f), args, ts⟩, ty, pos, af, g⟩ acc := by first | trivial | rfl) : DA1 Tryz.prog l fr fin k .e ⟨dd, .call ⟨.value (.func f), args, ts⟩, ty, pos, af, g⟩ sk acc (mkB b s F m :: Z) :=
  d_callA [mkB b s F m] Z (hc b m) hv hi (List.Perm.refl _) hg fun c L1 ⟨h1, h2⟩ => by subst h1; subst h2; exact h
theorem d_mdK {f : FuncId} [CFn Tryz.prog f] {α : Type} {u : DM α} {out : α → AV} {az ds : List AV} (hc : MDet f az s F u out) (hK : keptA fin.gs (mkB b s F (u m).2 :: Z)) (h : DA Tryz.prog l fr fin sk ((k, out (u m).1) :: acc) (mkB b s F (u m).2 :: Z)) (hv : aevs (frkA l.toArray acc fr af.toList) args.toList = some ds := by rfl) (hi : imsF ds = some (Ptr b :: az) := by rfl) (hg : GOA ⟨dd, .call ⟨.value (.func f), args, ts⟩, ty, pos, af, g⟩ acc := by first | trivial | rfl) : DA1 Tryz.prog l fr fin k .f ⟨dd, .call ⟨.value (.func f), args, ts⟩, ty, pos, af, g⟩ sk acc (mkB b s F m :: Z) :=
  d_callK [mkB b s F m] Z (hc b m) hv hi (List.Perm.refl _) hg (fun c L1 ⟨_, h2⟩ _ => by subst h2; exact hK) fun c L1 ⟨h1, h2⟩ => by subst h1; subst h2; exact h
theorem d_next {n : Int} (h : DA Tryz.prog l fr fin sk ((k, I64 (dr s n m).1) :: acc) (mkB b s F (dr s n m).2 :: Z)) (hv : aevs (frkA l.toArray acc fr af.toList) args.toList = some [Ptr b, I64 n] := by rfl) (hs : s.length ≤ 1000000 := by assumption) (hn : 0 < n ∧ n ≤ 1000000 := by omega) (hg : GOA ⟨dd, .call ⟨.value (.func 62), args, ts⟩, ty, pos, af, g⟩ acc := by first | trivial | rfl) : DA1 Tryz.prog l fr fin k .e ⟨dd, .call ⟨.value (.func 62), args, ts⟩, ty, pos, af, g⟩ sk acc (mkB b s F m :: Z) :=
  d_md (next_mdet s hs F n hn) h hv rfl hg
theorem d_nextK {n : Int} (hK : keptA fin.gs (mkB b s F (dr s n m).2 :: Z)) (h : DA Tryz.prog l fr fin sk ((k, I64 (dr s n m).1) :: acc) (mkB b s F (dr s n m).2 :: Z)) (hv : aevs (frkA l.toArray acc fr af.toList) args.toList = some [Ptr b, I64 n] := by rfl) (hs : s.length ≤ 1000000 := by assumption) (hn : 0 < n ∧ n ≤ 1000000 := by omega) (hg : GOA ⟨dd, .call ⟨.value (.func 62), args, ts⟩, ty, pos, af, g⟩ acc := by first | trivial | rfl) : DA1 Tryz.prog l fr fin k .f ⟨dd, .call ⟨.value (.func 62), args, ts⟩, ty, pos, af, g⟩ sk acc (mkB b s F m :: Z) :=
  d_mdK (next_mdet s hs F n hn) hK h hv rfl hg
end
end Go.Proofs.YtpbinloeemebkaaGreat

namespace Go.Proofs.YtpbinloeemebkaaGreat
open Go.RowKit
attribute [local irreducible] AT ATL AX AO Av Kt ALoopK OkA DA DA1
variable (s : List Int) (hs : s.length ≤ 1000000) (F : MF)
include hs
theorem draw_bd (a : Nat) {n : Int} (hn : 0 < n) : 0 ≤ draw s a n ∧ draw s a n < n := by
  have _ := hs
  clear hs
  unfold draw
  split
  · rename_i x _
    exact ⟨Int.emod_nonneg x (by omega), Int.emod_lt_of_pos x hn⟩
  · omega
def outA (o : List FPoint × List Int) : AV := .agg [.imm 3 (o.1.map cPoint), .imm 1 (ints o.2)]
def insA (l : List FIns) : AV := .imm 2 (l.map cIns)
set_option maxHeartbeats 8000000 in
theorem piece_mdet (n fn : Int) (hn : 0 ≤ n ∧ n ≤ 10000) (hf : fn ≤ 10000) : MDet 121 [I64 n, I64 fn] s F (pieceD s n fn) insA := by
  intro b m
  refine ac_of Tryz.func121 rfl Tryz.ntmps121 rfl fun B => ?_
  (repeat' (first|refine at_seq ?_|refine at_region ?_|refine ax_then ?_|refine atl_nil ?_|refine n_run ttok rfl rfl ?_|(apply s_bin; refine n_bin ?_)|fail))
  refine n_next ?_
  (repeat' (first|refine at_seq ?_|refine at_region ?_|refine ax_then ?_|refine atl_nil ?_|refine n_run ttok rfl rfl ?_|(apply s_bin; refine n_bin ?_)|fail))
  refine n_next ?_
  (repeat' (first|refine at_seq ?_|refine at_region ?_|refine ax_then ?_|refine atl_nil ?_|refine n_run ttok rfl rfl ?_|fail))
  refine n_next ?_
  (repeat' (first|refine at_seq ?_|refine at_region ?_|refine ax_then ?_|refine atl_nil ?_|refine n_run ttok rfl rfl ?_|fail))
  refine n_next ?_
  generalize e1 : dr s (n + 1) m = p1
  generalize e2 : dr s (n + 1) p1.2 = p2
  generalize e3 : dr s 2 p2.2 = p3
  have hk := draw_bd s hs p3.2.a (n := 12) (by omega)
  have hk : 0 ≤ (dr s 12 p3.2).1 ∧ (dr s 12 p3.2).1 < 12 := hk
  generalize e4 : dr s 12 p3.2 = p4 at hk ⊢
  (repeat' (first|refine at_seq ?_|refine at_region ?_|refine at_block ?_|refine ax_then ?_|refine atl_nil ?_|refine n_run ttok rfl rfl ?_|fail))
  refine at_cond rfl (fun h => ?_) (fun h => ?_)
  · have h := of_decide_eq_true h
    (repeat' (first|refine at_seq ?_|refine at_region ?_|refine at_ret ?_|refine ax_then ?_|refine ax_then_ret ?_|refine ax_blk_ret ?_|refine atl_nil ?_|refine n_run ttok rfl rfl ?_|refine n_litI ttok ?_|fail))
    exact ax_ret1 rfl rfl ⟨by simp [pieceD, bnd, ret, e1, e2, e3, e4, insA, cIns, h], by simp [pieceD, bnd, ret, e1, e2, e3, e4, h]⟩
  have h0 := of_decide_eq_false h
  clear h
  (repeat' (first|refine at_seq ?_|refine at_region ?_|refine ax_then ?_|refine atl_nil ?_|refine n_run ttok rfl rfl ?_|fail))
  refine at_cond rfl (fun h => ?_) (fun h => ?_)
  · have h := of_decide_eq_true h
    (repeat' (first|refine at_seq ?_|refine at_region ?_|refine n_run ttok rfl rfl ?_|fail))
    refine n_next ?_
    (repeat' (first|refine at_ret ?_|refine ax_then ?_|refine ax_then_ret ?_|refine ax_blk_ret ?_|refine atl_nil ?_|refine n_run ttok rfl rfl ?_|refine n_litI ttok ?_|fail))
    exact ax_ret1 rfl rfl ⟨by simp [pieceD, bnd, ret, e1, e2, e3, e4, insA, cIns, h], by simp [pieceD, bnd, ret, e1, e2, e3, e4, h]⟩
  have h1 := of_decide_eq_false h
  clear h
  (repeat' (first|refine at_seq ?_|refine at_region ?_|refine ax_then ?_|refine atl_nil ?_|refine n_run ttok rfl rfl ?_|fail))
  refine at_cond rfl (fun h => ?_) (fun h => ?_)
  · have h := of_decide_eq_true h
    rw [decide_eq_true h]
    (repeat' (first|refine at_seq ?_|refine at_region ?_|refine at_skip ?_|refine at_ret ?_|refine ax_then ?_|refine ax_then_ret ?_|refine ax_blk_ret ?_|refine atl_nil ?_|refine n_run ttok rfl rfl ?_|refine n_litI ttok ?_|refine n_condT rfl ?_|fail))
    exact ax_ret1 rfl rfl ⟨by simp [pieceD, bnd, ret, e1, e2, e3, e4, insA, cIns, h], by simp [pieceD, bnd, ret, e1, e2, e3, e4, h]⟩
  have h2 := of_decide_eq_false h
  clear h
  (repeat' (first|refine at_region ?_|refine ax_then ?_|refine atl_nil ?_|refine n_run ttok rfl rfl ?_|fail))
  refine at_cond rfl (fun h => ?_) (fun h => ?_)
  · have h := of_decide_eq_true h
    (repeat' (first|refine at_seq ?_|refine at_region ?_|refine at_ret ?_|refine ax_then ?_|refine ax_then_ret ?_|refine ax_blk_ret ?_|refine atl_nil ?_|refine n_run ttok rfl rfl ?_|refine n_litI ttok ?_|fail))
    exact ax_ret1 rfl rfl ⟨by simp [pieceD, bnd, ret, e1, e2, e3, e4, insA, cIns, h], by simp [pieceD, bnd, ret, e1, e2, e3, e4, h]⟩
  have h3 := of_decide_eq_false h
  clear h
  (repeat' (first|refine at_seq ?_|refine at_region ?_|refine ax_then ?_|refine atl_nil ?_|refine n_run ttok rfl rfl ?_|fail))
  refine at_cond rfl (fun h => ?_) (fun h => ?_)
  · have h := of_decide_eq_true h
    (repeat' (first|refine at_seq ?_|refine at_region ?_|refine n_run ttok rfl rfl ?_|fail))
    refine n_next ?_
    have hz := draw_bd s hs p4.2.a (n := 200) (by omega)
    have hz : 0 ≤ (dr s 200 p4.2).1 ∧ (dr s 200 p4.2).1 < 200 := hz
    (repeat' (first|refine at_ret ?_|refine ax_then ?_|refine ax_then_ret ?_|refine ax_blk_ret ?_|refine atl_nil ?_|refine n_run ttok rfl rfl ?_|(apply s_bin; refine n_bin ?_)|refine n_litI ttok ?_|fail))
    exact ax_ret1 rfl rfl ⟨by simp [pieceD, bnd, ret, e1, e2, e3, e4, insA, cIns, h], by simp [pieceD, bnd, ret, e1, e2, e3, e4, h]⟩
  have h4 := of_decide_eq_false h
  clear h
  (repeat' (first|refine at_seq ?_|refine at_region ?_|refine ax_then ?_|refine atl_nil ?_|refine n_run ttok rfl rfl ?_|fail))
  refine at_cond rfl (fun h => ?_) (fun h => ?_)
  · have h := of_decide_eq_true h
    (repeat' (first|refine at_seq ?_|refine at_region ?_|refine at_ret ?_|refine ax_then ?_|refine ax_then_ret ?_|refine ax_blk_ret ?_|refine atl_nil ?_|refine n_run ttok rfl rfl ?_|refine n_litI ttok ?_|fail))
    exact ax_ret1 rfl rfl ⟨by simp [pieceD, bnd, ret, e1, e2, e3, e4, insA, cIns, h], by simp [pieceD, bnd, ret, e1, e2, e3, e4, h]⟩
  have h5 := of_decide_eq_false h
  clear h
  (repeat' (first|refine at_seq ?_|refine at_region ?_|refine ax_then ?_|refine atl_nil ?_|refine n_run ttok rfl rfl ?_|fail))
  refine at_cond rfl (fun h => ?_) (fun h => ?_)
  · have h := of_decide_eq_true h
    (repeat' (first|refine at_seq ?_|refine at_region ?_|refine at_ret ?_|refine ax_then ?_|refine ax_then_ret ?_|refine ax_blk_ret ?_|refine atl_nil ?_|refine n_run ttok rfl rfl ?_|refine n_litI ttok ?_|fail))
    exact ax_ret1 rfl rfl ⟨by simp [pieceD, bnd, ret, e1, e2, e3, e4, insA, cIns, h], by simp [pieceD, bnd, ret, e1, e2, e3, e4, h]⟩
  have h6 := of_decide_eq_false h
  clear h
  (repeat' (first|refine at_seq ?_|refine at_region ?_|refine ax_then ?_|refine atl_nil ?_|refine n_run ttok rfl rfl ?_|fail))
  refine at_cond rfl (fun h => ?_) (fun h => ?_)
  · have h := of_decide_eq_true h
    (repeat' (first|refine at_seq ?_|refine at_region ?_|refine at_ret ?_|refine ax_then ?_|refine ax_then_ret ?_|refine ax_blk_ret ?_|refine atl_nil ?_|refine n_run ttok rfl rfl ?_|refine n_litI ttok ?_|fail))
    exact ax_ret1 rfl rfl ⟨by simp [pieceD, bnd, ret, e1, e2, e3, e4, insA, cIns, h], by simp [pieceD, bnd, ret, e1, e2, e3, e4, h]⟩
  have h7 := of_decide_eq_false h
  clear h
  (repeat' (first|refine at_seq ?_|refine at_region ?_|refine ax_then ?_|refine atl_nil ?_|refine n_run ttok rfl rfl ?_|fail))
  refine at_cond rfl (fun h => ?_) (fun h => ?_)
  · have h := of_decide_eq_true h
    (repeat' (first|refine at_seq ?_|refine at_region ?_|refine ax_then ?_|refine atl_nil ?_|refine n_run ttok rfl rfl ?_|fail))
    refine at_cond rfl (fun hf0 => ?_) (fun hf0 => ?_)
    · have hf0 := of_decide_eq_true hf0
      (repeat' (first|refine at_seq ?_|refine at_region ?_|refine n_run ttok rfl rfl ?_|fail))
      refine n_next ?_
      (repeat' (first|refine at_ret ?_|refine ax_then ?_|refine ax_then_ret ?_|refine ax_blk_ret ?_|refine atl_nil ?_|refine n_run ttok rfl rfl ?_|refine n_litI ttok ?_|fail))
      exact ax_ret1 rfl rfl ⟨by simp [pieceD, bnd, ret, e1, e2, e3, e4, insA, cIns, h, hf0], by simp [pieceD, bnd, ret, e1, e2, e3, e4, h, hf0]⟩
    · have hf0 := of_decide_eq_false hf0
      (repeat' (first|refine at_seq ?_|refine at_region ?_|refine at_skip ?_|refine at_ret ?_|refine ax_then ?_|refine ax_blk ?_|refine atl_nil ?_|refine n_run ttok rfl rfl ?_|refine n_litI ttok ?_|fail))
      exact ax_ret1 rfl rfl ⟨by simp [pieceD, bnd, ret, e1, e2, e3, e4, insA, cIns, sizesD, h, hf0], by simp [pieceD, bnd, ret, e1, e2, e3, e4, sizesD, h, hf0]⟩
  have h8 := of_decide_eq_false h
  clear h
  (repeat' (first|refine at_seq ?_|refine at_region ?_|refine ax_then ?_|refine atl_nil ?_|refine n_run ttok rfl rfl ?_|fail))
  refine at_cond rfl (fun h => ?_) (fun h => ?_)
  · have h := of_decide_eq_true h
    by_cases hf0 : 0 < fn
    · (repeat' (first|refine at_seq ?_|refine at_region ?_|refine n_run ttok rfl rfl ?_|fail))
      rw [decide_eq_true hf0]
      (repeat' (first|refine ax_then ?_|refine atl_nil ?_|refine n_run ttok rfl rfl ?_|refine atl_guard_yes rfl rfl ?_|(apply s_load; first|refine n_load ttok 0 rfl rfl rfl rfl rfl ?_|refine n_load ttok 1 rfl rfl rfl rfl rfl ?_|refine n_load ttok 2 rfl rfl rfl rfl rfl ?_|refine n_load ttok 3 rfl rfl rfl rfl rfl ?_|refine n_loadA ttok 0 rfl rfl rfl rfl rfl ?_|refine n_loadA ttok 1 rfl rfl rfl rfl rfl ?_|refine n_loadA ttok 2 rfl rfl rfl rfl rfl ?_|refine n_load ttok 1 rfl rfl rfl (by assumption) rfl ?_|refine n_load ttok 0 rfl rfl rfl (by assumption) rfl ?_|fail)|fail))
      refine at_cond rfl (fun hl => ?_) (fun hl => ?_)
      · have hl := of_decide_eq_true hl
        (repeat' (first|refine at_seq ?_|refine at_region ?_|refine ax_then ?_|refine atl_nil ?_|refine n_run ttok rfl rfl ?_|(apply s_load; first|refine n_load ttok 0 rfl rfl rfl rfl rfl ?_|refine n_load ttok 1 rfl rfl rfl rfl rfl ?_|refine n_load ttok 2 rfl rfl rfl rfl rfl ?_|refine n_load ttok 3 rfl rfl rfl rfl rfl ?_|refine n_loadA ttok 0 rfl rfl rfl rfl rfl ?_|refine n_loadA ttok 1 rfl rfl rfl rfl rfl ?_|refine n_loadA ttok 2 rfl rfl rfl rfl rfl ?_|refine n_load ttok 1 rfl rfl rfl (by assumption) rfl ?_|refine n_load ttok 0 rfl rfl rfl (by assumption) rfl ?_|fail)|(apply s_bin; refine n_bin ?_)|(apply s_store; first|refine n_store ttok 0 rfl rfl rfl rfl rfl rfl rfl ?_|refine n_store ttok 1 rfl rfl rfl rfl rfl rfl rfl ?_|refine n_store ttok 2 rfl rfl rfl rfl rfl rfl rfl ?_|refine n_store ttok 3 rfl rfl rfl rfl rfl rfl rfl ?_|fail)|fail))
        have hlt := p4.2.lo.isLt
        have hlz : 0 < p4.2.lo.val := by omega
        have hcell : ((p4.2.lo.val : Nat) : Int) - 1 = ((p4.2.lo.val - 1 : Nat) : Int) := by omega
        rw [hcell]
        change ATL _ _ _ _ _ _ _ _ _ [mkB b s F (less p4.2).2]
        (repeat' (first|fail))
        refine n_next ?_
        (repeat' (first|refine n_run ttok rfl rfl ?_|fail))
        refine n_next ?_
        (repeat' (first|refine at_ret ?_|refine ax_then ?_|refine ax_then_ret ?_|refine ax_blk_ret ?_|refine atl_nil ?_|refine n_run ttok rfl rfl ?_|refine n_litI ttok ?_|fail))
        exact ax_ret1 rfl rfl ⟨by simp [pieceD, bnd, ret, e1, e2, e3, e4, insA, cIns, h, hf0, loopsD, hlz], by simp [pieceD, bnd, ret, e1, e2, e3, e4, h, hf0, loopsD, hlz]⟩
      · have hl := of_decide_eq_false hl
        have hl0 : p4.2.lo.val = 0 := by omega
        (repeat' (first|refine at_seq ?_|refine at_region ?_|refine at_skip ?_|refine at_ret ?_|refine ax_then ?_|refine ax_blk ?_|refine atl_nil ?_|refine n_run ttok rfl rfl ?_|refine n_litI ttok ?_|fail))
        exact ax_ret1 rfl rfl ⟨by simp [pieceD, bnd, ret, e1, e2, e3, e4, insA, cIns, sizesD, h, hf0, loopsD, hl0], by simp [pieceD, bnd, ret, e1, e2, e3, e4, sizesD, h, hf0, loopsD, hl0]⟩
    · (repeat' (first|refine at_seq ?_|refine at_region ?_|refine n_run ttok rfl rfl ?_|fail))
      rw [decide_eq_false hf0]
      (repeat' (first|refine at_seq ?_|refine at_region ?_|refine at_skip ?_|refine at_ret ?_|refine ax_then ?_|refine ax_blk ?_|refine atl_nil ?_|refine n_run ttok rfl rfl ?_|refine atl_guard_no rfl rfl rfl rfl ?_|refine n_litI ttok ?_|refine n_condF rfl ?_|fail))
      exact ax_ret1 rfl rfl ⟨by simp [pieceD, bnd, ret, e1, e2, e3, e4, insA, cIns, sizesD, h, hf0], by simp [pieceD, bnd, ret, e1, e2, e3, e4, sizesD, h, hf0]⟩
  have h9 := of_decide_eq_false h
  clear h
  (repeat' (first|refine at_seq ?_|refine at_region ?_|refine ax_then ?_|refine atl_nil ?_|refine n_run ttok rfl rfl ?_|fail))
  refine at_cond rfl (fun h => ?_) (fun h => ?_)
  · have h := of_decide_eq_true h
    (repeat' (first|refine at_seq ?_|refine at_region ?_|refine at_ret ?_|refine ax_then ?_|refine ax_then_ret ?_|refine ax_blk_ret ?_|refine atl_nil ?_|refine n_run ttok rfl rfl ?_|refine n_litI ttok ?_|fail))
    exact ax_ret1 rfl rfl ⟨by simp [pieceD, bnd, ret, e1, e2, e3, e4, insA, cIns, h], by simp [pieceD, bnd, ret, e1, e2, e3, e4, h]⟩
  have h10 := of_decide_eq_false h
  clear h
  (repeat' (first|refine at_seq ?_|refine at_region ?_|refine at_skip ?_|refine at_ret ?_|refine ax_then ?_|refine ax_blk ?_|refine atl_nil ?_|refine n_run ttok rfl rfl ?_|refine n_litI ttok ?_|fail))
  exact ax_ret1 rfl rfl ⟨by simp [pieceD, bnd, ret, e1, e2, e3, e4, insA, cIns, sizesD, h0, h1, h2, h3, h4, h5, h6, h7, h8, h9, h10], by simp [pieceD, bnd, ret, e1, e2, e3, e4, sizesD, h0, h1, h2, h3, h4, h5, h6, h7, h8, h9, h10]⟩
end Go.Proofs.YtpbinloeemebkaaGreat
