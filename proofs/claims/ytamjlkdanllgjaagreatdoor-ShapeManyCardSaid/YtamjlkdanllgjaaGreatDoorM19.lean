/-
  Fonts of plain numbers: what is made of them, as a plain function of the numbers.
-/
import Derived.Test.YtamjlkdanllgjaaGreatDoorM05
import Derived.Test.YtamjlkdanllgjaaGreatDoorM11
import Derived.Test.YtamjlkdanllgjaaGreatDoorM15
import Derived.Test.YtamjlkdanllgjaaGreatDoorM18
import Derived.Shelf.Slices.In.SortNone
import Derived.Shelf.Slices.In.SortAlone
import Derived.Ground.NamesProg
import Derived.Test.YtamjlkdanllgjaaGreatDoorProg
import Derived.Lib.SortBridge
namespace Go.Proofs.YtamjlkdanllgjaaGreatDoor
structure MS where
 a : Nat
 lo : Fin 3
abbrev DM (α : Type) := MS → α × MS
section
variable {α β : Type}
def fm (x : α) : DM α := fun m => (x, m)
def d7 (g : DM α) (k : α → DM β) : DM β := fun m => k (g m).1 (g m).2
def g7 (g : Nat → β → DM β) (b : β) : Nat → DM β
 | 0 => fm b
 | k + 1 => d7 (g7 g b k) (g k)
end
def Gc (s : List Int) (a : Nat) (n : Int) : Int := match s[a]? with
 | some x => x % n
 | none => 0
def dr (s : List Int) (n : Int) : DM Int := fun m => (Gc s m.a n, { m with a := m.a + 1 })
def Gg : DM Unit := fun m => ((), { m with lo := ⟨m.lo.val - 1, Nat.lt_of_le_of_lt (Nat.sub_le ..) m.lo.isLt⟩ })
def rN (z : Fin 3) : DM Unit := fun m => ((), { m with lo := z })
def Dv : DM Int := fun m => ((m.lo.val : Int), m)
section
variable (s : List Int)
def H7 (p : Nat) : DM f8 := d7 (dr s 21) fun x => d7 (dr s 21) fun y => if p = 0 then fm ⟨x * 50 - 100, y * 50 - 200, true⟩ else d7 (dr s 4) fun z => fm ⟨x * 50 - 100, y * 50 - 200, decide (0 < z)⟩
def Gu (l : List f8) (k : Nat) : DM (List f8) := g7 (fun p l => d7 (H7 s p) fun t => fm (l ++ [t])) l k
def Fm (n : Nat) : DM (List f8 × List Int) := g7 (fun _ o => d7 (dr s 4) fun k => d7 (Gu s o.1 (2 + k).toNat) fun l => fm (l, o.2 ++ [(l.length : Int) - 1])) ([], []) n
def yP : DM (List f8 × List Int) := d7 (dr s 3) fun n => Fm s n.toNat
def qL (q : Int) : DM (List eo) := fm [⟨39, 0⟩, ⟨1, 16⟩, ⟨17, 0⟩, ⟨36, 2⟩, ⟨1, q⟩, ⟨2, 0⟩]
def DR (n funcs : Int) : DM (List eo) := d7 (dr s (n + 1)) fun p => d7 (dr s (n + 1)) fun q => d7 (dr s 2) fun a => d7 (dr s 12) fun k =>
 if k = 0 then fm [⟨22, a⟩, ⟨23, a⟩]
 else if k = 1 then d7 (dr s 6) fun z => fm [⟨24, z⟩]
 else if k = 2 ∨ k = 3 then fm [⟨1, p⟩, ⟨1, p⟩, ⟨29, 0⟩, ⟨15, 0⟩, ⟨32, 0⟩]
 else if k = 4 then d7 (dr s 200) fun z => fm [⟨1, p⟩, ⟨1, z - 100⟩, ⟨31, 0⟩]
 else if k = 5 then fm [⟨1, p⟩, ⟨1, q⟩, ⟨33, 0⟩]
 else if k = 6 then fm [⟨34, a⟩]
 else if k = 7 then fm [⟨1, a⟩, ⟨1, q⟩, ⟨25, 0⟩, ⟨1, 3⟩, ⟨5, 0⟩, ⟨26, 0⟩]
 else if k = 8 then (if 0 < funcs then d7 (dr s funcs) fun z => fm [⟨37, z⟩] else qL q)
 else if k = 9 then (if 0 < funcs then d7 Dv fun lo => if 0 < lo then d7 Gg fun _ => d7 (dr s 5) fun y => d7 (dr s funcs) fun z => fm [⟨1, y⟩, ⟨38, z⟩] else qL q else qL q)
 else if k = 10 then fm [⟨1, p⟩, ⟨30, 0⟩, ⟨1, q⟩, ⟨29, 0⟩, ⟨16, 0⟩, ⟨36, 3⟩, ⟨1, q⟩, ⟨1, 64⟩, ⟨31, 0⟩]
 else qL q
def Bu (n funcs : Int) (k : Nat) : DM (List eo) := g7 (fun _ l => d7 (DR s n funcs) fun p => fm (l ++ p)) [] k
def Ch (n funcs most : Int) : DM (List eo) := d7 (dr s most) fun k => Bu s n funcs k.toNat
def Fe (a : Int) (k : Nat) : DM (List Int) := g7 (fun j l => if l.length < 4 then d7 (dr s 3) fun z => fm (if z = 0 then l ++ [a + 1 + j] else l) else fm l) [a] k
def E6 (n : Int) : DM (List Int) := d7 (dr s n) fun a => Fe s a (n - (a + 1)).toNat
def Fy (n : Int) (k : Nat) : DM (List (List Int)) := g7 (fun _ l => d7 (E6 s n) fun x => fm (l ++ [x])) [] k
def By (n most : Int) : DM (List (List Int)) := d7 (dr s (most + 1)) fun k => Fy s n k.toNat
def Fl (n : Int) (k : Nat) : DM (List Int) := g7 (fun _ l => d7 (dr s n) fun x => fm (l ++ [x])) [] k
def D6 (n : Int) (calls : List Int) (k : Nat) : DM (List jw) := g7 (fun _ l => d7 (dr s n) fun a => d7 (dr s calls.length) fun z => fm (l ++ [⟨a, calls.getD z.toNat 0⟩])) [] k
def Fq (n : Int) (a : List Int) : DM bn := d7 (E6 s n) fun b => d7 (dr s 41) fun x => fm ⟨[], [a, b], [], [], [], x * 10 - 200⟩
def E8 (n : Int) : DM (List (List Int) × List (List Int)) := d7 (dr s 2) fun z => if z = 0 then d7 (By s n 2) fun b => d7 (By s n 2) fun c => fm (b, c) else fm ([], [])
def FA (n kind : Int) (calls : List Int) : DM bn := d7 (E6 s n) fun a => if kind = 6 then Fq s n a else d7 (E8 s n) fun e =>
 if kind = 1 ∨ kind = 5 then d7 (Fl s n a.length) fun o => fm ⟨e.1, [a], e.2, o, [], 0⟩
 else if kind = 2 then d7 (dr s 4) fun k => d7 (Fl s n k.toNat) fun o => fm ⟨e.1, [a], e.2, o, [], 0⟩
 else if kind = 3 then d7 (By s n 2) fun m => d7 (dr s n) fun o => fm ⟨e.1, a :: m, e.2, [o], [], 0⟩
 else d7 (By s n 2) fun m => d7 (dr s 3) fun k => d7 (D6 s (a :: m).length calls (if calls.length = 0 then 0 else k.toNat)) fun c => fm ⟨e.1, a :: m, e.2, [], c, 0⟩
def ye : List Int := [1, 2, 3, 4, 4, 5, 6, 7, 8, 1]
def Do (k : Nat) : DM (List bk × List Int) := g7 (fun i o => d7 (dr s 10) fun z => d7 (dr s 3) fun y => fm (o.1 ++ [⟨ye.getD z.toNat 0, decide (y = 0), []⟩], if ye.getD z.toNat 0 ≤ 4 then o.2 ++ [(i : Int)] else o.2)) ([], []) k
def E3 (n kind : Int) (calls : List Int) (k : Nat) : DM (List bn) := g7 (fun _ l => d7 (FA s n kind calls) fun r => fm (l ++ [r])) [] k
def ES (n : Int) (calls : List Int) (l : List bk) (k : Nat) : DM (List bk) := g7 (fun i l => match l[i]? with
 | none => fm l
 | some q => if q.Kind ≥ 7 then fm l else d7 (dr s 3) fun k => d7 (E3 s n q.Kind calls (1 + k).toNat) fun rs => fm (l.set i { q with Rules := rs })) l k
def yj (n : Int) : DM (List bk) := d7 (dr s 7) fun k => d7 (Do s k.toNat) fun o => ES s n o.2 o.1 k.toNat
def bytes (l : List UInt8) : ByteArray := ⟨l.toArray⟩
def yg (p : List UInt8) (n : Nat) : ByteArray := bytes (p ++ [(97 + n).toUInt8])
def H3 : List UInt8 := [103]
def G9 : List UInt8 := [97, 120]
def DO : ByteArray := bytes [46, 110, 111, 116, 100, 101, 102]
def vT (n : Nat) : ByteArray := if n = 0 then DO else yg H3 n
def DP (n : Nat) : DM (List d6) := if 1 < n then d7 (dr s 4) fun z => if z = 0 then d7 (dr s 9) fun x => d7 (dr s 5) fun y => fm [⟨1, x * 50 - 200, y * 50⟩] else fm [] else fm []
def xg (cl : Int) : List (Int × Int) := [(1, 0), (1, 1), (3, 0), (4, 0), (2, cl)]
def xh (ep : Bool) (cl : Int) (k : Nat) : DM (List dI) := g7 (fun i l => d7 (dr s 3) fun z => if z = 0 ∧ (((xg cl).getD i (0, 0)).1 ≠ 2 ∨ ep = true) then d7 (dr s 21) fun x => d7 (dr s 21) fun y => fm (l ++ [⟨((xg cl).getD i (0, 0)).1, ((xg cl).getD i (0, 0)).2, x * 50, y * 50 - 200⟩]) else fm l) [] k
def De (r : Nat) (l : List eC) (k : Nat) : DM (List eC) := g7 (fun p l => d7 (dr s 3) fun z => if z = 0 then d7 (dr s 41) fun x => if p = 0 then fm (l ++ [⟨r, -1, x - 20, 0⟩]) else d7 (dr s 41) fun y => fm (l ++ [⟨r, (p : Int) - 1, x - 20, y - 20⟩]) else fm l) l k
def Au (pts : Nat) (R : Nat) : DM (List eC) := g7 (fun r l => De s r l (pts + 1)) [] R
def Dl (R fn n : Nat) : DM b7 := d7 (dr s 19) fun ad => d7 (dr s 4) fun mk => d7 (yP s) fun o => d7 (DP s n) fun ps => d7 (dr s 2) fun cl => d7 (xh s (decide (mk = 0) && decide (n ≠ 0)) cl 5) fun an => d7 (Au s o.1.length R) fun de => d7 (rN 2) fun _ => d7 (Ch s o.1.length fn 6) fun h => fm ⟨vT n, 100 + ad * 50, decide (mk = 0) && decide (n ≠ 0), o.1, o.2, ps, an, de, h⟩
def Ba (R fn k : Nat) : DM (List b7) := g7 (fun i l => d7 (Dl s R fn i) fun g => fm (l ++ [g])) [] k
def EJ (k : Nat) : DM (List eu) := g7 (fun i l => d7 (dr s 3) fun a => d7 (dr s 4) fun b => fm (l ++ [⟨yg G9 i, 0 - a * 100, 0, b * 100⟩])) [] k
def Ec : List eL := [⟨0, 64, 64⟩, ⟨0, 32, 64⟩, ⟨-64, -64, 0⟩, ⟨-1, 0, 5⟩, ⟨10, 32, 50⟩]
def Eb (k : Nat) : DM (List eL) := g7 (fun _ l => d7 (dr s 5) fun z => fm (l ++ [Ec.getD z.toNat ⟨0, 0, 0⟩])) [] k
def Fu (axes k : Nat) : DM (List (List eL)) := g7 (fun _ l => d7 (Eb s axes) fun r => fm (l ++ [r])) [] k
def z6 (axes : Nat) : DM (List (List eL)) := if axes = 0 then fm [] else d7 (dr s 4) fun n => Fu s axes n.toNat
def Dj (k : Nat) : DM (List (List eo)) := g7 (fun i l => d7 (rN 0) fun _ => d7 (Ch s 6 i 4) fun h => fm (l ++ [h])) [] k
def Gb (k : Nat) : DM (List Int) := g7 (fun _ l => d7 (dr s 500) fun z => fm (l ++ [z - 100])) [] k
def zj : List Int := [97, 98, 99, 102, 105, 108, 57345, 57346, 57601, 57602, 57603, 57857, 57861, 58113, 58114, 58369]
def D8 (n : Int) (k : Nat) : DM (List d3) := g7 (fun i l => d7 (dr s 4) fun z => if 0 < z then d7 (dr s n) fun g => fm (l ++ [⟨zj.getD i 0, g⟩]) else fm l) [] k
def DK : List ByteArray := [bytes [108, 105, 103, 97], bytes [105, 115, 111, 108], bytes [105, 110, 105, 116], bytes [109, 101, 100, 105], bytes [102, 105, 110, 97], bytes [107, 101, 114, 110], bytes [109, 97, 114, 107], bytes [99, 97, 108, 116]]
def G7 (k : Nat) : DM (List Int) := g7 (fun i l => d7 (dr s 3) fun z => fm (if z = 0 then l ++ [(i : Int)] else l)) [] k
def Dg (n : Nat) (k : Nat) : DM (List bI) := g7 (fun i l => d7 (G7 s n) fun r => d7 (dr s 2) fun z => fm (if z = 0 then l ++ [⟨DK.getD i ByteArray.empty, r⟩] else l)) [] k
def Ef : List Int := [1000, 1024, 100, 2048]
def F6 : DM aP := d7 (dr s 4) fun u => d7 (dr s 3) fun k => d7 (EJ s k.toNat) fun ax => d7 (z6 s k.toNat) fun rg => d7 (dr s 3) fun k2 => d7 (Dj s k2.toNat) fun fu => d7 (dr s 4) fun k3 => d7 (Gb s k3.toNat) fun cv => d7 (dr s 9) fun k4 => d7 (Ba s rg.length fu.length (2 + k4).toNat) fun gl => d7 (D8 s gl.length 16) fun ch => d7 (yj s gl.length) fun lk => d7 (Dg s lk.length 8) fun ft => fm ⟨Ef.getD u.toNat 0, gl, ch, lk, ft, ax, rg, fu, cv⟩
def GL : aP := (F6 s ⟨0, 0⟩).1
def FK : List Int := zj ++ [122]
def GR : List Int := (s.take 20).map fun z => FK.getD (z % 17).toNat 0
end
end Go.Proofs.YtamjlkdanllgjaaGreatDoor
namespace Go.Proofs.YtamjlkdanllgjaaGreatDoor
open Go.RowKit
attribute [local irreducible] AT br AX AO Av Kt aW cZ DA cw
set_option maxRecDepth 8000
structure MF where
 u : AV
 gl : AV
 ch : AV
 lk : AV
 ft : AV
 ax : AV
 rg : AV
 fu : AV
 cv : AV
def H6 (s : List Int) (F : MF) (m : MS) : List AV := [.imm 1 (aT s), aD (min m.a s.length : Nat), F.u, F.gl, F.ch, F.lk, F.ft, F.ax, F.rg, F.fu, F.cv, aD (m.lo.val : Nat)]
abbrev GN (b : Nat) (s : List Int) (F : MF) (m : MS) : Nat × AB := (b, .box (H6 s F m) 129)
def GX (f : FuncId) (args : List AV) (s : List Int) (F : MF) {α : Type} (u : DM α) (out : α → AV) : Prop := ∀ (b : Nat) (m : MS), AC Tryz.prog f (GY b :: args) [GN b s F m] fun c L => c = out (u m).1 ∧ L = [GN b s F (u m).2]
set_option maxRecDepth 8000
section
variable {P : Program} {tt : TT} {nt : Nat} {fr : bJ} {B : Bs} {L L' : AL}
theorem Ai (ok : dG P tt) (i : Nat) (L' : AL) {fn : Func} {Post : AV → AL → Prop} {t : Tmp} {e e' : TypeId} {b k : Nat} {cs : List AV} (hr : fn.results = #[.cell t e]) (hk : EG tt e = some k) (hv : bQ fr t = some (.sc (.pointer (some ⟨b, 0, none⟩)))) (hL : L[i]? = some (b, .box cs e')) (hl : Nat.beq cs.length k = true) (hs : L'.Sublist L) (h : Post (.agg cs) L') :
  AX P .ret (bodyPost P fn (fN B Post)) nt [] fr B L := by
 unfold AX
 intro σ a w ha hw
 haveI := dh ok hk
 obtain ⟨vs, hb, hs', h1⟩ := hw.boxCell hL
 have hl := Nat.eq_of_beq_eq_true hl
 refine ⟨ha.defers, _, qD (cs := vs) hr (ha.look t _ hv).sc_inv (hs'.1.symm.trans hl) (fun j v hj => by rw [cC hb, Nat.zero_add]; simpa using hj), _, σ, _, L', rfl, .agg cs vs hs'.1 hs'.2 h1, hw.sublist hs, h⟩
end
end Go.Proofs.YtamjlkdanllgjaaGreatDoor
namespace Go.Proofs.YtamjlkdanllgjaaGreatDoor
open Go.RowKit
attribute [local irreducible] AT br AX AO Av Kt aW cZ DA cw
set_option maxRecDepth 8000
structure CA (g : b7) : Prop where
 points : g.Points.length ≤ 1000000
 ends : g.Ends.length ≤ 1000000
 parts : g.Parts.length ≤ 1000000
 anchors : g.Anchors.length ≤ 1000000
 hint : g.Hint.length ≤ 1000000
def j4 (g : b7) : b7 := { g with Deltas := [] }
theorem BS (g : b7) (h : CA g) : bw Tryz.prog 74 [.agg (bE g)] (.agg (bE (j4 g))) := by
 refine aG Tryz.func74 rfl Tryz.ntmps74 rfl fun B => ?_
 haveI i1 := AD.mk (DZ (g.Points.map fc) (fun q hq => by obtain ⟨y, _, rfl⟩ := List.mem_map.1 hq; rfl) (by rw [Hv]; exact h.points))
 haveI i2 := AD.mk (s8 (aT g.Ends) (fun q hq => by obtain ⟨y, _, rfl⟩ := List.mem_map.1 hq; rfl) (by rw [bg]; exact h.ends))
 haveI i3 := AD.mk (E0 (g.Parts.map eN) (fun q hq => by obtain ⟨y, _, rfl⟩ := List.mem_map.1 hq; rfl) (by rw [Hv]; exact h.parts))
 haveI i4 := AD.mk (E1 (g.Anchors.map dR) (fun q hq => by obtain ⟨y, _, rfl⟩ := List.mem_map.1 hq; rfl) (by rw [Hv]; exact h.anchors))
 haveI i5 := AD.mk (Cp (g.Hint.map f3) (fun q hq => by obtain ⟨y, _, rfl⟩ := List.mem_map.1 hq; rfl) (by rw [Hv]; exact h.hint))
 repeat' (first|refine ae ?_|refine a6 ?_|refine a8 ?_|refine aa ?_|refine b9 ?_|refine aY a7 fun _=>?_|fail)
 refine bF 24 [(0, .v), (1, .v), (2, .v), (3, .v), (4, .v), (5, .v), (6, .v), (7, .v), (8, .v), (9, .v), (10, .v), (11, .v), (12, .v), (13, .v), (14, .v), (15, .v), (16, .v), (17, .v), (18, .v), (19, .v), (20, .v), (21, .v), (22, .v), (23, .v)] none ?_ trivial rfl (by kernel_rfl) (by kernel_rfl) (by kernel_rfl) mixed (by kernel_rfl) rfl
 repeat' (first|refine aM ?_|refine bD a7 ?_|(apply cL;refine d8 ?_)|fail)
 refine bM [2, 4, 6, 8, 17, 20, 23, 26] rfl rfl ?_
 repeat' (first|refine am ?_|refine a8 ?_|refine aa ?_|refine ah a7 rfl rfl ?_|(apply aQ; first|refine aj a7 0 rfl rfl rfl rfl rfl rfl rfl ?_|refine aj a7 1 rfl rfl rfl rfl rfl rfl rfl ?_|refine aj a7 2 rfl rfl rfl rfl rfl rfl rfl ?_|refine aj a7 3 rfl rfl rfl rfl rfl rfl rfl ?_|fail))
 refine bf (dx 0 (cs' := bE (j4 g)) rfl fun σ vs hh => mL.vrs (a := [qS g.Name, aD g.Advance, ce g.Mark, .imm 3 (g.Points.map fc), .imm 1 (aT g.Ends), .imm 3 (g.Parts.map eN), .imm 4 (g.Anchors.map dR), .sc (.slice none 0 0), .imm 2 (g.Hint.map f3)]) (b := bE (j4 g)) ⟨dJ.refl _, dJ.refl _, dJ.refl _, dJ.refl _, dJ.refl _, dJ.refl _, dJ.refl _, dJ.nil 4, dJ.refl _, trivial⟩ hh) ?_
 exact Ai a7 0 [] rfl rfl rfl rfl rfl (List.nil_sublist _) rfl
theorem zq (f : aP) (p m : AV) (g : b7) (hd : g.Deltas = []) : AC Tryz.prog 75 [.agg (bH f ++ [p, m]), .agg (bE g)] [] fun c L => ∃ b, c = .sc (.map (some b)) ∧ L = [(b, bP (.int .i64) fun _ => none)] := by
 refine aG Tryz.func75 rfl Tryz.ntmps75 rfl fun B => ?_
 repeat' (first|refine ae ?_|refine a6 ?_|refine a8 ?_|refine aa ?_|refine ah a7 rfl rfl ?_|refine b9 ?_|fail)
 refine dg (.int .i64) fun b => ?_
 repeat' (first|refine ae ?_|refine a6 ?_|refine ar ?_|refine a8 ?_|refine aa ?_|refine ah a7 rfl rfl ?_)
 rw [hd]
 refine aI [2, 3, 5, 13, 14] (α := Unit) (fun _ => [(15, aD 0)]) (fun _ => True) (fun _ => [(b, bP (.int .i64) fun _ => none)]) (fun _ => 0) () rfl ⟨rfl, trivial⟩ trivial (fun _ _ h => h) fun _ _ => ?_
 try dsimp only [Ht, Hs, Hr, Hn]
 repeat' (first|refine ae ?_|refine a6 ?_|refine am ?_|refine aL ?_|refine a8 ?_|refine av ?_|refine aA ?_|refine az ?_|refine aa ?_|refine ah a7 rfl rfl ?_|refine bi rfl ?_)
 exact au rfl rfl ⟨b, rfl, rfl⟩
theorem B9 (tb eb : Nat) (L : AL) : mW Tryz.prog 73 ([.pointer (some ⟨tb, 0, none⟩), .pointer (some ⟨eb, 0, none⟩)].map .sc) L .returning .returning L := by
 refine ta Tryz.func73 rfl Tryz.ntmps73 rfl rfl rfl rfl s5 fun B => ?_
 repeat' (first|refine ae ?_|refine a6 ?_|refine ah a7 rfl rfl ?_)
 refine tG false ⟨_, Tryz.underlying20⟩ rfl (.inl ⟨rfl, rfl⟩) rfl ?_
 repeat' (first|refine aq ?_|refine a8 ?_|refine aa ?_|refine bi rfl ?_)
 exact sQ (List.Sublist.refl _)
set_option maxHeartbeats 4000000 in
theorem B8 (f : aP) (p m : AV) (g : b7) (hs : CA g) (hd : g.Deltas = []) : bw Tryz.prog 45 [.agg (bH f ++ [p, m]), .agg (bE g)] (.tup [.agg (bE (j4 g)), aD 0]) := by
 refine n5 Tryz.func45 rfl Tryz.ntmps45 rfl fun B => ?_
 haveI i1 := AD.mk (BS g hs)
 repeat' (first|refine ae ?_|refine a6 ?_|refine a8 ?_|refine aa ?_|refine ah a7 rfl rfl ?_|refine b9 ?_|refine aY a7 fun _=>?_|fail)
 refine uP [.pointer (some ⟨_, 0, none⟩), .pointer (some ⟨_, 0, none⟩)] rfl ?_
 repeat' (first|refine ae ?_|refine a6 ?_|refine a8 ?_|refine aa ?_|refine ah a7 rfl rfl ?_|(apply aQ; first|refine ai 7 a7 0 rfl rfl rfl rfl rfl rfl rfl rfl ?_|refine ai 7 a7 1 rfl rfl rfl rfl rfl rfl rfl rfl ?_|refine ai 7 a7 2 rfl rfl rfl rfl rfl rfl rfl rfl ?_|refine aj a7 0 rfl rfl rfl rfl rfl rfl rfl ?_|refine aj a7 1 rfl rfl rfl rfl rfl rfl rfl ?_|refine aj a7 2 rfl rfl rfl rfl rfl rfl rfl ?_|refine aj a7 3 rfl rfl rfl rfl rfl rfl rfl ?_|fail)|(apply bc;refine aX ?_)|fail)
 refine aV [] _ (zq f p m g hd) rfl rfl (Hp _) rfl fun c L1 ⟨b, hc, hL⟩ => ?_
 subst hc; subst hL
 repeat' (first|fail)
 refine yG 0 Tryz.underlying159 rfl rfl rfl fun q => ?_
 repeat' (first|refine ar ?_|refine a8 ?_|refine aa ?_)
 rename_i tb eb _
 refine aI [4, 5, 17] (α := Unit) (fun _ => []) (fun _ => True) (fun _ => [(eb, .box [aD 0] 52), (tb, .box (bE (j4 g)) 67), (q, EZ b), (b, bP (.int .i64) fun _ => none)]) (fun _ => 0) () rfl trivial trivial (fun _ _ h => ct.perm h (List.perm_append_comm (l₁ := [_, _]))) fun _ _ => ?_
 try dsimp only [Ht, Hs, Hr, Hn]
 repeat' (first|refine ae ?_|refine a6 ?_)
 refine Bn 2 3 rfl rfl rfl rfl ?_
 repeat' (first|refine ae ?_|refine a6 ?_|refine am ?_|refine aL ?_|refine a8 ?_|refine av ?_|refine aA ?_|refine az ?_|refine aa ?_|refine ah a7 rfl rfl ?_|(apply c9; first|refine aC a7 0 rfl rfl rfl rfl rfl ?_|refine aC a7 1 rfl rfl rfl rfl rfl ?_|refine aC a7 2 rfl rfl rfl rfl rfl ?_|refine aC a7 3 rfl rfl rfl rfl rfl ?_|refine aJ a7 0 rfl rfl rfl rfl rfl ?_|refine aJ a7 1 rfl rfl rfl rfl rfl ?_|refine aJ a7 2 rfl rfl rfl rfl rfl ?_|refine aC a7 1 rfl rfl rfl (by assumption) rfl ?_|refine aC a7 0 rfl rfl rfl (by assumption) rfl ?_|fail)|(apply aQ; first|refine ai 7 a7 0 rfl rfl rfl rfl rfl rfl rfl rfl ?_|refine ai 7 a7 1 rfl rfl rfl rfl rfl rfl rfl rfl ?_|refine ai 7 a7 2 rfl rfl rfl rfl rfl rfl rfl rfl ?_|refine aj a7 0 rfl rfl rfl rfl rfl rfl rfl ?_|refine aj a7 1 rfl rfl rfl rfl rfl rfl rfl ?_|refine aj a7 2 rfl rfl rfl rfl rfl rfl rfl ?_|refine aj a7 3 rfl rfl rfl rfl rfl rfl rfl ?_|fail)|refine bi rfl ?_)
 refine uh (cs := [.agg (bE (j4 g)), aD 0]) [] _ [] [] (B9 tb eb []) (Hp _) ?_ (List.nil_sublist _) rfl
 exact ⟨⟨_, 1, _, _, rfl, rfl, .inr ⟨dh a7 rfl, rfl⟩⟩, ⟨_, 0, _, _, rfl, rfl, .inl ⟨c7 a7 rfl, rfl⟩⟩, trivial⟩
set_option maxRecDepth 8000
theorem yZ (e : Int) : bw Tryz.prog 71 [.sc (.iface 52 (.int .i64 e))] (aD e) := by
 refine aG Tryz.func71 rfl Tryz.ntmps71 rfl fun B => ?_
 repeat' (first|refine ae ?_|refine a6 ?_|refine a8 ?_|refine aa ?_|refine ah a7 rfl rfl ?_)
 refine wg (by kernel_rfl) rfl rfl ?_
 repeat' (first|refine ae ?_|refine a6 ?_|refine am ?_|refine a8 ?_|refine aw ?_|refine aa ?_|refine ah a7 rfl rfl ?_|refine bK rfl ?_)
 exact au rfl rfl rfl
instance (e : Int) : AD Tryz.prog 71 [.sc (.iface 52 (.int .i64 e))] (aD e) := ⟨yZ e⟩
theorem yN (ab eb : Nat) (L : AL) : mW Tryz.prog 70 ([.pointer (some ⟨ab, 0, none⟩), .pointer (some ⟨eb, 0, none⟩)].map .sc) L .returning .returning L := by
 refine ta Tryz.func70 rfl Tryz.ntmps70 rfl rfl rfl rfl s5 fun B => ?_
 repeat' (first|refine ae ?_|refine a6 ?_|refine ah a7 rfl rfl ?_)
 refine tG false ⟨_, Tryz.underlying20⟩ rfl (.inl ⟨rfl, rfl⟩) rfl ?_
 repeat' (first|refine aq ?_|refine a8 ?_|refine aa ?_|refine bi rfl ?_)
 exact sQ (List.Sublist.refl _)
theorem wj (ab eb : Nat) (e : Int) : mW Tryz.prog 70 ([.pointer (some ⟨ab, 0, none⟩), .pointer (some ⟨eb, 0, none⟩)].map .sc) [(eb, .box [aD 0] 52), (ab, .box [.sc (.slice none 0 0)] 113)] (.panicking [{ v := .iface 52 (.int .i64 e), recovered := false }]) (.panicking [{ v := .iface 52 (.int .i64 e), recovered := true }]) [(eb, .box [aD e] 52), (ab, .box [.sc (.slice none 0 0)] 113)] := by
 refine ta Tryz.func70 rfl Tryz.ntmps70 rfl rfl rfl rfl z1 fun B => ?_
 repeat' (first|refine ae ?_|refine a6 ?_|refine ah a7 rfl rfl ?_)
 refine tG true ⟨_, Tryz.underlying20⟩ rfl (.inr ⟨⟨_, _, rfl⟩, rfl⟩) rfl ?_
 repeat' (first|refine a6 ?_|refine a8 ?_|refine aa ?_|refine ah a7 rfl rfl ?_|(apply aQ; first|refine aj a7 0 rfl rfl rfl rfl rfl rfl rfl ?_|refine aj a7 1 rfl rfl rfl rfl rfl rfl rfl ?_|refine aj a7 2 rfl rfl rfl rfl rfl rfl rfl ?_|refine aj a7 3 rfl rfl rfl rfl rfl rfl rfl ?_|fail)|(apply bc;refine aX ?_)|refine bK rfl ?_)
 exact sQ (List.Sublist.refl _)
theorem yM (f : aP) (hf : f.Axes = []) (place : List Int) : bw Tryz.prog 44 [cf f, .imm 1 (aT place)] (.tup [.sc (.slice none 0 0), aD (if place = [] then 0 else 1)]) := by
 refine n5 Tryz.func44 rfl Tryz.ntmps44 rfl fun B => ?_
 refine cJ 1 rfl rfl fun hpl => ?_
 have hpn := bg place
 repeat' (first|refine ae ?_|refine a6 ?_|refine a8 ?_|refine aa ?_|refine ah a7 rfl rfl ?_|refine b9 ?_|refine aY a7 fun _=>?_|fail)
 refine uP [.pointer (some ⟨_, 0, none⟩), .pointer (some ⟨_, 0, none⟩)] rfl ?_
 repeat' (first|refine ae ?_|refine a6 ?_|refine a8 ?_|refine aa ?_|refine ah a7 rfl rfl ?_)
 rename_i ab eb
 rw [hf]
 by_cases hp : place = []
 ·subst hp
  repeat' (first|refine ae ?_|refine a6 ?_|refine ar ?_|refine aq ?_|refine a8 ?_|refine aa ?_|refine ah a7 rfl rfl ?_|refine bi rfl ?_)
  refine aI [2, 4, 5, 16, 17] (α := Unit) (fun _ => [(18, aD 0)]) (fun _ => True) (fun _ => [(eb, .box [aD 0] 52), (ab, .box [.sc (.slice none 0 0)] 113)]) (fun _ => 0) () rfl ⟨rfl, trivial⟩ trivial (fun _ _ h => h) fun _ _ => ?_
  try dsimp only [Ht, Hs, Hr, Hn]
  repeat' (first|refine ae ?_|refine a6 ?_|refine am ?_|refine aL ?_|refine a8 ?_|refine av ?_|refine aA ?_|refine az ?_|refine aa ?_|refine ah a7 rfl rfl ?_|(apply c9; first|refine aC a7 0 rfl rfl rfl rfl rfl ?_|refine aC a7 1 rfl rfl rfl rfl rfl ?_|refine aC a7 2 rfl rfl rfl rfl rfl ?_|refine aC a7 3 rfl rfl rfl rfl rfl ?_|refine aJ a7 0 rfl rfl rfl rfl rfl ?_|refine aJ a7 1 rfl rfl rfl rfl rfl ?_|refine aJ a7 2 rfl rfl rfl rfl rfl ?_|refine aC a7 1 rfl rfl rfl (by assumption) rfl ?_|refine aC a7 0 rfl rfl rfl (by assumption) rfl ?_|fail)|(apply aQ; first|refine aj a7 0 rfl rfl rfl rfl rfl rfl rfl ?_|refine aj a7 1 rfl rfl rfl rfl rfl rfl rfl ?_|refine aj a7 2 rfl rfl rfl rfl rfl rfl rfl ?_|refine aj a7 3 rfl rfl rfl rfl rfl rfl rfl ?_|fail)|refine bi rfl ?_)
  refine uh (cs := [.sc (.slice none 0 0), aD 0]) [] _ [] [] (yN ab eb []) (Hp _) ?_ (List.nil_sublist _) rfl
  exact ⟨⟨_, 1, _, _, rfl, rfl, .inl ⟨c7 a7 rfl, rfl⟩⟩, ⟨_, 0, _, _, rfl, rfl, .inl ⟨c7 a7 rfl, rfl⟩⟩, trivial⟩
 ·have h0 : 0 < place.length := List.length_pos_iff.2 hp
  refine ay rfl (fun _ => ?_) (fun h => ?_)
  ·repeat' (first|refine a6 ?_)
   refine jk (by kernel_rfl) rfl rfl ?_
   repeat' (first|fail)
   refine Bo rfl ?_
   refine oK ?_
   rw [if_neg hp]
   refine vp (cs := [.sc (.slice none 0 0), aD 1]) _ [] _ [] (wj ab eb 1) (List.Perm.of_eq (List.append_nil _).symm) ?_ (List.nil_sublist _) rfl
   exact ⟨⟨_, 1, _, _, rfl, rfl, .inl ⟨c7 a7 rfl, rfl⟩⟩, ⟨_, 0, _, _, rfl, rfl, .inl ⟨c7 a7 rfl, rfl⟩⟩, trivial⟩
  ·have h1 := Decidable.not_not.1 (Hy h)
   have h2 : (List.map eH []).length = 0 := rfl
   exfalso
   omega
structure Cz (f : aP) : Prop where
 axes : f.Axes = []
 regions : f.Regions = []
 deltas : ∀ g ∈ f.Glyphs, g.Deltas = []
 glyphs : f.Glyphs.length ≤ 1000000 ∧ ∀ g ∈ f.Glyphs, CA g
 chars : f.Chars.length ≤ 1000000
 looks : f.Lookups.length ≤ 1000000 ∧ ∀ q ∈ f.Lookups, q.Rules.length ≤ 1000000 ∧ ∀ r ∈ q.Rules, CD r
 feats : f.Features.length ≤ 1000000 ∧ ∀ q ∈ f.Features, q.Lookups.length ≤ 1000000
 funcs : f.Funcs.length ≤ 1000000 ∧ ∀ q ∈ f.Funcs, q.length ≤ 1000000
 cvt : f.Cvt.length ≤ 1000000
abbrev GS : List AV := [qS ⟨#[]⟩, aD 0, ce false, iA, iA, iA, iA, iA, iA]
def qu : aP := ⟨0, [], [], [], [], [], [], [], []⟩
set_option maxHeartbeats 8000000 in
theorem xW (f : aP) (hf : Cz f) (place : List Int) : bw Tryz.prog 23 [cf f, .imm 1 (aT place)] (.tup [cf (if place = [] then f else qu), aD (if place = [] then 0 else 1)]) := by
 refine aG Tryz.func23 rfl Tryz.ntmps23 rfl fun B => ?_
 haveI i0 := AD.mk (yM f hf.axes place)
 have hgl : (f.Glyphs.map bE).length = f.Glyphs.length := Hv ..
 repeat' (first|refine ae ?_|refine a6 ?_|refine a8 ?_|refine aa ?_|refine ah a7 rfl rfl ?_|refine b9 ?_|refine aY a7 fun _=>?_|(apply bc;refine aX ?_)|fail)
 by_cases hp : place = []
 ·simp only [if_pos hp]
  repeat' (first|refine ae ?_|refine a6 ?_|refine aq ?_|refine a8 ?_|refine ah a7 rfl rfl ?_|refine bi rfl ?_)
  refine dg (.int .i64) fun mb => ?_
  repeat' (first|refine ae ?_|refine a6 ?_|refine a8 ?_|refine aa ?_|refine ah a7 rfl rfl ?_|(apply aQ; first|refine ai 8 a7 0 rfl rfl rfl rfl rfl rfl rfl rfl ?_|refine ai 8 a7 1 rfl rfl rfl rfl rfl rfl rfl rfl ?_|refine ai 8 a7 2 rfl rfl rfl rfl rfl rfl rfl rfl ?_|refine ai 11 a7 0 rfl rfl rfl rfl rfl rfl rfl rfl ?_|refine ai 11 a7 1 rfl rfl rfl rfl rfl rfl rfl rfl ?_|refine ai 11 a7 2 rfl rfl rfl rfl rfl rfl rfl rfl ?_|refine aj a7 0 rfl rfl rfl rfl rfl rfl rfl ?_|refine aj a7 1 rfl rfl rfl rfl rfl rfl rfl ?_|refine aj a7 2 rfl rfl rfl rfl rfl rfl rfl ?_|refine aj a7 3 rfl rfl rfl rfl rfl rfl rfl ?_|fail)|refine aY a7 fun _=>?_|fail)
  refine dv a7 f.Glyphs.length rfl rfl rfl rfl rfl (by rw [hgl]) (by rw [hgl]) (by have := hf.glyphs.1; omega) (by have := hf.glyphs.1; omega) rfl fun gb => ?_
  rw [show (List.replicate f.Glyphs.length (List.map AV.sc _)).flatten = dM bE GS f.Glyphs 0 from gi _ _ _]
  repeat' (first|refine ae ?_|refine a6 ?_|refine ar ?_|refine a8 ?_|refine aa ?_|refine ah a7 rfl rfl ?_)
  rename_i tb _
  refine aI [2, 4, 8, 9, 31, 32] (α := Nat) (fun i => [(33, aD i)]) (fun i => i ≤ f.Glyphs.length) (fun i => [(gb, .box (dM bE GS f.Glyphs i) 67), (mb, bP (.int .i64) fun _ => none), (tb, .box ([.int .i64 0, .slice none 0 0, .slice none 0 0, .slice none 0 0, .slice none 0 0, .slice none 0 0, .slice none 0 0, .slice none 0 0, .slice none 0 0].map AV.sc) 36)]) (fun i => f.Glyphs.length - i) 0 rfl ⟨rfl, trivial⟩ (Nat.zero_le _) (fun _ _ h => h) fun i hi => ?_
  try dsimp only [Ht, Hs, Hr, Hn]
  repeat' (first|refine ae ?_|refine a6 ?_|refine a8 ?_|refine aa ?_|refine ah a7 rfl rfl ?_)
  refine ay rfl (fun h => ?_) (fun h => ?_)
  ·have hil : i < f.Glyphs.length := by have := Hz h; omega
   obtain ⟨z, hz⟩ : ∃ z, f.Glyphs[i]? = some z := ⟨_, Eg hil⟩
   have hzg := bO (c := bE) hz
   have hzm := Hx hz
   have hg45 := B8 f (.sc (.slice none 0 0)) (.sc (.map (some mb))) z (hf.glyphs.2 z hzm) (hf.deltas z hzm)
   have hst : j4 z = z := by
    have := hf.deltas z hzm
    unfold j4
    cases z
    simp at this
    rw [this]
   rw [hst] at hg45
   have hb := hf.glyphs.1
   clear h
   repeat' (first|refine ae ?_|refine a6 ?_|refine ar ?_|refine aq ?_|refine a8 ?_|refine aa ?_|refine ah a7 rfl rfl ?_|(apply aO; first|refine aN a7 ?_|refine aH a7 ?_)|(apply aQ; first|refine ai 8 a7 0 rfl rfl rfl rfl rfl rfl rfl rfl ?_|refine ai 8 a7 1 rfl rfl rfl rfl rfl rfl rfl rfl ?_|refine ai 8 a7 2 rfl rfl rfl rfl rfl rfl rfl rfl ?_|refine ai 11 a7 0 rfl rfl rfl rfl rfl rfl rfl rfl ?_|refine ai 11 a7 1 rfl rfl rfl rfl rfl rfl rfl rfl ?_|refine ai 11 a7 2 rfl rfl rfl rfl rfl rfl rfl rfl ?_|refine aj a7 0 rfl rfl rfl rfl rfl rfl rfl ?_|refine aj a7 1 rfl rfl rfl rfl rfl rfl rfl ?_|refine aj a7 2 rfl rfl rfl rfl rfl rfl rfl ?_|refine aj a7 3 rfl rfl rfl rfl rfl rfl rfl ?_|fail)|refine aY a7 fun _=>?_|fail)
   refine aX (hc := ⟨hg45⟩) ?_
   repeat' (first|refine ah a7 rfl rfl ?_|(apply aO; first|refine aN a7 ?_|refine aH a7 ?_)|fail)
   refine kM (n := 9) (ys := bE z) a7 0 (i * 9) rfl rfl (by omega) rfl rfl rfl rfl (by rw [ip (sz := 9) (fun _ => rfl) rfl _ hi]; omega) ?_
   rw [iq (sz := 9) (fun _ => rfl) rfl hz]
   repeat' (first|refine ae ?_|refine a6 ?_|refine aq ?_|refine a8 ?_|refine aR ?_|refine aa ?_|refine ah a7 rfl rfl ?_|(apply b6; refine aZ ?_)|refine bi rfl ?_)
   exact aF (i + 1) rfl ⟨by rw [Hw]; rfl, trivial⟩ hil (by omega) (fun _ _ h => h)
  ·have hil : i = f.Glyphs.length := by have := Hy h; omega
   subst hil
   clear h
   rw [io]
   have hb := hf.glyphs.1
   have hfl : ((f.Glyphs.map bE).flatten).length = f.Glyphs.length * 9 := by rw [bG (sz := 9) (fun e he => by obtain ⟨y, _, rfl⟩ := List.mem_map.1 he; rfl), hgl]
   refine cA (cy (t := 9) (sz := 9) (l := f.Glyphs.map bE) 0 rfl rfl (List.take_of_length_le (by omega)) (by omega) (fun q hq => by obtain ⟨y, _, rfl⟩ := List.mem_map.1 hq; rfl) hgl (Nat.le_refl _) (by unfold maxLen; omega)) ?_
   haveI i1 := AD.mk (Fw (f.Chars.map dS) (fun q hq => by obtain ⟨y, _, rfl⟩ := List.mem_map.1 hq; rfl) (by rw [Hv]; exact hf.chars))
   haveI i2 := AD.mk (Bi f.Lookups hf.looks.1 hf.looks.2)
   haveI i3 := AD.mk (AW f.Features hf.feats.1 hf.feats.2)
   haveI i4 := AD.mk (E2 f.Funcs hf.funcs.1 hf.funcs.2)
   haveI i5 := AD.mk (s8 (aT f.Cvt) (fun q hq => by obtain ⟨y, _, rfl⟩ := List.mem_map.1 hq; rfl) (by rw [bg]; exact hf.cvt))
   repeat' (first|refine ae ?_|refine aL ?_|refine a8 ?_|refine av ?_|refine aA ?_|refine az ?_)
   refine bF 18 [(0, .v), (1, .v), (2, .v), (3, .v), (4, .v), (5, .v), (6, .v), (7, .v), (8, .v), (9, .v), (10, .v), (11, .v), (12, .v), (13, .v), (14, .v), (15, .v), (16, .v), (17, .v)] none ?_ trivial rfl (by kernel_rfl) (by kernel_rfl) (by kernel_rfl) mixed (by kernel_rfl) rfl
   repeat' (first|refine aM ?_|refine bD a7 ?_|(apply cL;refine d8 ?_)|fail)
   refine bM [4, 53, 54, 57, 60, 63, 66, 69] rfl rfl ?_
   repeat' (first|refine am ?_|refine a8 ?_|refine aa ?_|refine ah a7 rfl rfl ?_|(apply aQ; first|refine ai 8 a7 0 rfl rfl rfl rfl rfl rfl rfl rfl ?_|refine ai 8 a7 1 rfl rfl rfl rfl rfl rfl rfl rfl ?_|refine ai 8 a7 2 rfl rfl rfl rfl rfl rfl rfl rfl ?_|refine ai 11 a7 0 rfl rfl rfl rfl rfl rfl rfl rfl ?_|refine ai 11 a7 1 rfl rfl rfl rfl rfl rfl rfl rfl ?_|refine ai 11 a7 2 rfl rfl rfl rfl rfl rfl rfl rfl ?_|refine aj a7 0 rfl rfl rfl rfl rfl rfl rfl ?_|refine aj a7 1 rfl rfl rfl rfl rfl rfl rfl ?_|refine aj a7 2 rfl rfl rfl rfl rfl rfl rfl ?_|refine aj a7 3 rfl rfl rfl rfl rfl rfl rfl ?_|fail))
   have hfa : bH f = [aD f.Unit, .imm 9 (f.Glyphs.map bE), .imm 2 (f.Chars.map dS), .imm 3 (f.Lookups.map bo), .imm 2 (f.Features.map bC), .imm 4 [], .imm 1 [], .imm 1 (f.Funcs.map eI), .imm 1 (aT f.Cvt)] := by
    unfold bH
    rw [hf.axes, hf.regions]
    rfl
   rw [show cf f = .agg (bH f) from rfl, hfa]
   refine bf (dx 1 (cs' := [aD f.Unit, .imm 9 (f.Glyphs.map bE), .imm 2 (f.Chars.map dS), .imm 3 (f.Lookups.map bo), .imm 2 (f.Features.map bC), .imm 4 [], .imm 1 [], .imm 1 (f.Funcs.map eI), .imm 1 (aT f.Cvt)]) rfl fun σ vs hh => mL.vrs (a := [aD f.Unit, .imm 9 (f.Glyphs.map bE), .imm 2 (f.Chars.map dS), .imm 3 (f.Lookups.map bo), .imm 2 (f.Features.map bC), .sc (.slice none 0 0), .sc (.slice none 0 0), .imm 1 (f.Funcs.map eI), .imm 1 (aT f.Cvt)]) (b := [aD f.Unit, .imm 9 (f.Glyphs.map bE), .imm 2 (f.Chars.map dS), .imm 3 (f.Lookups.map bo), .imm 2 (f.Features.map bC), .imm 4 [], .imm 1 [], .imm 1 (f.Funcs.map eI), .imm 1 (aT f.Cvt)]) ⟨dJ.refl _, dJ.refl _, dJ.refl _, dJ.refl _, dJ.refl _, dJ.nil 4, dJ.nil 1, dJ.refl _, dJ.refl _, trivial⟩ hh) ?_
   refine ez (cs := [.agg [aD f.Unit, .imm 9 (f.Glyphs.map bE), .imm 2 (f.Chars.map dS), .imm 3 (f.Lookups.map bo), .imm 2 (f.Features.map bC), .imm 4 [], .imm 1 [], .imm 1 (f.Funcs.map eI), .imm 1 (aT f.Cvt)], aD 0]) [] ?_ (List.nil_sublist _) rfl
   exact ⟨⟨_, 1, _, _, rfl, rfl, .inr ⟨dh a7 rfl, rfl⟩⟩, rfl, trivial⟩
 ·simp only [if_neg hp]
  repeat' (first|refine ae ?_|refine a6 ?_|refine am ?_|refine a8 ?_|refine aw ?_|refine aa ?_|refine ah a7 rfl rfl ?_|(apply aQ; first|refine ai 8 a7 0 rfl rfl rfl rfl rfl rfl rfl rfl ?_|refine ai 8 a7 1 rfl rfl rfl rfl rfl rfl rfl rfl ?_|refine ai 8 a7 2 rfl rfl rfl rfl rfl rfl rfl rfl ?_|refine ai 11 a7 0 rfl rfl rfl rfl rfl rfl rfl rfl ?_|refine ai 11 a7 1 rfl rfl rfl rfl rfl rfl rfl rfl ?_|refine ai 11 a7 2 rfl rfl rfl rfl rfl rfl rfl rfl ?_|refine aj a7 0 rfl rfl rfl rfl rfl rfl rfl ?_|refine aj a7 1 rfl rfl rfl rfl rfl rfl rfl ?_|refine aj a7 2 rfl rfl rfl rfl rfl rfl rfl ?_|refine aj a7 3 rfl rfl rfl rfl rfl rfl rfl ?_|fail)|refine bK rfl ?_)
  refine bf (dx 0 (cs' := bH qu) rfl fun σ vs hh => mL.vrs (a := [aD 0, .sc (.slice none 0 0), .sc (.slice none 0 0), .sc (.slice none 0 0), .sc (.slice none 0 0), .sc (.slice none 0 0), .sc (.slice none 0 0), .sc (.slice none 0 0), .sc (.slice none 0 0)]) (b := bH qu) ⟨dJ.refl _, dJ.nil 9, dJ.nil 2, dJ.nil 3, dJ.nil 2, dJ.nil 4, dJ.nil 1, dJ.nil 1, dJ.nil 1, trivial⟩ hh) ?_
  refine ez (cs := [cf qu, aD 1]) [] ?_ (List.nil_sublist _) rfl
  exact ⟨⟨_, 0, _, _, rfl, rfl, .inr ⟨dh a7 rfl, rfl⟩⟩, rfl, trivial⟩
end Go.Proofs.YtamjlkdanllgjaaGreatDoor
namespace Go.Proofs
open Go.Shelf
def Tryz.laysSort_ren : Go.Shelf.Ren := ⟨fun | 189 => 28 | 125 => 56 | 257 => 55 | 128 => 93 | 129 => 94 | 294 => 84 | 295 => 85 | 296 => 86 | 297 => 87 | 298 => 88 | 299 => 89 | 216 => 90 | 300 => 91 | 301 => 92 | 328 => 165 | 329 => 166 | 330 => 167 | 331 => 168 | 332 => 169 | 215 => 148 | 343 => 242 | n => n, fun | 28 => 22 | 3 => 3 | 46 => 141 | 0 => 0 | 51 => 192 | 53 => 194 | 4 => 4 | 183 => 186 | 182 => 185 | 131 => 97 | 5 => 5 | 9 => 9 | 218 => 282 | 222 => 286 | 228 => 350 | 229 => 351 | n => n, fun | n => n⟩
theorem Tryz.laysSort : Go.Proofs.Lays.n189 Tryz.prog Tryz.laysSort_ren := {
 mixed := by kernel_rfl
 f125 := Tryz.func56.trans (congrArg some (by kernel_rfl))
 f128 := Tryz.func93.trans (congrArg some (by kernel_rfl))
 f129 := Tryz.func94.trans (congrArg some (by kernel_rfl))
 f189 := Tryz.func28.trans (congrArg some (by kernel_rfl))
 f215 := Tryz.func148.trans (congrArg some (by kernel_rfl))
 f216 := Tryz.func90.trans (congrArg some (by kernel_rfl))
 f257 := Tryz.func55.trans (congrArg some (by kernel_rfl))
 f294 := Tryz.func84.trans (congrArg some (by kernel_rfl))
 f295 := Tryz.func85.trans (congrArg some (by kernel_rfl))
 f296 := Tryz.func86.trans (congrArg some (by kernel_rfl))
 f297 := Tryz.func87.trans (congrArg some (by kernel_rfl))
 f298 := Tryz.func88.trans (congrArg some (by kernel_rfl))
 f299 := Tryz.func89.trans (congrArg some (by kernel_rfl))
 f300 := Tryz.func91.trans (congrArg some (by kernel_rfl))
 f301 := Tryz.func92.trans (congrArg some (by kernel_rfl))
 f328 := Tryz.func165.trans (congrArg some (by kernel_rfl))
 f329 := Tryz.func166.trans (congrArg some (by kernel_rfl))
 f330 := Tryz.func167.trans (congrArg some (by kernel_rfl))
 f331 := Tryz.func168.trans (congrArg some (by kernel_rfl))
 f332 := Tryz.func169.trans (congrArg some (by kernel_rfl))
 f343 := Tryz.func242.trans (congrArg some (by kernel_rfl))
 t0 := Tryz.underlying0
 a0 := Tryz.isAgg0
 z0 := Tryz.sizeOf0
 v0 := Tryz.zeroValue0
 t3 := Tryz.underlying3
 a3 := Tryz.isAgg3
 z3 := Tryz.sizeOf3
 v3 := Tryz.zeroValue3
 t4 := Tryz.underlying4
 a4 := Tryz.isAgg4
 z4 := Tryz.sizeOf4
 v4 := Tryz.zeroValue4
 t5 := Tryz.underlying5
 a5 := Tryz.isAgg5
 z5 := Tryz.sizeOf5
 v5 := Tryz.zeroValue5
 t9 := Tryz.underlying9
 a9 := Tryz.isAgg9
 z9 := Tryz.sizeOf9
 v9 := Tryz.zeroValue9
 t28 := Tryz.underlying22
 a28 := Tryz.isAgg22
 z28 := Tryz.sizeOf22
 v28 := Tryz.zeroValue22
 t46 := Tryz.underlying141
 a46 := Tryz.isAgg141
 z46 := Tryz.sizeOf141
 v46 := Tryz.zeroValue141
 t51 := Tryz.underlying192
 a51 := Tryz.isAgg192
 z51 := Tryz.sizeOf192
 v51 := Tryz.zeroValue192
 t53 := Tryz.underlying194
 a53 := Tryz.isAgg194
 z53 := Tryz.sizeOf194
 v53 := Tryz.zeroValue194
 t131 := Tryz.underlying97
 a131 := Tryz.isAgg97
 z131 := Tryz.sizeOf97
 v131 := Tryz.zeroValue97
 t182 := Tryz.underlying185
 a182 := Tryz.isAgg185
 z182 := Tryz.sizeOf185
 v182 := Tryz.zeroValue185
 t183 := Tryz.underlying186
 a183 := Tryz.isAgg186
 z183 := Tryz.sizeOf186
 v183 := Tryz.zeroValue186
 t218 := Tryz.underlying282
 a218 := Tryz.isAgg282
 z218 := Tryz.sizeOf282
 v218 := Tryz.zeroValue282
 t222 := Tryz.underlying286
 a222 := Tryz.isAgg286
 z222 := Tryz.sizeOf286
 v222 := Tryz.zeroValue286
 t228 := Tryz.underlying350
 a228 := Tryz.isAgg350
 z228 := Tryz.sizeOf350
 v228 := Tryz.zeroValue350
 t229 := Tryz.underlying351
 a229 := Tryz.isAgg351
 z229 := Tryz.sizeOf351
 v229 := Tryz.zeroValue351 }
end Go.Proofs
namespace Go.Proofs.YtamjlkdanllgjaaGreatDoor
open Go.RowKit Go.Shelf Go.Sort
def eF (l : List Int) : List Int := l.mergeSort fun x y => decide (x ≤ y)
theorem fo (l : List Int) : (eF l).length = l.length := by simp [eF]
end Go.Proofs.YtamjlkdanllgjaaGreatDoor
namespace Go.Proofs.YtamjlkdanllgjaaGreatDoor
open Go.RowKit
attribute [local irreducible] AT br AX AO Av Kt aW cZ DA cw
set_option maxRecDepth 8000
theorem F2 : bw Tryz.prog 94 [.sc (.int .u64 0)] (aD 0) := by
 refine aG Tryz.func94 rfl Tryz.ntmps94 rfl fun B => ?_
 repeat' (first|refine ae ?_|refine a6 ?_|refine aq ?_|refine a8 ?_|refine aa ?_|refine ah a7 rfl rfl ?_|refine bi rfl ?_)
 refine jj a7 rfl rfl rfl rfl rfl rfl ?_
 repeat' (first|fail)
 refine cg (n4 (c := 0) ⟨Tryz.underlying9⟩ rfl rfl (by decide) rfl) rfl rfl ?_
 repeat' (first|fail)
 refine jj a7 rfl rfl rfl rfl rfl rfl ?_
 rw [show IntKind.wrap .i64 (((0 : UInt8).toNat : Nat) : Int) = 0 from rfl]
 repeat' (first|refine am ?_|refine a8 ?_|refine aa ?_|refine ah a7 rfl rfl ?_|(apply b6; refine aZ ?_)|fail)
 exact au rfl rfl rfl
instance : AD Tryz.prog 94 [.sc (.int .u64 0)] (aD 0) := ⟨F2⟩
theorem F1 : bw Tryz.prog 56 [.sc (.int .u64 0)] (aD 0) := by
 refine aG Tryz.func56 rfl Tryz.ntmps56 rfl fun B => ?_
 repeat' (first|refine ae ?_|refine a6 ?_|refine aq ?_|refine am ?_|refine a8 ?_|refine aa ?_|refine ah a7 rfl rfl ?_|(apply bc;refine aX ?_)|refine bi rfl ?_)
 exact au rfl rfl rfl
instance : AD Tryz.prog 56 [.sc (.int .u64 0)] (aD 0) := ⟨F1⟩
theorem EY (a : Option Addr) (cap : Nat) (L : AL) : AC Tryz.prog 84 [.sc (.slice a 0 cap), aD 0, aD 0] L fun _ L' => L' = L := by
 refine aG Tryz.func84 rfl Tryz.ntmps84 rfl fun B => ?_
 repeat' (first|refine ae ?_|refine a6 ?_|refine ar ?_|refine a8 ?_|refine aa ?_|refine ah a7 rfl rfl ?_|(apply b6; refine aZ ?_)|fail)
 refine aI [0, 1, 2] (α := Unit) (fun _ => [(6, aD 1)]) (fun _ => True) (fun _ => L) (fun _ => 0) () rfl ⟨rfl, trivial⟩ trivial (fun _ _ h => h) fun _ _ => ?_
 try dsimp only [Ht, Hs, Hr, Hn]
 repeat' (first|refine ae ?_|refine a6 ?_|refine aL ?_|refine a8 ?_|refine av ?_|refine aA ?_|refine az ?_|refine aa ?_|refine ah a7 rfl rfl ?_|refine bi rfl ?_)
 exact cK rfl rfl
theorem Ft (a : Option Addr) (cap : Nat) (L : AL) : AC Tryz.prog 55 [.sc (.slice a 0 cap), aD 0, aD 0, aD 0] L fun _ L' => L' = L := by
 refine aG Tryz.func55 rfl Tryz.ntmps55 rfl fun B => ?_
 repeat' (first|refine ae ?_|refine a6 ?_|refine ar ?_|refine a8 ?_|refine aa ?_|refine ah a7 rfl rfl ?_)
 refine aI [0] (α := Unit) (fun _ => [(1, aD 0), (2, aD 0)]) (fun _ => True) (fun _ => L) (fun _ => 0) () rfl ⟨rfl, rfl, trivial⟩ trivial (fun _ _ h => h) fun _ _ => ?_
 try dsimp only [Ht, Hs, Hr, Hn]
 repeat' (first|refine ae ?_|refine a6 ?_|refine ar ?_|refine a8 ?_|refine aa ?_|refine ah a7 rfl rfl ?_|(apply b6; refine aZ ?_)|refine bK rfl ?_)
 refine aV L [] (EY a cap L) rfl rfl (by rw [List.append_nil]) rfl fun c L1 hL => ?_
 subst hL
 rw [List.append_nil]
 repeat' (first|refine am ?_|refine a8 ?_|refine aw ?_|refine aK ?_|refine bB ?_|refine aa ?_)
 exact pW rfl rfl
theorem zu (a : Option Addr) (cap : Nat) (L : AL) : AC Tryz.prog 28 [.sc (.slice a 0 cap)] L fun _ L' => L' = L := by
 refine aG Tryz.func28 rfl Tryz.ntmps28 rfl fun B => ?_
 repeat' (first|refine ae ?_|refine a6 ?_|refine a8 ?_|refine aa ?_|refine ah a7 rfl rfl ?_)
 refine jj a7 rfl rfl rfl rfl rfl rfl ?_
 rw [show IntKind.wrap .u64 ((0 : Nat) : Int) = 0 from rfl]
 repeat' (first|(apply bc;refine aX ?_)|fail)
 refine aV L [] (Ft a cap L) rfl rfl (by rw [List.append_nil]) rfl fun c L1 hL => ?_
 subst hL
 rw [List.append_nil]
 repeat' (first|refine aa ?_)
 exact cK rfl rfl
section
open Go.Shelf Go.Sort
theorem sh (b cap : Nat) (l : List Int) (js : List Value) (w : World) (hl : l.length ≤ 1000000) (hb : w.heap[b]? = some (.cells (l.map (Value.int .i64) ++ js).toArray 3 (0, 0))) :
  Calls Tryz.prog 28 #[.slice (some ⟨b, 0, none⟩) l.length cap] w fun e w' => e = .returned (.tuple #[]) ∧ w.grownBy w' (some b) ∧ w'.heap[b]? = some (.cells ((eF l).map (Value.int .i64) ++ js).toArray 3 (0, 0)) := by
 have hH : Holds (Value.int .i64) w b 0 l.toArray := by
  intro j hj
  have hj' : j < l.length := by simpa using hj
  rw [Nat.zero_add, cC hb, pn hb]
  refine ⟨?_, rfl⟩
  simp [hj', List.getElem?_append_left]
 have hlt : b < w.heap.size := (Array.getElem?_eq_some_iff.1 hb).1
 have h := calls_of_every_depth fun D => AnyS.slices_Sort_int_alone Tryz.laysSort D b 0 cap l w hH hlt (by omega)
 refine Calls.mono h fun e w' ⟨he, q, os, hw⟩ => ⟨he, ?_⟩
 rw [Lib.sorted_world _ w b 0 q _ _ os hH (by simp), show (l.mergeSort fun x y => decide (x ≤ y)) = eF l from rfl] at hw
 have hb' : (w.drewN q).heap[b]? = some (.cells (l.map (Value.int .i64) ++ js).toArray 3 (0, 0)) := hb
 obtain ⟨hg, cs', hh, hs', hj⟩ := gt b ((eF l).map (Value.int .i64)) 0 (w.drewN q) _ 3 (0, 0) hb'
 have hgs := hg.size
 subst hw
 refine ⟨⟨hg.os, hg.tape, hg.output, ?_, fun k hk hkb => ?_⟩, ?_⟩
 ·show w.heap.size ≤ (((w.drewN q).setCells b 0 ((eF l).map (Value.int .i64))).heap ++ os).size
  rw [Array.size_append]
  exact Nat.le_trans hgs (Nat.le_add_right _ _)
 ·show (((w.drewN q).setCells b 0 ((eF l).map (Value.int .i64))).heap ++ os)[k]? = _
  rw [Array.getElem?_append_left (Nat.lt_of_lt_of_le hk hgs)]
  exact hg.block k hk hkb
 ·show (((w.drewN q).setCells b 0 ((eF l).map (Value.int .i64))).heap ++ os)[b]? = _
  rw [Array.getElem?_append_left (Nat.lt_of_lt_of_le hlt hgs)]
  refine hh.trans ?_
  congr 2
  apply Array.ext_getElem?
  intro j
  rw [hj j]
  simp only [Hv, fo, List.size_toArray, List.getElem?_toArray, List.length_append]
  by_cases hjl : j < l.length
  ·rw [if_pos (by omega), List.getElem?_append_left (by simpa [fo] using hjl)]; rfl
  ·rw [if_neg (by omega), List.getElem?_append_right (by simp; omega), List.getElem?_append_right (by simp [fo]; omega)]
   simp [fo]
end
theorem sw {σ : bT} : ∀ (l : List Int) (us : List Value), cz σ (l.map aD) us → us = l.map (Value.int .i64)
 | [], us, h => h.nil_inv
 | z :: l, us, h => by
  obtain ⟨v, ws, rfl, h1, h2⟩ := h.inv
  rw [h1.sc_inv, sw l ws h2]
  rfl
theorem y9 {σ : bT} (l : List Int) : cz σ (l.map aD) (l.map (Value.int .i64)) := ⟨by simp, fun i c u hc hu => by
 rw [List.getElem?_map] at hc hu
 cases hz : l[i]? with
 | none => rw [hz] at hc; cases hc
 | some z => rw [hz] at hc hu; cases hc; cases hu; exact .sc _⟩
theorem zt (b cap : Nat) (l : List Int) (junk : List AV) (hl : l.length ≤ 1000000) : AC Tryz.prog 28 [.sc (.slice (some ⟨b, 0, none⟩) l.length cap)] [(b, .box (l.map aD ++ junk) 3)] fun _ L => L = [(b, .box ((eF l).map aD ++ junk) 3)] := by
 intro σ w vs hv hst
 obtain ⟨v, ws, rfl, h1, h2⟩ := hv.inv
 rw [h2.nil_inv, h1.sc_inv]
 obtain ⟨o, ho, us, rfl, hus, hu1⟩ := hst.here _ (List.mem_cons_self ..)
 have e1 := sw l (us.take l.length) (by
  have := eZ hus l.length
  rwa [List.take_left' (by simp)] at this)
 have e2 : cz σ junk (us.drop l.length) := by
  have := j7 hus l.length
  rwa [List.drop_left' (by simp)] at this
 have e3 : us = l.map (Value.int .i64) ++ us.drop l.length := by rw [← e1, List.take_append_drop]
 rw [e3] at ho
 refine (sh b cap l _ w hl ho).mono fun e w' ⟨he, hg, hh⟩ => ⟨_, σ, .tup [], _, he, .tup [] [] rfl (fun i c u h => by simp at h), ?_, rfl⟩
 refine hst.put (fun _ => trivial) hg hh ⟨_, rfl, dm (y9 _) e2, fun u hu => ?_⟩
 rcases Ho hu with hu | hu
 ·obtain ⟨z, _, rfl⟩ := List.mem_map.1 hu
  rfl
 ·exact hu1 u (List.mem_of_mem_drop hu)
end Go.Proofs.YtamjlkdanllgjaaGreatDoor
