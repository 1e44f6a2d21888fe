/-
  Fonts of plain numbers: what is made of them, as a plain function of the numbers.
-/
import Derived.Test.YtpbinloeemebkaaGreatM06
import Derived.Test.YtpbinloeemebkaaGreatM21
import Derived.Test.YtpbinloeemebkaaGreatM13
import Derived.Test.YtpbinloeemebkaaGreatM19
namespace Go.Proofs.YtpbinloeemebkaaGreat
structure MS where
 a : Nat
 lo : Fin 3
abbrev DM (α : Type) := MS → α × MS
section
variable {α β : Type}
def fp (x : α) : DM α := fun m => (x, m)
def dk (g : DM α) (k : α → DM β) : DM β := fun m => k (g m).1 (g m).2
def gu (g : Nat → β → DM β) (b : β) : Nat → DM β
 | 0 => fp b
 | k + 1 => dk (gu g b k) (g k)
end
def BN (s : List Int) (a : Nat) (n : Int) : Int := match s[a]? with
 | some x => x % n
 | none => 0
def dr (s : List Int) (n : Int) : DM Int := fun m => (BN s m.a n, { m with a := m.a + 1 })
def BQ : DM Unit := fun m => ((), { m with lo := ⟨m.lo.val - 1, Nat.lt_of_le_of_lt (Nat.sub_le ..) m.lo.isLt⟩ })
def qU (z : Fin 3) : DM Unit := fun m => ((), { m with lo := z })
def A0 : DM Int := fun m => ((m.lo.val : Int), m)
section
variable (s : List Int)
def CO (p : Nat) : DM e7 := dk (dr s 21) fun x => dk (dr s 21) fun y => if p = 0 then fp ⟨x * 50 - 100, y * 50 - 200, true⟩ else dk (dr s 4) fun z => fp ⟨x * 50 - 100, y * 50 - 200, decide (0 < z)⟩
def C6 (l : List e7) (k : Nat) : DM (List e7) := gu (fun p l => dk (CO s p) fun t => fp (l ++ [t])) l k
def Bt (n : Nat) : DM (List e7 × List Int) := gu (fun _ o => dk (dr s 4) fun k => dk (C6 s o.1 (2 + k).toNat) fun l => fp (l, o.2 ++ [(l.length : Int) - 1])) ([], []) n
def wM : DM (List e7 × List Int) := dk (dr s 3) fun n => Bt s n.toNat
def pY (q : Int) : DM (List ew) := fp [⟨39, 0⟩, ⟨1, 16⟩, ⟨17, 0⟩, ⟨36, 2⟩, ⟨1, q⟩, ⟨2, 0⟩]
def Ah (n funcs : Int) : DM (List ew) := dk (dr s (n + 1)) fun p => dk (dr s (n + 1)) fun q => dk (dr s 2) fun a => dk (dr s 12) fun k =>
 if k = 0 then fp [⟨22, a⟩, ⟨23, a⟩]
 else if k = 1 then dk (dr s 6) fun z => fp [⟨24, z⟩]
 else if k = 2 ∨ k = 3 then fp [⟨1, p⟩, ⟨1, p⟩, ⟨29, 0⟩, ⟨15, 0⟩, ⟨32, 0⟩]
 else if k = 4 then dk (dr s 200) fun z => fp [⟨1, p⟩, ⟨1, z - 100⟩, ⟨31, 0⟩]
 else if k = 5 then fp [⟨1, p⟩, ⟨1, q⟩, ⟨33, 0⟩]
 else if k = 6 then fp [⟨34, a⟩]
 else if k = 7 then fp [⟨1, a⟩, ⟨1, q⟩, ⟨25, 0⟩, ⟨1, 3⟩, ⟨5, 0⟩, ⟨26, 0⟩]
 else if k = 8 then (if 0 < funcs then dk (dr s funcs) fun z => fp [⟨37, z⟩] else pY q)
 else if k = 9 then (if 0 < funcs then dk A0 fun lo => if 0 < lo then dk BQ fun _ => dk (dr s 5) fun y => dk (dr s funcs) fun z => fp [⟨1, y⟩, ⟨38, z⟩] else pY q else pY q)
 else if k = 10 then fp [⟨1, p⟩, ⟨30, 0⟩, ⟨1, q⟩, ⟨29, 0⟩, ⟨16, 0⟩, ⟨36, 3⟩, ⟨1, q⟩, ⟨1, 64⟩, ⟨31, 0⟩]
 else pY q
def yq (n funcs : Int) (k : Nat) : DM (List ew) := gu (fun _ l => dk (Ah s n funcs) fun p => fp (l ++ p)) [] k
def yW (n funcs most : Int) : DM (List ew) := dk (dr s most) fun k => yq s n funcs k.toNat
def Bq (a : Int) (k : Nat) : DM (List Int) := gu (fun j l => if l.length < 4 then dk (dr s 3) fun z => fp (if z = 0 then l ++ [a + 1 + j] else l) else fp l) [a] k
def Ao (n : Int) : DM (List Int) := dk (dr s n) fun a => Bq s a (n - (a + 1)).toNat
def Bw (n : Int) (k : Nat) : DM (List (List Int)) := gu (fun _ l => dk (Ao s n) fun x => fp (l ++ [x])) [] k
def yu (n most : Int) : DM (List (List Int)) := dk (dr s (most + 1)) fun k => Bw s n k.toNat
def Br (n : Int) (k : Nat) : DM (List Int) := gu (fun _ l => dk (dr s n) fun x => fp (l ++ [x])) [] k
def zG (n : Int) (calls : List Int) (k : Nat) : DM (List iQ) := gu (fun _ l => dk (dr s n) fun a => dk (dr s calls.length) fun z => fp (l ++ [⟨a, calls.getD z.toNat 0⟩])) [] k
def Bu (n : Int) (a : List Int) : DM bJ := dk (Ao s n) fun b => dk (dr s 41) fun x => fp ⟨[], [a, b], [], [], [], x * 10 - 200⟩
def Ap (n : Int) : DM (List (List Int) × List (List Int)) := dk (dr s 2) fun z => if z = 0 then dk (yu s n 2) fun b => dk (yu s n 2) fun c => fp (b, c) else fp ([], [])
def Bx (n kind : Int) (calls : List Int) : DM bJ := dk (Ao s n) fun a => if kind = 6 then Bu s n a else dk (Ap s n) fun e =>
 if kind = 1 ∨ kind = 5 then dk (Br s n a.length) fun o => fp ⟨e.1, [a], e.2, o, [], 0⟩
 else if kind = 2 then dk (dr s 4) fun k => dk (Br s n k.toNat) fun o => fp ⟨e.1, [a], e.2, o, [], 0⟩
 else if kind = 3 then dk (yu s n 2) fun m => dk (dr s n) fun o => fp ⟨e.1, a :: m, e.2, [o], [], 0⟩
 else dk (yu s n 2) fun m => dk (dr s 3) fun k => dk (zG s (a :: m).length calls (if calls.length = 0 then 0 else k.toNat)) fun c => fp ⟨e.1, a :: m, e.2, [], c, 0⟩
def wl : List Int := [1, 2, 3, 4, 4, 5, 6, 7, 8, 1]
def zV (k : Nat) : DM (List bC × List Int) := gu (fun i o => dk (dr s 10) fun z => dk (dr s 3) fun y => fp (o.1 ++ [⟨wl.getD z.toNat 0, decide (y = 0), []⟩], if wl.getD z.toNat 0 ≤ 4 then o.2 ++ [(i : Int)] else o.2)) ([], []) k
def Am (n kind : Int) (calls : List Int) (k : Nat) : DM (List bJ) := gu (fun _ l => dk (Bx s n kind calls) fun r => fp (l ++ [r])) [] k
def Ba (n : Int) (calls : List Int) (l : List bC) (k : Nat) : DM (List bC) := gu (fun i l => match l[i]? with
 | none => fp l
 | some q => if q.Kind ≥ 7 then fp l else dk (dr s 3) fun k => dk (Am s n q.Kind calls (1 + k).toNat) fun rs => fp (l.set i { q with Rules := rs })) l k
def ww (n : Int) : DM (List bC) := dk (dr s 7) fun k => dk (zV s k.toNat) fun o => Ba s n o.2 o.1 k.toNat
def bytes (l : List UInt8) : ByteArray := ⟨l.toArray⟩
def wr (p : List UInt8) (n : Nat) : ByteArray := bytes (p ++ [(97 + n).toUInt8])
def Ck : List UInt8 := [103]
def BL : List UInt8 := [97, 120]
def Ac : ByteArray := bytes [46, 110, 111, 116, 100, 101, 102]
def ui (n : Nat) : ByteArray := if n = 0 then Ac else wr Ck n
def Ad (n : Nat) : DM (List bE) := if 1 < n then dk (dr s 4) fun z => if z = 0 then dk (dr s 9) fun x => dk (dr s 5) fun y => fp [⟨1, x * 50 - 200, y * 50⟩] else fp [] else fp []
def vz (cl : Int) : List (Int × Int) := [(1, 0), (1, 1), (3, 0), (4, 0), (2, cl)]
def vA (ea : Bool) (cl : Int) (k : Nat) : DM (List cU) := gu (fun i l => dk (dr s 3) fun z => if z = 0 ∧ (((vz cl).getD i (0, 0)).1 ≠ 2 ∨ ea = true) then dk (dr s 21) fun x => dk (dr s 21) fun y => fp (l ++ [⟨((vz cl).getD i (0, 0)).1, ((vz cl).getD i (0, 0)).2, x * 50, y * 50 - 200⟩]) else fp l) [] k
def zN (r : Nat) (l : List dh) (k : Nat) : DM (List dh) := gu (fun p l => dk (dr s 3) fun z => if z = 0 then dk (dr s 41) fun x => if p = 0 then fp (l ++ [⟨r, -1, x - 20, 0⟩]) else dk (dr s 41) fun y => fp (l ++ [⟨r, (p : Int) - 1, x - 20, y - 20⟩]) else fp l) l k
def xM (pts : Nat) (R : Nat) : DM (List dh) := gu (fun r l => zN s r l (pts + 1)) [] R
def zR (R fn n : Nat) : DM be := dk (dr s 19) fun ad => dk (dr s 4) fun mk => dk (wM s) fun o => dk (Ad s n) fun ps => dk (dr s 2) fun cl => dk (vA s (decide (mk = 0) && decide (n ≠ 0)) cl 5) fun an => dk (xM s o.1.length R) fun de => dk (qU 2) fun _ => dk (yW s o.1.length fn 6) fun h => fp ⟨ui n, 100 + ad * 50, decide (mk = 0) && decide (n ≠ 0), o.1, o.2, ps, an, de, h⟩
def y6 (R fn k : Nat) : DM (List be) := gu (fun i l => dk (zR s R fn i) fun g => fp (l ++ [g])) [] k
def B3 (k : Nat) : DM (List dG) := gu (fun i l => dk (dr s 3) fun a => dk (dr s 4) fun b => fp (l ++ [⟨wr BL i, 0 - a * 100, 0, b * 100⟩])) [] k
def As : List dB := [⟨0, 64, 64⟩, ⟨0, 32, 64⟩, ⟨-64, -64, 0⟩, ⟨-1, 0, 5⟩, ⟨10, 32, 50⟩]
def Ar (k : Nat) : DM (List dB) := gu (fun _ l => dk (dr s 5) fun z => fp (l ++ [As.getD z.toNat ⟨0, 0, 0⟩])) [] k
def Bv (axes k : Nat) : DM (List (List dB)) := gu (fun _ l => dk (Ar s axes) fun r => fp (l ++ [r])) [] k
def wV (axes : Nat) : DM (List (List dB)) := if axes = 0 then fp [] else dk (dr s 4) fun n => Bv s axes n.toNat
def zQ (k : Nat) : DM (List (List ew)) := gu (fun i l => dk (qU 0) fun _ => dk (yW s 6 i 4) fun h => fp (l ++ [h])) [] k
def BM (k : Nat) : DM (List Int) := gu (fun _ l => dk (dr s 500) fun z => fp (l ++ [z - 100])) [] k
def x4 : List Int := [97, 98, 99, 102, 105, 108, 57345, 57346, 57601, 57602, 57603, 57857, 57861, 58113, 58114, 58369]
def zH (n : Int) (k : Nat) : DM (List eS) := gu (fun i l => dk (dr s 4) fun z => if 0 < z then dk (dr s n) fun g => fp (l ++ [⟨x4.getD i 0, g⟩]) else fp l) [] k
def Aa : List ByteArray := [bytes [108, 105, 103, 97], bytes [105, 115, 111, 108], bytes [105, 110, 105, 116], bytes [109, 101, 100, 105], bytes [102, 105, 110, 97], bytes [107, 101, 114, 110], bytes [109, 97, 114, 107], bytes [99, 97, 108, 116]]
def BK (k : Nat) : DM (List Int) := gu (fun i l => dk (dr s 3) fun z => fp (if z = 0 then l ++ [(i : Int)] else l)) [] k
def zO (n : Nat) (k : Nat) : DM (List bA) := gu (fun i l => dk (BK s n) fun r => dk (dr s 2) fun z => fp (if z = 0 then l ++ [⟨Aa.getD i ByteArray.empty, r⟩] else l)) [] k
def Ax : List Int := [1000, 1024, 100, 2048]
def Bk : DM aH := dk (dr s 4) fun u => dk (dr s 3) fun k => dk (B3 s k.toNat) fun ax => dk (wV s k.toNat) fun rg => dk (dr s 3) fun k2 => dk (zQ s k2.toNat) fun fu => dk (dr s 4) fun k3 => dk (BM s k3.toNat) fun cv => dk (dr s 9) fun k4 => dk (y6 s rg.length fu.length (2 + k4).toNat) fun gl => dk (zH s gl.length 16) fun ch => dk (ww s gl.length) fun lk => dk (zO s lk.length 8) fun ft => fp ⟨Ax.getD u.toNat 0, gl, ch, lk, ft, ax, rg, fu, cv⟩
def Cc : aH := (Bk s ⟨0, 0⟩).1
def BA : List Int := x4 ++ [122]
def Cf : List Int := (s.take 20).map fun z => BA.getD (z % 17).toNat 0
end
end Go.Proofs.YtpbinloeemebkaaGreat

namespace Go.Proofs.YtpbinloeemebkaaGreat
open Go.RowKit
attribute [local irreducible] AT bN AX AO Av Kt bi dE DA d6
structure MF where
 u : AV
 gl : AV
 ch : AV
 lk : AV
 ft : AV
 ax : AV
 rg : AV
 fu : AV
 cv : AV
def Cl (s : List Int) (F : MF) (m : MS) : List AV := [.imm 1 (aV s), aQ (min m.a s.length : Nat), F.u, F.gl, F.ch, F.lk, F.ft, F.ax, F.rg, F.fu, F.cv, aQ (m.lo.val : Nat)]
abbrev Cd (b : Nat) (s : List Int) (F : MF) (m : MS) : Nat × AB := (b, .box (Cl s F m) 145)
def Ch (f : FuncId) (args : List AV) (s : List Int) (F : MF) {α : Type} (u : DM α) (out : α → AV) : Prop := ∀ (b : Nat) (m : MS), AC Tryz.prog f (eV b :: args) [Cd b s F m] fun c L => c = out (u m).1 ∧ L = [Cd b s F (u m).2]
end Go.Proofs.YtpbinloeemebkaaGreat

namespace Go.Proofs.YtpbinloeemebkaaGreat
open Go.RowKit
attribute [local irreducible] AT bN AX AO Av Kt bi dE DA d6
section
variable {P : Program} {tt : TT} {nt : Nat} {fr : c9} {B : Bs} {L L' : AL}
theorem bY (ok : eW P tt) (i : Nat) (L' : AL) {fn : Func} {Post : AV → AL → Prop} {t : Tmp} {e e' : TypeId} {b k : Nat} {cs : List AV} (hr : fn.results = #[.cell t e]) (hk : B0 tt e = some k) (hv : bZ fr t = some (.sc (.pointer (some ⟨b, 0, none⟩)))) (hL : L[i]? = some (b, .box cs e')) (hl : Nat.beq cs.length k = true) (hs : L'.Sublist L) (h : Post (.agg cs) L') :
  AX P .ret (bodyPost P fn (ib B Post)) nt [] fr B L := by
 unfold AX
 intro σ a w ha hw
 haveI := mQ ok hk
 obtain ⟨vs, hb, hs', h1⟩ := hw.boxCell hL
 have hl := Nat.eq_of_beq_eq_true hl
 refine ⟨ha.defers, _, l6 (cs := vs) hr (ha.look t _ hv).sc_inv (hs'.1.symm.trans hl) (fun j v hj => by rw [da hb, Nat.zero_add]; simpa using hj), _, σ, _, L', rfl, .agg cs vs hs'.1 hs'.2 h1, hw.sublist hs, h⟩
end
end Go.Proofs.YtpbinloeemebkaaGreat

namespace Go.Proofs.YtpbinloeemebkaaGreat
open Go.RowKit
attribute [local irreducible] AT bN AX AO Av Kt bi dE DA d6
def tL (f : FuncId) (args : List AV) (C : Prop) : Prop := AC Tryz.prog f args [] fun c L => L = [] ∧ ∃ e i : Int, c = .agg [aQ e, aQ i] ∧ (e = 0 ↔ C)
def mB (f : aH) : Prop := f.Chars.length ≤ 1000 ∧ ∀ i c, f.Chars[i]? = some c → dR f i c = 0
set_option maxHeartbeats 8000000 in
theorem vS (f : aH) (hs : ck f) : tL 116 [bw f] (mB f) := by
 refine aU Tryz.func116 rfl Tryz.ntmps116 rfl fun B => ?_
 have hml : (f.Glyphs.map bz).length = f.Glyphs.length := List.length_map ..
 have hG := hs.glyphs
 (repeat' (first|refine ah ?_|refine a6 ?_|refine a8 ?_|refine aa ?_|refine ae a7 rfl rfl ?_|refine b6 ?_|refine bb a7 fun _=>?_|fail))
 rename_i rb
 refine av rfl (fun h => ?_) (fun h => ?_)
 ·have h := of_decide_eq_true h
  rw [List.length_map] at h
  (repeat' (first|refine ah ?_|refine a6 ?_|refine au ?_|refine a8 ?_|refine ar ?_|refine aa ?_|refine ae a7 rfl rfl ?_|(apply aT; first|refine ai 4 a7 0 rfl rfl rfl rfl rfl rfl rfl rfl ?_|refine ai 4 a7 1 rfl rfl rfl rfl rfl rfl rfl rfl ?_|refine ai 4 a7 2 rfl rfl rfl rfl rfl rfl rfl rfl ?_|refine aj a7 0 rfl rfl rfl rfl rfl rfl rfl ?_|refine aj a7 1 rfl rfl rfl rfl rfl rfl rfl ?_|refine aj a7 2 rfl rfl rfl rfl rfl rfl rfl ?_|refine aj a7 3 rfl rfl rfl rfl rfl rfl rfl ?_|fail)|fail))
  exact bY a7 0 [] rfl rfl rfl rfl rfl (List.nil_sublist _) ⟨rfl, 2, 0, rfl, bF (by omega) fun k => by have := k.1; omega⟩
 have hl : f.Chars.length ≤ 1000 := by have := of_decide_eq_false h; rw [List.length_map] at this; omega
 clear h
 (repeat' (first|refine ah ?_|refine a6 ?_|refine am ?_|refine ak ?_|refine a8 ?_|refine aa ?_|refine ae a7 rfl rfl ?_|fail))
 refine aL [1, 2] (α := Nat) (fun i => [(3, aQ i)]) (fun i => i ≤ f.Chars.length ∧ ∀ j y, j < i → f.Chars[j]? = some y → dR f j y = 0) (fun _ => [(rb, .box [aQ 0, aQ 0] 139)]) (fun i => f.Chars.length - i) 0 rfl ⟨rfl, trivial⟩ ⟨Nat.zero_le _, fun j y hj => absurd hj (Nat.not_lt_zero _)⟩ (fun _ _ h => h) ?_
 rintro i ⟨hi, ha⟩
 try dsimp only [List.cons_append, List.nil_append, List.map_cons, List.map_nil]
 (repeat' (first|refine ah ?_|refine a6 ?_|refine a8 ?_|refine aa ?_|refine ae a7 rfl rfl ?_|fail))
 refine av rfl (fun h => ?_) (fun h => ?_)
 ·have hil : i < f.Chars.length := by have := of_decide_eq_true h; rw [List.length_map] at this; omega
  obtain ⟨x, hx⟩ : ∃ z, f.Chars[i]? = some z := ⟨_, List.getElem?_eq_getElem hil⟩
  have hxg := b5 (c := dY) hx
  have hno : ¬ dR f i x = 0 → ¬ mB f := fun h k => h (k.2 i x hx)
  have hE : dR f i x = if x.Rune < 0 ∨ x.Rune > 1114111 then 1 else if eG f x.Glyph = false then 32 else cS (nu f i x) 24 := rfl
  (repeat' (first|refine ah ?_|refine a6 ?_|refine am ?_|refine ak ?_|refine a8 ?_|refine aa ?_|refine ae a7 rfl rfl ?_|(apply aP; first|refine aO a7 ?_|refine aI a7 ?_)|(apply aT; first|refine ai 4 a7 0 rfl rfl rfl rfl rfl rfl rfl rfl ?_|refine ai 4 a7 1 rfl rfl rfl rfl rfl rfl rfl rfl ?_|refine ai 4 a7 2 rfl rfl rfl rfl rfl rfl rfl rfl ?_|refine aj a7 0 rfl rfl rfl rfl rfl rfl rfl ?_|refine aj a7 1 rfl rfl rfl rfl rfl rfl rfl ?_|refine aj a7 2 rfl rfl rfl rfl rfl rfl rfl ?_|refine aj a7 3 rfl rfl rfl rfl rfl rfl rfl ?_|fail)|refine bb a7 fun _=>?_|fail))
  refine bv (t := 29) [1, 2, 3, 4] (x.Rune < 0 ∨ x.Rune > 1114111) rfl (fun Q' K => ?_) ?_
  ·(repeat' (first|refine aa ?_|refine ae a7 rfl rfl ?_|refine aw rfl rfl ?_|refine aD rfl rfl rfl rfl ?_|refine aS rfl rfl rfl (fun _ => ?_) (fun _ => ?_)|fail))
   all_goals exact K _ _ rfl rfl (by clear K hno ha hE; simp_all <;> omega)
  (repeat' (first|refine a8 ?_|fail))
  refine av rfl (fun h2 => ?_) (fun h2 => ?_)
  ·have h2 := of_decide_eq_true h2
   (repeat' (first|refine ah ?_|refine a6 ?_|refine au ?_|refine a8 ?_|refine ar ?_|refine aG ?_|refine aK ?_|refine aa ?_|refine ae a7 rfl rfl ?_|(apply aT; first|refine ai 4 a7 0 rfl rfl rfl rfl rfl rfl rfl rfl ?_|refine ai 4 a7 1 rfl rfl rfl rfl rfl rfl rfl rfl ?_|refine ai 4 a7 2 rfl rfl rfl rfl rfl rfl rfl rfl ?_|refine aj a7 0 rfl rfl rfl rfl rfl rfl rfl ?_|refine aj a7 1 rfl rfl rfl rfl rfl rfl rfl ?_|refine aj a7 2 rfl rfl rfl rfl rfl rfl rfl ?_|refine aj a7 3 rfl rfl rfl rfl rfl rfl rfl ?_|fail)|fail))
   exact bY a7 0 [] rfl rfl rfl rfl rfl (List.nil_sublist _) ⟨rfl, 1, i, rfl, bF (by omega) (hno (by rw [hE, if_pos h2]; omega))⟩
  have h2 := of_decide_eq_false h2
  (repeat' (first|refine ah ?_|refine a6 ?_|refine ak ?_|refine a8 ?_|refine ae a7 rfl rfl ?_|fail))
  refine bv (t := 42) [1, 2, 3, 4] (x.Glyph < 0 ∨ x.Glyph ≥ f.Glyphs.length) rfl (fun Q' K => ?_) ?_
  ·(repeat' (first|refine aa ?_|refine ae a7 rfl rfl ?_|refine aw rfl rfl ?_|refine aD rfl rfl rfl rfl ?_|refine aS rfl rfl rfl (fun _ => ?_) (fun _ => ?_)|fail))
   all_goals exact K _ _ rfl rfl (by clear K hno ha hE; simp_all <;> omega)
  (repeat' (first|refine a8 ?_|fail))
  refine av rfl (fun h3 => ?_) (fun h3 => ?_)
  ·have h3 := of_decide_eq_true h3
   (repeat' (first|refine ah ?_|refine a6 ?_|refine au ?_|refine a8 ?_|refine ar ?_|refine aG ?_|refine aK ?_|refine aa ?_|refine ae a7 rfl rfl ?_|(apply aT; first|refine ai 4 a7 0 rfl rfl rfl rfl rfl rfl rfl rfl ?_|refine ai 4 a7 1 rfl rfl rfl rfl rfl rfl rfl rfl ?_|refine ai 4 a7 2 rfl rfl rfl rfl rfl rfl rfl rfl ?_|refine aj a7 0 rfl rfl rfl rfl rfl rfl rfl ?_|refine aj a7 1 rfl rfl rfl rfl rfl rfl rfl ?_|refine aj a7 2 rfl rfl rfl rfl rfl rfl rfl ?_|refine aj a7 3 rfl rfl rfl rfl rfl rfl rfl ?_|fail)|fail))
   exact bY a7 0 [] rfl rfl rfl rfl rfl (List.nil_sublist _) ⟨rfl, 32, i, rfl, bF (by omega) (hno (by rw [hE, if_neg h2, if_pos (show eG f x.Glyph = false from decide_eq_false (by omega))]; omega))⟩
  have h3 := of_decide_eq_false h3
  have hg : ¬ eG f x.Glyph = false := by unfold eG; rw [decide_eq_true (by omega)]; simp
  have hbad : nu f i x = true → ¬ dR f i x = 0 := fun hd => by rw [hE, if_neg h2, if_neg hg, hd]; unfold cS; simp
  have hgood : nu f i x = false → dR f i x = 0 := fun hd => by rw [hE, if_neg h2, if_neg hg, hd]; rfl
  (repeat' (first|refine ah ?_|refine ak ?_|refine a8 ?_|fail))
  refine bj 12 [(0, .v), (1, .v), (2, .v), (3, .v), (4, .v), (5, .v), (6, .v), (7, .v), (8, .v), (9, .v), (10, .v), (11, .v)] none ?_ trivial rfl (by kernel_rfl) (by kernel_rfl) (by kernel_rfl) mixed (by kernel_rfl) rfl
  (repeat' (first|refine aN ?_|refine bf a7 ?_|fail))
  by_cases h4 : (0 : Int) < i
  ·rw [decide_eq_true h4]
   obtain ⟨j, rfl⟩ : ∃ j, i = j + 1 := ⟨i - 1, by omega⟩
   obtain ⟨y, hy⟩ : ∃ z, f.Chars[j]? = some z := ⟨_, List.getElem?_eq_getElem (by omega)⟩
   have hyg := b5 (c := dY) hy
   have hdl : nu f (j + 1) x = decide (x.Rune ≤ y.Rune) := by show (match f.Chars[j]? with | some b => decide (x.Rune ≤ b.Rune) | none => false) = _; rw [hy]
   have hj1 : ((j + 1 : Nat) : Int) - 1 = (j : Int) := by omega
   (repeat' (first|refine aN ?_|refine bf a7 ?_|(apply ey;refine fH ?_)|fail))
   rw [hj1]
   (repeat' (first|refine aN ?_|refine bf a7 ?_|(apply bs;refine bH a7 ?_)|fail))
   refine bl [1, 2, 3, 47, 49, 56] rfl rfl ?_
   (repeat' (first|refine a8 ?_|refine aa ?_|refine ae a7 rfl rfl ?_|refine aw rfl rfl ?_|fail))
   refine av rfl (fun h7 => ?_) (fun h7 => ?_)
   ·have h7 := of_decide_eq_true h7
    (repeat' (first|refine ah ?_|refine a6 ?_|refine au ?_|refine a8 ?_|refine ar ?_|refine aG ?_|refine aK ?_|refine aa ?_|refine ae a7 rfl rfl ?_|(apply aT; first|refine ai 4 a7 0 rfl rfl rfl rfl rfl rfl rfl rfl ?_|refine ai 4 a7 1 rfl rfl rfl rfl rfl rfl rfl rfl ?_|refine ai 4 a7 2 rfl rfl rfl rfl rfl rfl rfl rfl ?_|refine aj a7 0 rfl rfl rfl rfl rfl rfl rfl ?_|refine aj a7 1 rfl rfl rfl rfl rfl rfl rfl ?_|refine aj a7 2 rfl rfl rfl rfl rfl rfl rfl ?_|refine aj a7 3 rfl rfl rfl rfl rfl rfl rfl ?_|fail)|fail))
    exact bY a7 0 [] rfl rfl rfl rfl rfl (List.nil_sublist _) ⟨rfl, 24, (j + 1 : Nat), rfl, bF (by omega) (hno (hbad (by rw [hdl]; exact decide_eq_true h7)))⟩
   have h7 := of_decide_eq_false h7
   (repeat' (first|refine a6 ?_|refine ak ?_|refine a8 ?_|refine aJ ?_|refine aa ?_|refine ae a7 rfl rfl ?_|(apply aX; refine aW ?_)|fail))
   exact aE (j + 1 + 1) rfl ⟨by rw [Int.natCast_add]; rfl, trivial⟩ ⟨by omega, fv hx ha (hgood (by rw [hdl]; exact decide_eq_false h7))⟩ (by omega) (fun _ _ h => h)
  ·rw [decide_eq_false h4]
   (repeat' (first|refine aN ?_|refine f3 rfl rfl ?_|fail))
   refine bl [1, 2, 3, 47, 49, 56] rfl rfl ?_
   (repeat' (first|refine a6 ?_|refine ak ?_|refine a8 ?_|refine aJ ?_|refine aa ?_|refine ae a7 rfl rfl ?_|refine aD rfl rfl rfl rfl ?_|(apply aX; refine aW ?_)|refine bV rfl ?_|fail))
   have hi0 : i = 0 := by omega
   exact aE (i + 1) rfl ⟨by rw [Int.natCast_add]; rfl, trivial⟩ ⟨by omega, fv hx ha (hgood (by rw [hi0]; rfl))⟩ (by omega) (fun _ _ h => h)
 have hil : i = f.Chars.length := by have := of_decide_eq_false h; rw [List.length_map] at this; omega
 subst hil
 (repeat' (first|refine ah ?_|refine a6 ?_|refine au ?_|refine aR ?_|refine a8 ?_|refine az ?_|refine aC ?_|refine aA ?_|refine aa ?_|refine ae a7 rfl rfl ?_|(apply aT; first|refine ai 4 a7 0 rfl rfl rfl rfl rfl rfl rfl rfl ?_|refine ai 4 a7 1 rfl rfl rfl rfl rfl rfl rfl rfl ?_|refine ai 4 a7 2 rfl rfl rfl rfl rfl rfl rfl rfl ?_|refine aj a7 0 rfl rfl rfl rfl rfl rfl rfl ?_|refine aj a7 1 rfl rfl rfl rfl rfl rfl rfl ?_|refine aj a7 2 rfl rfl rfl rfl rfl rfl rfl ?_|refine aj a7 3 rfl rfl rfl rfl rfl rfl rfl ?_|fail)|fail))
 exact bY a7 0 [] rfl rfl rfl rfl rfl (List.nil_sublist _) ⟨rfl, 0, 0, rfl, ⟨fun _ => ⟨hl, fun j y hy => ha j y (List.getElem?_eq_some_iff.1 hy).1 hy⟩, fun _ => rfl⟩⟩
end Go.Proofs.YtpbinloeemebkaaGreat

namespace Go.Proofs.YtpbinloeemebkaaGreat
open Go.RowKit
attribute [local irreducible] AT bN AX AO Av Kt bi dE DA d6
def kx (kind : Int) (r : bJ) : Prop := r.In.length = 0 ∨ ((kind = 1 ∨ kind = 2 ∨ kind = 5) ∧ r.In.length ≠ 1) ∨ (kind = 6 ∧ (r.In.length ≠ 2 ∨ r.Back.length > 0 ∨ r.Ahead.length > 0))
instance (kind : Int) (r : bJ) : Decidable (kx kind r) := by unfold kx; infer_instance
theorem ra (kind : Int) (r : bJ) : iN kind r = 0 ↔ (r.Back.length ≤ 6 ∧ r.In.length ≤ 6 ∧ r.Ahead.length ≤ 6) ∧ ¬ kx kind r := by
 unfold iN
 by_cases h : (r.Back.length : Int) > 6 ∨ (r.In.length : Int) > 6 ∨ (r.Ahead.length : Int) > 6
 ·rw [if_pos h]
  exact ⟨fun k => absurd k (by omega), fun k => by omega⟩
 rw [if_neg h, cO (by omega), ← Bool.not_eq_true]
 rw [show (fY kind r = true) = kx kind r from propext ?_]
 ·exact ⟨fun k => ⟨by omega, k⟩, fun k => k.2⟩
 unfold fY kx
 split
 ·rw [decide_eq_true_iff]; omega
 ·split
  ·rw [decide_eq_true_iff]; omega
  ·rw [decide_eq_true_iff]; omega
set_option maxHeartbeats 8000000 in
theorem yw (kind : Int) (r : bJ) : vi 257 [aQ kind, .agg (ca r)] (iN kind r = 0) := by
 refine aU Tryz.func257 rfl Tryz.ntmps257 rfl fun B => ?_
 rw [ra]
 have hb := cq r.Back
 have hi := cq r.In
 have ha := cq r.Ahead
 (repeat' (first|refine ah ?_|refine a6 ?_|refine a8 ?_|refine aa ?_|refine ae a7 rfl rfl ?_|refine b6 ?_|fail))
 refine bv (t := 21) [0, 3] (r.Back.length > 6 ∨ r.In.length > 6 ∨ r.Ahead.length > 6) rfl (fun Q' K => ?_) ?_
 ·(repeat' (first|refine aa ?_|refine ae a7 rfl rfl ?_|refine aw rfl rfl ?_|refine aD rfl rfl rfl rfl ?_|refine aS rfl rfl rfl (fun _ => ?_) (fun _ => ?_)|fail))
  all_goals exact K _ _ rfl rfl (by clear K; simp_all <;> omega)
 (repeat' (first|refine a8 ?_|fail))
 refine av rfl (fun h => ?_) (fun h => ?_)
 ·have h := of_decide_eq_true h
  (repeat' (first|refine ah ?_|refine a6 ?_|refine au ?_|refine a8 ?_|refine ar ?_|refine aa ?_|refine ae a7 rfl rfl ?_|fail))
  exact aB rfl rfl ⟨rfl, 2, rfl, bF (by omega) fun k => by omega⟩
 have h1 := of_decide_eq_false h
 clear h
 (repeat' (first|refine ah ?_|refine a6 ?_|refine ak ?_|refine a8 ?_|refine ae a7 rfl rfl ?_|fail))
 refine bv (t := 5) [0, 3] (kind = 1 ∨ kind = 2 ∨ kind = 5) rfl (fun Q' K => ?_) ?_
 ·(repeat' (first|refine aa ?_|refine ae a7 rfl rfl ?_|refine aw rfl rfl ?_|refine aD rfl rfl rfl rfl ?_|refine aS rfl rfl rfl (fun _ => ?_) (fun _ => ?_)|fail))
  all_goals exact K _ _ rfl rfl (by clear K hb hi ha h1; simp_all)
 (repeat' (first|refine ah ?_|refine a6 ?_|refine a8 ?_|refine ae a7 rfl rfl ?_|fail))
 refine bv (t := 64) [] (kx kind r) rfl (fun Q' K => ?_) ?_
 ·(repeat' (first|refine aa ?_|refine ae a7 rfl rfl ?_|refine aw rfl rfl ?_|refine aD rfl rfl rfl rfl ?_|refine bT rfl rfl rfl ?_|(apply aX; refine aW ?_)|refine aS rfl rfl rfl (fun _ => ?_) (fun _ => ?_)|fail))
  all_goals exact K _ _ rfl rfl (by clear K; unfold kx; simp_all <;> omega)
 (repeat' (first|refine a8 ?_|fail))
 refine av rfl (fun h => ?_) (fun h => ?_)
 ·have h := of_decide_eq_true h
  (repeat' (first|refine ah ?_|refine a6 ?_|refine au ?_|refine a8 ?_|refine ar ?_|refine aa ?_|refine ae a7 rfl rfl ?_|fail))
  exact aB rfl rfl ⟨rfl, 40, rfl, bF (by omega) fun k => k.2 h⟩
 have h := of_decide_eq_false h
 (repeat' (first|refine ah ?_|refine a6 ?_|refine ak ?_|refine au ?_|refine a8 ?_|refine aa ?_|refine ae a7 rfl rfl ?_|fail))
 exact aB rfl rfl ⟨rfl, 0, rfl, ⟨fun _ => ⟨by omega, h⟩, fun _ => rfl⟩⟩
end Go.Proofs.YtpbinloeemebkaaGreat

namespace Go.Proofs.YtpbinloeemebkaaGreat
open Go.RowKit
attribute [local irreducible] AT bN AX AO Av Kt bi dE DA d6
theorem p2 {l : List Int} (h : gG l = true) : ∀ k j, j ≤ k → k < l.length → l.getD j 0 ≤ l.getD k 0 := by
 have h := of_decide_eq_true h
 intro k
 induction k with
 | zero => intro j hj _; rw [Nat.le_zero.1 hj]; exact Int.le_refl _
 | succ k ih =>
  intro j hj hk
  by_cases e : j = k + 1
  ·rw [e]; exact Int.le_refl _
  ·have h1 := ih j (by omega) (by omega)
   have h2 := h k (by omega)
   omega
theorem nq {f : aH} {l : List Int} : ez f l = true ↔ 0 < l.length ∧ ∀ j z, l[j]? = some z → eG f z = true ∧ ∀ k, k + 1 = j → l.getD k 0 < z := by
 unfold ez
 rw [Bool.and_eq_true, Bool.and_eq_true, Bool.and_eq_true, decide_eq_true_iff]
 constructor
 ·rintro ⟨h1, h2, h3, h4⟩
  refine ⟨h1, fun j z hz => ?_⟩
  have hj := (List.getElem?_eq_some_iff.1 hz).1
  have hg := eD hz
  unfold eG at h3 h4 ⊢
  have h3 := of_decide_eq_true h3
  have h4 := of_decide_eq_true h4
  have h5 := p2 h2 j 0 (Nat.zero_le _) hj
  have h6 := p2 h2 (l.length - 1) j (by omega) (by omega)
  refine ⟨decide_eq_true (by omega), fun k hk => ?_⟩
  have h7 := of_decide_eq_true h2 k (by omega)
  rw [hk] at h7
  omega
 ·rintro ⟨h1, h2⟩
  obtain ⟨a, ha⟩ : ∃ z, l[0]? = some z := ⟨_, List.getElem?_eq_getElem h1⟩
  obtain ⟨b, hb⟩ : ∃ z, l[l.length - 1]? = some z := ⟨_, List.getElem?_eq_getElem (by omega)⟩
  refine ⟨h1, decide_eq_true fun i hi => ?_, by rw [eD ha]; exact (h2 0 a ha).1, by rw [eD hb]; exact (h2 _ b hb).1⟩
  obtain ⟨c, hc⟩ : ∃ z, l[i + 1]? = some z := ⟨_, List.getElem?_eq_getElem (by omega)⟩
  rw [eD hc]
  exact (h2 (i + 1) c hc).2 i rfl
set_option maxHeartbeats 8000000 in
theorem s9 (f : aH) (l : List Int) : bo Tryz.prog 278 [bw f, .imm 1 (aV l)] (c8 (ez f l)) := by
 refine aU Tryz.func278 rfl Tryz.ntmps278 rfl fun B => ?_
 refine cg 1 rfl rfl fun hlen => ?_
 have hll := aM l
 rw [aM] at hlen
 have hml : (f.Glyphs.map bz).length = f.Glyphs.length := List.length_map ..
 (repeat' (first|refine ah ?_|refine a6 ?_|refine am ?_|refine a8 ?_|refine aa ?_|refine ae a7 rfl rfl ?_|refine b6 ?_|fail))
 refine aL [1, 2] (α := Nat) (fun i => [(5, aQ i)]) (fun i => i ≤ l.length ∧ ∀ j z, j < i → l[j]? = some z → eG f z = true ∧ ∀ k, k + 1 = j → l.getD k 0 < z) (fun _ => []) (fun i => l.length - i) 0 rfl ⟨rfl, trivial⟩ ⟨Nat.zero_le _, fun j z hj => absurd hj (Nat.not_lt_zero _)⟩ (fun _ _ h => h) ?_
 rintro i ⟨hi, ha⟩
 try dsimp only [List.cons_append, List.nil_append, List.map_cons, List.map_nil]
 (repeat' (first|refine ah ?_|refine a6 ?_|refine a8 ?_|refine aa ?_|refine ae a7 rfl rfl ?_|fail))
 refine av rfl (fun h => ?_) (fun h => ?_)
 ·have hil : i < l.length := by have := of_decide_eq_true h; omega
  obtain ⟨x, hx⟩ : ∃ z, l[i]? = some z := ⟨_, List.getElem?_eq_getElem hil⟩
  have hxg := bk hx
  have hno : ¬ (eG f x = true ∧ ∀ k, k + 1 = i → l.getD k 0 < x) → ez f l = false := fun h => by
   rw [← Bool.not_eq_true, nq]
   exact fun k => h (k.2 i x hx)
  have hyes : (eG f x = true ∧ ∀ k, k + 1 = i → l.getD k 0 < x) → ∀ j z, j < i + 1 → l[j]? = some z → eG f z = true ∧ ∀ k, k + 1 = j → l.getD k 0 < z := by
   intro h j z hj hz
   by_cases e : j = i
   ·subst e
    rw [hx] at hz
    exact Option.some.inj hz ▸ h
   ·exact ha j z (by omega) hz
  have hG : eG f x = decide (0 ≤ x ∧ x < f.Glyphs.length) := rfl
  (repeat' (first|refine ah ?_|refine am ?_|refine ak ?_|refine a8 ?_|fail))
  refine bj 29 [(0, .v), (1, .v), (2, .v), (3, .v), (4, .v), (5, .v), (6, .v), (7, .v), (8, .v), (9, .v), (10, .v), (11, .v), (12, .v), (13, .v), (14, .v), (15, .v), (16, .v), (17, .v), (18, .v), (19, .v), (20, .v), (21, .v), (22, .v), (23, .v), (24, .v), (25, .v), (26, .v), (27, .v), (28, .v)] none ?_ trivial rfl (by kernel_rfl) (by kernel_rfl) (by kernel_rfl) mixed (by kernel_rfl) rfl
  (repeat' (first|refine aN ?_|refine bf a7 ?_|(apply bs;refine bH a7 ?_)|fail))
  by_cases h1 : x < 0
  ·rw [decide_eq_true h1]
   (repeat' (first|refine aN ?_|refine bf a7 ?_|refine f3 rfl rfl ?_|refine oK rfl ?_|fail))
   refine bl [1, 2, 5, 27, 30, 40] rfl rfl ?_
   (repeat' (first|refine ah ?_|refine a6 ?_|refine au ?_|refine a8 ?_|refine ar ?_|refine aG ?_|refine aK ?_|refine aa ?_|refine ae a7 rfl rfl ?_|refine aD rfl rfl rfl rfl ?_|refine bI rfl ?_|fail))
   exact aB rfl rfl (by rw [hno (fun k => by rw [hG, decide_eq_true_iff] at k; omega)])
  rw [decide_eq_false h1]
  (repeat' (first|refine aN ?_|refine bf a7 ?_|(apply bs;refine bH a7 ?_)|fail))
  by_cases h2 : ((f.Glyphs.map bz).length : Int) ≤ x
  ·rw [decide_eq_true h2]
   (repeat' (first|refine aN ?_|refine f3 rfl rfl ?_|refine oK rfl ?_|fail))
   refine bl [1, 2, 5, 27, 30, 40] rfl rfl ?_
   (repeat' (first|refine ah ?_|refine a6 ?_|refine au ?_|refine a8 ?_|refine ar ?_|refine aG ?_|refine aK ?_|refine aa ?_|refine ae a7 rfl rfl ?_|refine aD rfl rfl rfl rfl ?_|refine bI rfl ?_|fail))
   exact aB rfl rfl (by rw [hno (fun k => by rw [hG, decide_eq_true_iff] at k; omega)])
  rw [decide_eq_false h2]
  have hg : eG f x = true := by rw [hG]; exact decide_eq_true (by omega)
  (repeat' (first|refine aN ?_|refine bf a7 ?_|fail))
  by_cases h4 : (0 : Int) < i
  ·rw [decide_eq_true h4]
   obtain ⟨j, rfl⟩ : ∃ j, i = j + 1 := ⟨i - 1, by omega⟩
   obtain ⟨y, hy⟩ : ∃ z, l[j]? = some z := ⟨_, List.getElem?_eq_getElem (by omega)⟩
   have hyg := bk hy
   have hyd := eD hy
   have hj1 : ((j + 1 : Nat) : Int) - 1 = (j : Int) := by omega
   (repeat' (first|refine aN ?_|refine bf a7 ?_|(apply ey;refine fH ?_)|(apply bs;refine bH a7 ?_)|fail))
   rw [hj1]
   (repeat' (first|refine aN ?_|refine bf a7 ?_|(apply bs;refine bH a7 ?_)|fail))
   refine bl [1, 2, 5, 27, 30, 40] rfl rfl ?_
   (repeat' (first|refine a8 ?_|refine aa ?_|refine ae a7 rfl rfl ?_|refine aw rfl rfl ?_|fail))
   refine av rfl (fun h7 => ?_) (fun h7 => ?_)
   ·have h7 := of_decide_eq_true h7
    (repeat' (first|refine ah ?_|refine a6 ?_|refine au ?_|refine a8 ?_|refine ar ?_|refine aG ?_|refine aK ?_|refine aa ?_|refine ae a7 rfl rfl ?_|fail))
    exact aB rfl rfl (by rw [hno (fun k => by have := k.2 j rfl; omega)])
   have h7 := of_decide_eq_false h7
   (repeat' (first|refine a6 ?_|refine ak ?_|refine a8 ?_|refine aJ ?_|refine aa ?_|refine ae a7 rfl rfl ?_|(apply aX; refine aW ?_)|fail))
   exact aE (j + 1 + 1) rfl ⟨by rw [Int.natCast_add]; rfl, trivial⟩ ⟨by omega, hyes ⟨hg, fun k hk => by rw [show k = j by omega, hyd]; omega⟩⟩ (by omega) (fun _ _ h => h)
  ·rw [decide_eq_false h4]
   (repeat' (first|refine aN ?_|refine f3 rfl rfl ?_|fail))
   refine bl [1, 2, 5, 27, 30, 40] rfl rfl ?_
   (repeat' (first|refine a6 ?_|refine ak ?_|refine a8 ?_|refine aJ ?_|refine aa ?_|refine ae a7 rfl rfl ?_|refine aw rfl rfl ?_|(apply aX; refine aW ?_)|refine bV rfl ?_|fail))
   exact aE (i + 1) rfl ⟨by rw [Int.natCast_add]; rfl, trivial⟩ ⟨by omega, hyes ⟨hg, fun k hk => by omega⟩⟩ (by omega) (fun _ _ h => h)
 have hil : i = l.length := by have := of_decide_eq_false h; omega
 subst hil
 (repeat' (first|refine ah ?_|refine a6 ?_|refine au ?_|refine aR ?_|refine a8 ?_|refine az ?_|refine aC ?_|refine aA ?_|refine aa ?_|refine ae a7 rfl rfl ?_|fail))
 refine aB rfl rfl ?_
 rw [hll]
 refine congrArg c8 ?_
 rw [Bool.eq_iff_iff, decide_eq_true_iff, nq]
 exact ⟨fun h => ⟨by omega, fun j z hz => ha j z (List.getElem?_eq_some_iff.1 hz).1 hz⟩, fun h => by have := h.1; omega⟩
instance (f : aH) (l : List Int) : AD Tryz.prog 278 [bw f, .imm 1 (aV l)] (c8 (ez f l)) := ⟨s9 f l⟩
end Go.Proofs.YtpbinloeemebkaaGreat

namespace Go.Proofs.YtpbinloeemebkaaGreat
open Go.RowKit
attribute [local irreducible] AT bN AX AO Av Kt bi dE DA d6
section
variable {P : Program} {tt : TT} {l : List Oper} {fr : c9} {fin : lj} {sk : mx} {acc : c9} {L : AL} {k : Nat} {dd : Option Tmp} {ty t : TypeId} {pos : String} {af : Array Edge} {g : Option (Nat × Bool)}
theorem zJ (ok : eW P tt) {e sz by_ n : Nat} {parts : Array (Nat × Operand)} {vs : List AV} {xs : List (List AV)} (ht : mj tt t = some (e, sz, by_)) (hv : eU (dp l.toArray acc fr af.toList) (parts.toList.map (·.2)) = some vs) (hxs : gJ vs = some xs) (hn : Nat.beq xs.length n = true) (hi : parts.toList.map (·.1) = List.range' 0 n) (hz : xs.all (fun q => Nat.beq q.length sz) = true) (h24 : Nat.ble (n * sz) 16777216 = true) (hg : mp ⟨dd, .buildSlice t n parts, ty, pos, af, g⟩ acc) (h : ∀ b, DA P l fr fin sk ((k, .vec (some (b, n)) sz xs) :: acc) ((b, .vec e sz n n) :: L)) :
  d6 P l fr fin k .e ⟨dd, .buildSlice t n parts, ty, pos, af, g⟩ sk acc L :=
 io hg (fun _ => rK (bL ok ht).1 (bL ok ht).2 hv hxs hn hi hz h24) fun c L' ⟨b, h1, h2⟩ => by subst h1; subst h2; exact h b
end
set_option maxHeartbeats 8000000 in
theorem yA (f : aH) (r : bJ) (hl : r.Back.length + r.In.length + r.Ahead.length ≤ 1000000) : vi 258 [bw f, .agg (ca r)] (∀ l ∈ fQ r, ez f l = true) := by
 refine aU Tryz.func258 rfl Tryz.ntmps258 rfl fun B => ?_
 have hb := cq r.Back
 have hi := cq r.In
 have ha := cq r.Ahead
 (repeat' (first|refine ah ?_|refine a6 ?_|refine a8 ?_|refine aa ?_|refine ae a7 rfl rfl ?_|refine b6 ?_|fail))
 refine bj 9 [(1, .v), (2, .v), (4, .v), (5, .v), (7, .v), (8, .v), (0, .e), (3, .e), (6, .e)] none ?_ trivial rfl (by kernel_rfl) (by kernel_rfl) (by kernel_rfl) mixed (by kernel_rfl) rfl
 (repeat' (first|refine aN ?_|refine bf a7 ?_|fail))
 refine zJ a7 rfl rfl rfl rfl rfl rfl rfl trivial fun b => ?_
 (repeat' (first|refine aN ?_|fail))
 refine iW a7 [] rfl rfl rfl rfl (by rw [List.append_nil]; exact List.Perm.refl _) (by simp [hb]; omega) (by simp [hb]; omega) trivial fun q1 => ?_
 rw [List.append_nil]
 (repeat' (first|refine aN ?_|fail))
 refine iW a7 [] rfl rfl rfl rfl (by rw [List.append_nil]) (by simp [hb, hi]; omega) (by simp [hb, hi]; omega) trivial fun q2 => ?_
 rw [List.append_nil]
 (repeat' (first|fail))
 refine bl [2, 14, 16] rfl rfl ?_
 (repeat' (first|fail))
 refine cF a7 [] rfl rfl rfl rfl (by rw [List.append_nil]) (by simp [hb, hi, ha]; omega) (by simp [hb, hi, ha]; omega) rfl fun q3 => ?_
 rw [List.append_nil]
 have hall : [] ++ c7 r.Back ++ c7 r.In ++ c7 r.Ahead = c7 (fQ r) := by unfold fQ c7; simp
 rw [hall]
 have hsl : (fQ r).length ≤ 1000000 := by unfold fQ; simp only [List.length_append]; omega
 have hsi := cq (fQ r)
 generalize fQ r = S at hsl hsi ⊢
 (repeat' (first|refine ah ?_|refine a6 ?_|refine am ?_|refine a8 ?_|refine aa ?_|refine ae a7 rfl rfl ?_|fail))
 refine aL [2, 5] (α := Nat) (fun i => [(6, aQ i)]) (fun i => i ≤ S.length ∧ ∀ l ∈ S.take i, ez f l = true) (fun _ => tok q3 29 1 (c7 S).length) (fun i => S.length - i) 0 rfl ⟨rfl, trivial⟩ ⟨Nat.zero_le _, fun x hx => by cases hx⟩ (fun _ _ h => h) ?_
 rintro i ⟨hk, hok⟩
 try dsimp only [List.cons_append, List.nil_append, List.map_cons, List.map_nil]
 (repeat' (first|refine ah ?_|refine a6 ?_|refine a8 ?_|refine aa ?_|refine ae a7 rfl rfl ?_|fail))
 refine av rfl (fun h => ?_) (fun h => ?_)
 ·have hil : i < S.length := by have := of_decide_eq_true h; omega
  obtain ⟨x, hx⟩ : ∃ z, S[i]? = some z := ⟨_, List.getElem?_eq_getElem hil⟩
  have hxg := fq hx
  (repeat' (first|refine ah ?_|refine am ?_|refine ak ?_|refine a8 ?_|fail))
  refine bj 5 [(0, .v), (1, .v), (2, .v), (3, .v), (4, .v)] none ?_ trivial rfl (by kernel_rfl) (by kernel_rfl) (by kernel_rfl) mixed (by kernel_rfl) rfl
  (repeat' (first|refine aN ?_|refine bf a7 ?_|(apply bs;refine bH a7 ?_)|fail))
  refine bl [2, 5, 6, 24, 28] rfl rfl ?_
  (repeat' (first|refine ah ?_|refine a6 ?_|refine a8 ?_|refine aa ?_|refine ae a7 rfl rfl ?_|(apply ba;refine aY ?_)|fail))
  refine av rfl (fun h2 => ?_) (fun h2 => ?_)
  ·have h2 : ez f x = false := by simpa using h2
   (repeat' (first|refine ah ?_|refine a6 ?_|refine au ?_|refine a8 ?_|refine ar ?_|refine aG ?_|refine aK ?_|refine aa ?_|refine ae a7 rfl rfl ?_|fail))
   exact eH (L' := []) (List.nil_sublist _) (aB rfl rfl ⟨rfl, 41, rfl, bF (by omega) fun k => by rw [k x (List.mem_of_getElem? hx)] at h2; cases h2⟩)
  have h2 : ez f x = true := by simpa using h2
  (repeat' (first|refine a6 ?_|refine ak ?_|refine a8 ?_|refine aJ ?_|refine aa ?_|refine ae a7 rfl rfl ?_|(apply aX; refine aW ?_)|fail))
  exact aE (i + 1) rfl ⟨by rw [Int.natCast_add]; rfl, trivial⟩ ⟨by omega, cN hx hok h2⟩ (by omega) (fun _ _ h => h)
 have hil : i = S.length := by have := of_decide_eq_false h; omega
 subst hil
 rw [List.take_length] at hok
 (repeat' (first|refine ah ?_|refine a6 ?_|refine au ?_|refine aR ?_|refine a8 ?_|refine az ?_|refine aC ?_|refine aA ?_|refine aa ?_|refine ae a7 rfl rfl ?_|fail))
 exact eH (L' := []) (List.nil_sublist _) (aB rfl rfl ⟨rfl, 0, rfl, ⟨fun _ => hok, fun _ => rfl⟩⟩)
end Go.Proofs.YtpbinloeemebkaaGreat

namespace Go.Proofs.YtpbinloeemebkaaGreat
open Go.RowKit
attribute [local irreducible] AT bN AX AO Av Kt bi dE DA d6
section
variable {P : Program} {r : Option Nat} {Q : Exit → Act → World → Prop} {nt : Nat} {D : List Deferred} {fr : c9} {B : Bs} {L : AL}
theorem xz {A C : Code} (ks : List Nat) (fr1 : c9) (L1 : AL) (hA : ∀ Q', (∀ fr', fO fr' ks = some fr1 → AX P .normal Q' nt D fr' B L1) → AT P r A Q' nt D fr B L) (hB : AT P r C Q nt D fr1 B L1) : AT P r A (Kt P r C Q) nt D fr B L :=
 hA _ fun _ h => a8 (xw ks h hB)
end
set_option maxHeartbeats 8000000 in
theorem yo (f : aH) (kind : Int) (r : bJ) (hin : r.In ≠ []) (hol : r.Out.length ≤ 1000000) (hcl : r.Calls.length ≤ 1000000) : vi 259 [bw f, aQ kind, .agg (ca r)] (hY kind r = true ∧ (∀ n ∈ r.Out, eG f n = true) ∧ eP f kind r = 0 ∧ cx r.X = true ∧ xE kind r = 0) := by
 refine aU Tryz.func259 rfl Tryz.ntmps259 rfl fun B => ?_
 have hml : (f.Glyphs.map bz).length = f.Glyphs.length := List.length_map ..
 have hmL : (f.Lookups.map bq).length = f.Lookups.length := List.length_map ..
 obtain ⟨y, hy⟩ : ∃ y, r.In[0]? = some y := ⟨_, List.getElem?_eq_getElem (List.length_pos_iff.2 hin)⟩
 have hyg := fq hy
 have hOl := aM r.Out
 (repeat' (first|refine ah ?_|refine a6 ?_|refine a8 ?_|refine aa ?_|refine ae a7 rfl rfl ?_|refine b6 ?_|fail))
 refine xz [1, 3, 5, 7, 8] [(1, aQ kind), (3, .iptr (bO f)), (5, .iptr (ca r)), (7, .sc (.int .i64 ((aV r.Out).length : Int))), (8, c8 (!hY kind r))] [] (fun Q' K => ?_) ?_
 ·have hv : hY kind r = if kind = 1 ∨ kind = 5 then decide (((aV r.Out).length : Int) = ((aV y).length : Int)) else if kind = 2 then decide (((aV r.Out).length : Int) ≤ 6) else if kind = 3 then decide (((aV r.Out).length : Int) = 1) else decide (((aV r.Out).length : Int) = 0) := by
   have hd : r.In.headD [] = y := by
    cases hI : r.In with
    | nil => exact absurd hI hin
    | cons y' q => rw [hI] at hy; simpa using hy
   unfold hY
   rw [hd, aM, aM]
  have hn : ∀ (p q : Prop) [Decidable p] [Decidable q], (¬ p ↔ q) → (!decide p) = decide q := fun p q _ _ h => by
   rw [Bool.eq_iff_iff, Bool.not_eq_true', decide_eq_false_iff_not, decide_eq_true_iff]; exact h
  by_cases h1 : kind = 1
  ·rw [show (!hY kind r) = decide (((aV r.Out).length : Int) ≠ ((aV y).length : Int)) by rw [hv, if_pos (.inl h1)]; exact hn _ _ Iff.rfl] at K
   subst h1
   (repeat' (first|refine ah ?_|refine a6 ?_|refine am ?_|refine ak ?_|refine a8 ?_|refine aJ ?_|refine aa ?_|refine ae a7 rfl rfl ?_|(apply aP; first|refine aO a7 ?_|refine aI a7 ?_)|refine bI rfl ?_|fail))
   exact K _ rfl
  by_cases h5 : kind = 5
  ·rw [show (!hY kind r) = decide (((aV r.Out).length : Int) ≠ ((aV y).length : Int)) by rw [hv, if_pos (.inr h5)]; exact hn _ _ Iff.rfl] at K
   subst h5
   (repeat' (first|refine ah ?_|refine a6 ?_|refine am ?_|refine a8 ?_|refine aJ ?_|refine aa ?_|refine ae a7 rfl rfl ?_|(apply aP; first|refine aO a7 ?_|refine aI a7 ?_)|refine bI rfl ?_|refine bV rfl ?_|fail))
   exact K _ rfl
  rw [if_neg (by omega)] at hv
  by_cases h2 : kind = 2
  ·rw [show (!hY kind r) = decide ((6 : Int) < ((aV r.Out).length : Int)) by rw [hv, if_pos h2]; exact hn _ _ (by omega)] at K
   subst h2
   (repeat' (first|refine ah ?_|refine a6 ?_|refine am ?_|refine a8 ?_|refine aJ ?_|refine aa ?_|refine ae a7 rfl rfl ?_|refine bI rfl ?_|refine bV rfl ?_|fail))
   exact K _ rfl
  rw [if_neg h2] at hv
  by_cases h3 : kind = 3
  ·rw [show (!hY kind r) = decide (((aV r.Out).length : Int) ≠ 1) by rw [hv, if_pos h3]; exact hn _ _ Iff.rfl] at K
   subst h3
   (repeat' (first|refine ah ?_|refine a6 ?_|refine am ?_|refine a8 ?_|refine aJ ?_|refine aa ?_|refine ae a7 rfl rfl ?_|refine bI rfl ?_|refine bV rfl ?_|fail))
   exact K _ rfl
  rw [if_neg h3] at hv
  rw [show (!hY kind r) = decide ((0 : Int) < ((aV r.Out).length : Int)) by rw [hv]; exact hn _ _ (by omega)] at K
  (repeat' (first|refine ah ?_|refine a6 ?_|refine am ?_|refine a8 ?_|refine aa ?_|refine ae a7 rfl rfl ?_|fail))
  refine av rfl (fun h => absurd (of_decide_eq_true h) h1) (fun _ => ?_)
  (repeat' (first|refine a6 ?_|refine a8 ?_|refine aa ?_|refine ae a7 rfl rfl ?_|fail))
  refine av rfl (fun h => absurd (of_decide_eq_true h) h5) (fun _ => ?_)
  (repeat' (first|refine ah ?_|refine a6 ?_|refine a8 ?_|refine aa ?_|refine ae a7 rfl rfl ?_|fail))
  refine av rfl (fun h => absurd (of_decide_eq_true h) h2) (fun _ => ?_)
  (repeat' (first|refine ah ?_|refine a6 ?_|refine a8 ?_|refine aa ?_|refine ae a7 rfl rfl ?_|fail))
  refine av rfl (fun h => absurd (of_decide_eq_true h) h3) (fun _ => ?_)
  (repeat' (first|refine ak ?_|refine aJ ?_|fail))
  exact K _ rfl
 (repeat' (first|refine ah ?_|refine a6 ?_|refine a8 ?_|refine aa ?_|refine ae a7 rfl rfl ?_|fail))
 refine av rfl (fun h => ?_) (fun h => ?_)
 ·have h : hY kind r = false := by simpa using h
  (repeat' (first|refine ah ?_|refine a6 ?_|refine au ?_|refine a8 ?_|refine ar ?_|refine aa ?_|refine ae a7 rfl rfl ?_|fail))
  exact aB rfl rfl ⟨rfl, 40, rfl, bF (by omega) fun k => by rw [k.1] at h; cases h⟩
 have hout : hY kind r = true := by simpa using h
 clear h
 (repeat' (first|refine ah ?_|refine a6 ?_|refine am ?_|refine ak ?_|refine a8 ?_|refine aa ?_|refine ae a7 rfl rfl ?_|fail))
 refine aL [1, 3, 5, 7] (α := Nat) (fun i => [(9, aQ i)]) (fun i => i ≤ r.Out.length ∧ ∀ n ∈ r.Out.take i, eG f n = true) (fun _ => []) (fun i => r.Out.length - i) 0 rfl ⟨rfl, trivial⟩ ⟨Nat.zero_le _, fun x hx => by cases hx⟩ (fun _ _ h => h) ?_
 rintro i ⟨hi, ha⟩
 try dsimp only [List.cons_append, List.nil_append, List.map_cons, List.map_nil]
 (repeat' (first|refine ah ?_|refine a6 ?_|refine a8 ?_|refine aa ?_|refine ae a7 rfl rfl ?_|fail))
 refine av rfl (fun h => ?_) (fun h => ?_)
 ·have hil : i < r.Out.length := by have := of_decide_eq_true h; omega
  obtain ⟨x, hx⟩ : ∃ z, r.Out[i]? = some z := ⟨_, List.getElem?_eq_getElem hil⟩
  have hxg := bk hx
  have hG : eG f x = decide (0 ≤ x ∧ x < f.Glyphs.length) := rfl
  have hno : eG f x = false → ¬ (hY kind r = true ∧ (∀ n ∈ r.Out, eG f n = true) ∧ eP f kind r = 0 ∧ cx r.X = true ∧ xE kind r = 0) := fun h k => by
   rw [k.2.1 x (List.mem_of_getElem? hx)] at h; cases h
  (repeat' (first|refine ah ?_|refine am ?_|refine ak ?_|refine a8 ?_|fail))
  refine bj 15 [(0, .v), (1, .v), (2, .v), (3, .v), (4, .v), (5, .v), (6, .v), (7, .v), (8, .v), (9, .v), (10, .v), (11, .v), (12, .v), (13, .v), (14, .v)] none ?_ trivial rfl (by kernel_rfl) (by kernel_rfl) (by kernel_rfl) mixed (by kernel_rfl) rfl
  (repeat' (first|refine aN ?_|refine bf a7 ?_|(apply bs;refine bH a7 ?_)|fail))
  by_cases h1 : x < 0
  ·rw [decide_eq_true h1]
   (repeat' (first|refine aN ?_|refine f3 rfl rfl ?_|fail))
   refine bl [1, 3, 5, 7, 9, 49, 54, 57] rfl rfl ?_
   (repeat' (first|refine ah ?_|refine a6 ?_|refine au ?_|refine a8 ?_|refine ar ?_|refine aG ?_|refine aK ?_|refine aa ?_|refine ae a7 rfl rfl ?_|refine aD rfl rfl rfl rfl ?_|refine bI rfl ?_|fail))
   exact aB rfl rfl ⟨rfl, 32, rfl, bF (by omega) (hno (by rw [hG]; exact decide_eq_false (by omega)))⟩
  rw [decide_eq_false h1]
  (repeat' (first|refine aN ?_|refine bf a7 ?_|(apply bs;refine bH a7 ?_)|fail))
  refine bl [1, 3, 5, 7, 9, 49, 54, 57] rfl rfl ?_
  (repeat' (first|refine a8 ?_|refine aa ?_|refine ae a7 rfl rfl ?_|refine aw rfl rfl ?_|fail))
  refine av rfl (fun h2 => ?_) (fun h2 => ?_)
  ·have h2 := of_decide_eq_true h2
   (repeat' (first|refine ah ?_|refine a6 ?_|refine au ?_|refine a8 ?_|refine ar ?_|refine aG ?_|refine aK ?_|refine aa ?_|refine ae a7 rfl rfl ?_|fail))
   exact aB rfl rfl ⟨rfl, 32, rfl, bF (by omega) (hno (by rw [hG]; exact decide_eq_false (by omega)))⟩
  have h2 := of_decide_eq_false h2
  (repeat' (first|refine a6 ?_|refine ak ?_|refine a8 ?_|refine aJ ?_|refine aa ?_|refine ae a7 rfl rfl ?_|(apply aX; refine aW ?_)|fail))
  exact aE (i + 1) rfl ⟨by rw [Int.natCast_add]; rfl, trivial⟩ ⟨by omega, cN hx ha (by rw [hG]; exact decide_eq_true (by omega))⟩ (by omega) (fun _ _ h => h)
 have hil : i = r.Out.length := by have := of_decide_eq_false h; omega
 subst hil
 rw [List.take_length] at ha
 clear h hi
 have hci : (r.Calls.map g8).length = r.Calls.length := List.length_map ..
 (repeat' (first|refine ah ?_|refine a6 ?_|refine aR ?_|refine a8 ?_|refine az ?_|refine aC ?_|refine aA ?_|refine aa ?_|refine ae a7 rfl rfl ?_|fail))
 refine av rfl (fun h => ?_) (fun h => ?_)
 ·have h := of_decide_eq_true h
  (repeat' (first|refine ah ?_|refine a6 ?_|refine au ?_|refine a8 ?_|refine ar ?_|refine aa ?_|refine ae a7 rfl rfl ?_|fail))
  exact aB rfl rfl ⟨rfl, 2, rfl, bF (by omega) fun k => by have := k.2.2.1; unfold eP at this; rw [if_pos (by omega)] at this; omega⟩
 have hc6 : ¬ (r.Calls.length : Int) > 6 := by have := of_decide_eq_false h; omega
 clear h
 (repeat' (first|refine ah ?_|refine a6 ?_|refine ak ?_|refine a8 ?_|refine ae a7 rfl rfl ?_|fail))
 refine bv (t := 71) [1, 3, 5] ((r.Calls.length : Int) > 0 ∧ kind ≠ 4) rfl (fun Q' K => ?_) ?_
 ·(repeat' (first|refine aa ?_|refine ae a7 rfl rfl ?_|refine aw rfl rfl ?_|refine aD rfl rfl rfl rfl ?_|refine aS rfl rfl rfl (fun _ => ?_) (fun _ => ?_)|fail))
  all_goals exact K _ _ rfl rfl (by clear K ha hout; simp_all <;> omega)
 (repeat' (first|refine a8 ?_|fail))
 refine av rfl (fun h => ?_) (fun h => ?_)
 ·have h := of_decide_eq_true h
  (repeat' (first|refine ah ?_|refine a6 ?_|refine au ?_|refine a8 ?_|refine ar ?_|refine aa ?_|refine ae a7 rfl rfl ?_|fail))
  exact aB rfl rfl ⟨rfl, 40, rfl, bF (by omega) fun k => by have := k.2.2.1; unfold eP at this; rw [if_neg hc6, if_pos h] at this; omega⟩
 have hc4 := of_decide_eq_false h
 clear h
 have hcalls : eP f kind r = 0 ↔ ∀ i c, r.Calls[i]? = some c → m4 f r i c = 0 := by
  unfold eP
  rw [if_neg hc6, if_neg hc4, dm]
 have hIl := cq r.In
 (repeat' (first|refine ah ?_|refine a6 ?_|refine am ?_|refine ak ?_|refine a8 ?_|refine aa ?_|refine ae a7 rfl rfl ?_|fail))
 refine aL [1, 3, 5] (α := Nat) (fun i => [(10, aQ i)]) (fun i => i ≤ r.Calls.length ∧ ∀ j y, j < i → r.Calls[j]? = some y → m4 f r j y = 0) (fun _ => []) (fun i => r.Calls.length - i) 0 rfl ⟨rfl, trivial⟩ ⟨Nat.zero_le _, fun j y hj => absurd hj (Nat.not_lt_zero _)⟩ (fun _ _ h => h) ?_
 rintro i ⟨hi, hb⟩
 try dsimp only [List.cons_append, List.nil_append, List.map_cons, List.map_nil]
 (repeat' (first|refine ah ?_|refine a6 ?_|refine a8 ?_|refine aa ?_|refine ae a7 rfl rfl ?_|fail))
 refine av rfl (fun h => ?_) (fun h => ?_)
 ·have hil : i < r.Calls.length := by have := of_decide_eq_true h; omega
  obtain ⟨x, hx⟩ : ∃ z, r.Calls[i]? = some z := ⟨_, List.getElem?_eq_getElem hil⟩
  have hxg := b5 (c := g8) hx
  have hno : ¬ m4 f r i x = 0 → ¬ (hY kind r = true ∧ (∀ n ∈ r.Out, eG f n = true) ∧ eP f kind r = 0 ∧ cx r.X = true ∧ xE kind r = 0) := fun h k => h (hcalls.1 k.2.2.1 i x hx)
  have hE : m4 f r i x = if x.At < 0 ∨ x.At ≥ r.In.length then 40 else if x.Lookup < 0 ∨ x.Lookup ≥ f.Lookups.length then 42 else cS (decide (j9 f x.Lookup < 1 ∨ j9 f x.Lookup > 4)) 42 := rfl
  (repeat' (first|refine ah ?_|refine a6 ?_|refine am ?_|refine ak ?_|refine a8 ?_|refine aa ?_|refine ae a7 rfl rfl ?_|(apply aP; first|refine aO a7 ?_|refine aI a7 ?_)|(apply aT; first|refine ai 11 a7 0 rfl rfl rfl rfl rfl rfl rfl rfl ?_|refine ai 11 a7 1 rfl rfl rfl rfl rfl rfl rfl rfl ?_|refine ai 11 a7 2 rfl rfl rfl rfl rfl rfl rfl rfl ?_|refine aj a7 0 rfl rfl rfl rfl rfl rfl rfl ?_|refine aj a7 1 rfl rfl rfl rfl rfl rfl rfl ?_|refine aj a7 2 rfl rfl rfl rfl rfl rfl rfl ?_|refine aj a7 3 rfl rfl rfl rfl rfl rfl rfl ?_|fail)|refine bb a7 fun _=>?_|fail))
  refine bv (t := 94) [1, 3, 5, 10, 11] (x.At < 0 ∨ x.At ≥ r.In.length) rfl (fun Q' K => ?_) ?_
  ·(repeat' (first|refine aa ?_|refine ae a7 rfl rfl ?_|refine aw rfl rfl ?_|refine aD rfl rfl rfl rfl ?_|refine aS rfl rfl rfl (fun _ => ?_) (fun _ => ?_)|fail))
   all_goals exact K _ _ rfl rfl (by clear K ha hout hno hE hcalls hb; simp_all <;> omega)
  (repeat' (first|refine a8 ?_|fail))
  refine av rfl (fun h2 => ?_) (fun h2 => ?_)
  ·have h2 := of_decide_eq_true h2
   (repeat' (first|refine ah ?_|refine a6 ?_|refine au ?_|refine a8 ?_|refine ar ?_|refine aG ?_|refine aK ?_|refine aa ?_|refine ae a7 rfl rfl ?_|fail))
   exact aB rfl rfl ⟨rfl, 40, rfl, bF (by omega) (hno (by rw [hE, if_pos h2]; omega))⟩
  have h2 := of_decide_eq_false h2
  (repeat' (first|refine ah ?_|refine a6 ?_|refine ak ?_|refine a8 ?_|refine ae a7 rfl rfl ?_|fail))
  by_cases h5 : x.Lookup < 0
  ·rw [decide_eq_true h5]
   (repeat' (first|refine ah ?_|refine a6 ?_|refine au ?_|refine a8 ?_|refine ar ?_|refine aG ?_|refine aK ?_|refine aa ?_|refine ae a7 rfl rfl ?_|refine aD rfl rfl rfl rfl ?_|refine bI rfl ?_|fail))
   exact aB rfl rfl ⟨rfl, 42, rfl, bF (by omega) (hno (by rw [hE, if_neg h2, if_pos (.inl h5)]; omega))⟩
  rw [decide_eq_false h5]
  (repeat' (first|refine ae a7 rfl rfl ?_|refine aw rfl rfl ?_|fail))
  by_cases h6 : ((f.Lookups.map bq).length : Int) ≤ x.Lookup
  ·rw [decide_eq_true h6]
   (repeat' (first|refine ah ?_|refine a6 ?_|refine au ?_|refine a8 ?_|refine ar ?_|refine aG ?_|refine aK ?_|refine aa ?_|refine ae a7 rfl rfl ?_|refine aD rfl rfl rfl rfl ?_|refine bI rfl ?_|fail))
   exact aB rfl rfl ⟨rfl, 42, rfl, bF (by omega) (hno (by rw [hE, if_neg h2, if_pos (.inr (by omega))]; omega))⟩
  rw [decide_eq_false h6]
  obtain ⟨lk, hlk⟩ : ∃ z, f.Lookups[x.Lookup.toNat]? = some z := ⟨_, List.getElem?_eq_getElem (by omega)⟩
  have hlg := b5 (c := bq) hlk
  have hkd : j9 f x.Lookup = lk.Kind := by unfold j9; rw [hlk]
  rw [if_neg h2, if_neg (by omega), hkd] at hE
  (repeat' (first|refine ae a7 rfl rfl ?_|refine aw rfl rfl ?_|(apply aP; first|refine aO a7 ?_|refine aI a7 ?_)|fail))
  by_cases h7 : lk.Kind < 1
  ·rw [decide_eq_true h7]
   (repeat' (first|refine ah ?_|refine a6 ?_|refine au ?_|refine a8 ?_|refine ar ?_|refine aG ?_|refine aK ?_|refine aa ?_|refine ae a7 rfl rfl ?_|refine aD rfl rfl rfl rfl ?_|refine bI rfl ?_|fail))
   exact aB rfl rfl ⟨rfl, 42, rfl, bF (by omega) (hno (by rw [hE, decide_eq_true (.inl h7)]; unfold cS; simp))⟩
  rw [decide_eq_false h7]
  (repeat' (first|refine a8 ?_|refine aa ?_|refine ae a7 rfl rfl ?_|refine aw rfl rfl ?_|(apply aP; first|refine aO a7 ?_|refine aI a7 ?_)|fail))
  refine av rfl (fun h8 => ?_) (fun h8 => ?_)
  ·have h8 := of_decide_eq_true h8
   (repeat' (first|refine ah ?_|refine a6 ?_|refine au ?_|refine a8 ?_|refine ar ?_|refine aG ?_|refine aK ?_|refine aa ?_|refine ae a7 rfl rfl ?_|fail))
   exact aB rfl rfl ⟨rfl, 42, rfl, bF (by omega) (hno (by rw [hE, decide_eq_true (.inr h8)]; unfold cS; simp))⟩
  have h8 := of_decide_eq_false h8
  (repeat' (first|refine a6 ?_|refine ak ?_|refine a8 ?_|refine aJ ?_|refine aa ?_|refine ae a7 rfl rfl ?_|(apply aX; refine aW ?_)|fail))
  exact aE (i + 1) rfl ⟨by rw [Int.natCast_add]; rfl, trivial⟩ ⟨by omega, fv hx hb (by rw [hE, decide_eq_false (by omega)]; rfl)⟩ (by omega) (fun _ _ h => h)
 have hil : i = r.Calls.length := by have := of_decide_eq_false h; omega
 subst hil
 have hcz : eP f kind r = 0 := hcalls.2 fun j y hy => hb j y (List.getElem?_eq_some_iff.1 hy).1 hy
 clear h hi
 have hxE : xE kind r = 0 ↔ ¬ (r.X ≠ 0 ∧ kind ≠ 6) := by unfold xE; rw [cO (by omega), decide_eq_false_iff_not]
 (repeat' (first|refine ah ?_|refine a6 ?_|refine aR ?_|refine a8 ?_|refine az ?_|refine aC ?_|refine aA ?_|refine aa ?_|refine ae a7 rfl rfl ?_|(apply ba;refine aY ?_)|fail))
 refine av rfl (fun h => ?_) (fun h => ?_)
 ·have h : cx r.X = false := by simpa using h
  (repeat' (first|refine ah ?_|refine a6 ?_|refine au ?_|refine a8 ?_|refine ar ?_|refine aa ?_|refine ae a7 rfl rfl ?_|fail))
  exact aB rfl rfl ⟨rfl, 1, rfl, bF (by omega) fun k => by rw [k.2.2.2.1] at h; cases h⟩
 have hmay : cx r.X = true := by simpa using h
 clear h
 (repeat' (first|refine ah ?_|refine a6 ?_|refine ak ?_|refine a8 ?_|refine ae a7 rfl rfl ?_|fail))
 refine bv (t := 137) [] (r.X ≠ 0 ∧ kind ≠ 6) rfl (fun Q' K => ?_) ?_
 ·(repeat' (first|refine aa ?_|refine ae a7 rfl rfl ?_|refine aw rfl rfl ?_|refine aD rfl rfl rfl rfl ?_|refine aS rfl rfl rfl (fun _ => ?_) (fun _ => ?_)|fail))
  all_goals exact K _ _ rfl rfl (by clear K ha hout hcalls hb hcz hxE; simp_all)
 (repeat' (first|refine a8 ?_|fail))
 refine av rfl (fun h => ?_) (fun h => ?_)
 ·have h := of_decide_eq_true h
  (repeat' (first|refine ah ?_|refine a6 ?_|refine au ?_|refine a8 ?_|refine ar ?_|refine aa ?_|refine ae a7 rfl rfl ?_|fail))
  exact aB rfl rfl ⟨rfl, 40, rfl, bF (by omega) fun k => hxE.1 k.2.2.2.2 h⟩
 have h := of_decide_eq_false h
 (repeat' (first|refine ah ?_|refine a6 ?_|refine ak ?_|refine au ?_|refine a8 ?_|refine aa ?_|refine ae a7 rfl rfl ?_|fail))
 exact aB rfl rfl ⟨rfl, 0, rfl, ⟨fun _ => ⟨hout, ha, hcz, hmay, hxE.2 h⟩, fun _ => rfl⟩⟩
end Go.Proofs.YtpbinloeemebkaaGreat
