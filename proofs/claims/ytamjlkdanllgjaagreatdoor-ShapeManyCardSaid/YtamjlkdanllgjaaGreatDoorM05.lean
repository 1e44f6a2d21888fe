/-
  Fonts as data, and as abstract values.
-/
import Derived.Test.YtamjlkdanllgjaaGreatDoorM04
import Derived.MapKept
namespace Go.Proofs.YtamjlkdanllgjaaGreatDoor
open Go.RowKit
abbrev aD (z : Int) : AV := .sc (.int .i64 z)
abbrev qS (s : ByteArray) : AV := .sc (.string s)
abbrev ce (b : Bool) : AV := .sc (.bool b)
structure f8 where
 X : Int
 Y : Int
 On : Bool
structure d6 where
 Glyph : Int
 X : Int
 Y : Int
structure dI where
 Kind : Int
 Class : Int
 X : Int
 Y : Int
structure eC where
 Region : Int
 Point : Int
 X : Int
 Y : Int
structure eo where
 Op : Int
 A : Int
structure b7 where
 Name : ByteArray
 Advance : Int
 Mark : Bool
 Points : List f8
 Ends : List Int
 Parts : List d6
 Anchors : List dI
 Deltas : List eC
 Hint : List eo
structure d3 where
 Rune : Int
 Glyph : Int
structure jw where
 At : Int
 Lookup : Int
structure bn where
 Back : List (List Int)
 In : List (List Int)
 Ahead : List (List Int)
 Out : List Int
 Calls : List jw
 X : Int
structure bk where
 Kind : Int
 Ignore : Bool
 Rules : List bn
structure bI where
 Name : ByteArray
 Lookups : List Int
structure eu where
 Name : ByteArray
 Min : Int
 Def : Int
 Max : Int
structure eL where
 Start : Int
 Peak : Int
 End : Int
structure aP where
 Unit : Int
 Glyphs : List b7
 Chars : List d3
 Lookups : List bk
 Features : List bI
 Axes : List eu
 Regions : List (List eL)
 Funcs : List (List eo)
 Cvt : List Int
def ba (l : List (List Int)) : List (List AV) := l.map fun q => [.imm 1 (aT q)]
def sn (l : List ByteArray) : List (List AV) := l.map fun s => [qS s]
def fc (p : f8) : List AV := [aD p.X, aD p.Y, ce p.On]
def eN (p : d6) : List AV := [aD p.Glyph, aD p.X, aD p.Y]
def dR (p : dI) : List AV := [aD p.Kind, aD p.Class, aD p.X, aD p.Y]
def fD (p : eC) : List AV := [aD p.Region, aD p.Point, aD p.X, aD p.Y]
def f3 (p : eo) : List AV := [aD p.Op, aD p.A]
def bE (g : b7) : List AV := [qS g.Name, aD g.Advance, ce g.Mark, .imm 3 (g.Points.map fc), .imm 1 (aT g.Ends), .imm 3 (g.Parts.map eN), .imm 4 (g.Anchors.map dR), .imm 4 (g.Deltas.map fD), .imm 2 (g.Hint.map f3)]
def dS (c : d3) : List AV := [aD c.Rune, aD c.Glyph]
def gz (c : jw) : List AV := [aD c.At, aD c.Lookup]
def bL (r : bn) : List AV := [.imm 1 (ba r.Back), .imm 1 (ba r.In), .imm 1 (ba r.Ahead), .imm 1 (aT r.Out), .imm 2 (r.Calls.map gz), aD r.X]
def bo (l : bk) : List AV := [aD l.Kind, ce l.Ignore, .imm 6 (l.Rules.map bL)]
def bC (t : bI) : List AV := [qS t.Name, .imm 1 (aT t.Lookups)]
def eH (a : eu) : List AV := [qS a.Name, aD a.Min, aD a.Def, aD a.Max]
def rm (t : eL) : List AV := [aD t.Start, aD t.Peak, aD t.End]
def dz (r : List eL) : List AV := [.imm 3 (r.map rm)]
def eI (l : List eo) : List AV := [.imm 2 (l.map f3)]
def bH (f : aP) : List AV := [aD f.Unit, .imm 9 (f.Glyphs.map bE), .imm 2 (f.Chars.map dS), .imm 3 (f.Lookups.map bo), .imm 2 (f.Features.map bC), .imm 4 (f.Axes.map eH), .imm 1 (f.Regions.map dz), .imm 1 (f.Funcs.map eI), .imm 1 (aT f.Cvt)]
abbrev cf (f : aP) : AV := .agg (bH f)
theorem bO {α : Type} {c : α → List AV} {l : List α} {i : Nat} {a : α} (h : l[i]? = some a) : (l.map c)[i]? = some (c a) := by simp [h]
theorem zB (l : List ByteArray) : (sn l).length = l.length := by simp [sn]
theorem zA {l : List ByteArray} {i : Nat} {z : ByteArray} (h : l[i]? = some z) : (sn l)[i]? = some [qS z] := by simp [sn, h]
theorem c8 (l : List (List Int)) : (ba l).length = l.length := by simp [ba]
theorem gP {l : List (List Int)} {i : Nat} {z : List Int} (h : l[i]? = some z) : (ba l)[i]? = some [.imm 1 (aT z)] := by simp [ba, h]
section
variable {P : Program} {tt : TT} {r : Option Nat} {Q : Exit → Act → World → Prop} {nt : Nat} {D : List Deferred} {fr : bJ} {B : Bs} {L : AL} {l : List Oper} {fin : lc}
variable {k j : Nat} {s : Ak} {sk : mI} {acc : bJ} {dd : Option Tmp} {op : Op} {ty t t' : TypeId} {pos : String} {af : Array Edge} {g : Option (Nat × Bool)} {x y c : Operand} {u : AV} {want b : Bool}
def cw (P : Program) (l : List Oper) (fr : bJ) (fin : lc) (k : Nat) (s : Ak) (o : Oper) (sk : mI) (acc : bJ) (L : AL) : Prop := l[k]? = some o → DA P l fr fin ((k, s) :: sk) acc L
theorem aM {o : Oper} (h : cw P l fr fin k s o sk acc L) (ho : l[k]? = some o := by rfl) : DA P l fr fin ((k, s) :: sk) acc L := h ho
def jL (o : Oper) (acc : bJ) : Prop := match o.guard with
 | none => True
 | some (j, want) => oG acc j = .sc (.bool want)
theorem nd {o : Oper} {R : AV → AL → Prop} (hg : jL o acc) (h : ∀ B, AO P o (cO l.toArray acc fr o.after.toList) B L R) : vg P l fr o acc L R := by
 unfold vg
 unfold jL at hg
 split
 ·exact h
 ·rename_i j want hq
  rw [hq] at hg
  exact .inl ⟨hg, h⟩
theorem gp {o : Oper} (hg : jL o acc) (h : ∀ B L, AO P o (cO l.toArray acc fr o.after.toList) B L (fun c L' => c = u ∧ L' = L)) (hn : DA P l fr fin sk ((k, u) :: acc) L) : cw P l fr fin k .v o sk acc L := by
 intro ho
 obtain ⟨pl, hpl⟩ := hn
 exact ⟨.val k u pl, .v, sk, o, rfl, ho, .inl ⟨rfl, fun L => nd hg fun B => h B L⟩, hpl⟩
theorem xO {o : Oper} (hg : jL o acc) (h : ∀ B, AO P o (cO l.toArray acc fr o.after.toList) B L (fun c L' => c = u ∧ L' = L)) (hn : DA P l fr fin sk ((k, u) :: acc) L) : cw P l fr fin k .l o sk acc L := by
 intro ho
 obtain ⟨pl, hpl⟩ := hn
 exact ⟨.val k u pl, .l, sk, o, rfl, ho, .inr (.inl ⟨rfl, nd hg fun B => h B⟩), hpl⟩
theorem iL {o : Oper} {R : AV → AL → Prop} (hg : jL o acc) (h : ∀ B, AO P o (cO l.toArray acc fr o.after.toList) B L R) (hn : ∀ c L', R c L' → DA P l fr fin sk ((k, c) :: acc) L') : cw P l fr fin k .e o sk acc L := by
 intro ho
 have hn' : ∀ c L', ∃ pl, R c L' → cZ P l fr fin pl sk ((k, c) :: acc) L' := fun c L' => by
  by_cases hr : R c L'
  ·obtain ⟨pl, hpl⟩ := hn c L' hr
   exact ⟨pl, fun _ => hpl⟩
  ·exact ⟨.fin, fun h => absurd h hr⟩
 exact ⟨.eff k R fun c L' => Classical.choose (hn' c L'), .e, sk, o, .inl rfl, rfl, ho, nd hg h, fun c L' hr => Classical.choose_spec (hn' c L') hr⟩
theorem Dc {o : Oper} (hK : fy fin.gs L) (hg : jL o acc) (h : ∀ B L, fy fin.gs L → AO P o (cO l.toArray acc fr o.after.toList) B L (fun c L' => c = u ∧ L' = L)) (hn : DA P l fr fin sk ((k, u) :: acc) L) : cw P l fr fin k .k o sk acc L := by
 intro ho
 obtain ⟨pl, hpl⟩ := hn
 exact ⟨.val k u pl, .k, sk, o, rfl, ho, .inr (.inr ⟨rfl, hK, fun L hL => nd hg fun B => h B L hL⟩), hpl⟩
theorem Ar {o : Oper} {R : AV → AL → Prop} (hX : ∀ c L', R c L' → fy fin.gs L → fy fin.gs L') (hg : jL o acc) (h : ∀ B, AO P o (cO l.toArray acc fr o.after.toList) B L R) (hn : ∀ c L', R c L' → DA P l fr fin sk ((k, c) :: acc) L') : cw P l fr fin k .f o sk acc L := by
 intro ho
 have hn' : ∀ c L', ∃ pl, R c L' → cZ P l fr fin pl sk ((k, c) :: acc) L' := fun c L' => by
  by_cases hr : R c L'
  ·obtain ⟨pl, hpl⟩ := hn c L' hr
   exact ⟨pl, fun _ => hpl⟩
  ·exact ⟨.fin, fun h => absurd h hr⟩
 exact ⟨.eff k R fun c L' => Classical.choose (hn' c L'), .f, sk, o, .inr (.inr ⟨rfl, hX⟩), rfl, ho, nd hg h, fun c L' hr => Classical.choose_spec (hn' c L') hr⟩
theorem rz {op : Op} (hj : oG acc j = .sc (.bool b)) (hb : (b == want) = false) (hn : DA P l fr fin sk ((k, .sc undef) :: acc) L) : cw P l fr fin k .v ⟨dd, op, ty, pos, af, some (j, want)⟩ sk acc L := by
 intro ho
 obtain ⟨pl, hpl⟩ := hn
 exact ⟨.val k (.sc undef) pl, .v, sk, _, rfl, ho, .inl ⟨rfl, fun L => .inr ⟨⟨_, hj, fun e => by injection e with e; subst e; simp at hb⟩, rfl, rfl⟩⟩, hpl⟩
theorem Fj {o : Oper} {fr : bJ} (h : Av P o fr u) : ∀ B L, AO P o fr B L (fun c L' => c = u ∧ L' = L) := fun _ _ => h.ao
theorem bD (ok : dG P tt) (h : DA P l fr fin sk ((k, u) :: acc) L) (hu : ov tt (cO l.toArray acc fr af.toList) op = some u := by rfl) (hg : jL ⟨dd, op, ty, pos, af, g⟩ acc := by first | trivial | rfl) : cw P l fr fin k .v ⟨dd, op, ty, pos, af, g⟩ sk acc L := gp hg (Fj (ox ok hu)) h
theorem iM {bop : BinOp} (h : cw P l fr fin k .v ⟨dd, .binOp bop t x y t', ty, pos, af, g⟩ sk acc L) : cw P l fr fin k .v ⟨dd, .binOp bop t x y t', ty, pos, af, g⟩ sk acc L := h
theorem m9 {bop : BinOp} (h : DA P l fr fin sk ((k, u) :: acc) L) (ho : Av P ⟨dd, .binOp bop t x y t', ty, pos, af, g⟩ (cO l.toArray acc fr af.toList) u := by first | exact u7 rfl rfl (by omega) | exact ud rfl rfl (by omega) | exact uc rfl rfl (by omega)) (hg : jL ⟨dd, .binOp bop t x y t', ty, pos, af, g⟩ acc := by first | trivial | rfl) : cw P l fr fin k .v ⟨dd, .binOp bop t x y t', ty, pos, af, g⟩ sk acc L := gp hg (Fj ho) h
theorem dk (h : cw P l fr fin k .v ⟨dd, .indexAddr t x y, ty, pos, af, g⟩ sk acc L) : cw P l fr fin k .v ⟨dd, .indexAddr t x y, ty, pos, af, g⟩ sk acc L := h
theorem dT (ok : dG P tt) {e sz by_ s : Nat} {ll : List (List AV)} {ik : IntKind} {i : Int} {es : List AV} (h : DA P l fr fin sk ((k, .iptr es) :: acc) L) (ht : jH tt t = some (e, sz, by_) := by rfl) (hx : bh (cO l.toArray acc fr af.toList) x = some u := by rfl) (hu : iD u = some (s, ll) := by rfl) (hs : Nat.beq s sz = true := by rfl) (hy : bh (cO l.toArray acc fr af.toList) y = some (.sc (.int ik i)) := by rfl) (h0 : 0 ≤ i := by omega) (hl : ll[i.toNat]? = some es := by first | assumption | (simp only [Int.toNat_natCast]; assumption)) (hg : jL ⟨dd, .indexAddr t x y, ty, pos, af, g⟩ acc := by first | trivial | rfl) : cw P l fr fin k .v ⟨dd, .indexAddr t x y, ty, pos, af, g⟩ sk acc L := gp hg (Fj (ua (bz ok ht).1 hx (cV hu) hs hy h0 hl)) h
theorem cL {f : FuncId} {args : Array Operand} {ts : Array TypeId} (h : cw P l fr fin k .v ⟨dd, .call ⟨.value (.func f), args, ts⟩, ty, pos, af, g⟩ sk acc L) : cw P l fr fin k .v ⟨dd, .call ⟨.value (.func f), args, ts⟩, ty, pos, af, g⟩ sk acc L := h
theorem d8 {f : FuncId} {args : Array Operand} {ts : Array TypeId} {cs ds : List AV} [bv P f] (h : DA P l fr fin sk ((k, u) :: acc) L) (hv : dZ (cO l.toArray acc fr af.toList) args.toList = some cs := by rfl) (hi : lI cs = some ds := by rfl) (hc : AD P f ds u := by infer_instance) (hg : jL ⟨dd, .call ⟨.value (.func f), args, ts⟩, ty, pos, af, g⟩ acc := by first | trivial | rfl) : cw P l fr fin k .v ⟨dd, .call ⟨.value (.func f), args, ts⟩, ty, pos, af, g⟩ sk acc L := gp hg (fun _ _ => xm hv (by rw [gg hi]; exact hc.det)) h
theorem du (ok : dG P tt) (i : Nat) {b kk : Nat} {cs : List AV} {e : TypeId} (ht : BC tt t = true) (hx : bh (cO l.toArray acc fr af.toList) x = some (.sc (.pointer (some ⟨b, kk, none⟩)))) (hL : L[i]? = some (b, .box cs e)) (hc : cs[kk]? = some u) (hg : jL ⟨dd, .load t x, ty, pos, af, g⟩ acc) (h : DA P l fr fin sk ((k, u) :: acc) L) : cw P l fr fin k .l ⟨dd, .load t x, ty, pos, af, g⟩ sk acc L := xO hg (fun _ => pT i (c7 ok ht) hx hL hc) h
theorem mN (ok : dG P tt) (i : Nat) {b kk n : Nat} {cs : List AV} {e : TypeId} (ht : EG tt t = some n) (hx : bh (cO l.toArray acc fr af.toList) x = some (.sc (.pointer (some ⟨b, kk, none⟩)))) (hL : L[i]? = some (b, .box cs e)) (hc : Nat.ble (kk + n) cs.length = true) (hg : jL ⟨dd, .load t x, ty, pos, af, g⟩ acc) (h : DA P l fr fin sk ((k, .agg ((cs.drop kk).take n)) :: acc) L) : cw P l fr fin k .l ⟨dd, .load t x, ty, pos, af, g⟩ sk acc L := xO hg (fun _ => ra i (dh ok ht) hx hL hc) h
theorem w4 {gs : KpL} {i b kk : Nat} {v : AV} (hi : gs[i]? = some (.cell (b, kk, v))) {L : AL} (h : fy gs L) : ∃ (j : Nat) (cs : List AV) (e : TypeId), L[j]? = some (b, .box cs e) ∧ cs[kk]? = some v := by
 obtain ⟨cs, e, h1, h2⟩ := h _ (Hx hi)
 obtain ⟨j, hj⟩ := List.mem_iff_getElem?.1 h1
 exact ⟨j, cs, e, hj, h2⟩
theorem ut (ok : dG P tt) (i : Nat) {b kk : Nat} (ht : BC tt t = true) (hx : bh (cO l.toArray acc fr af.toList) x = some (.sc (.pointer (some ⟨b, kk, none⟩)))) (hi : fin.gs[i]? = some (.cell (b, kk, u))) (hK : fy fin.gs L) (hg : jL ⟨dd, .load t x, ty, pos, af, g⟩ acc) (h : DA P l fr fin sk ((k, u) :: acc) L) : cw P l fr fin k .k ⟨dd, .load t x, ty, pos, af, g⟩ sk acc L :=
 Dc hK hg (fun _ L' hL' => by
  obtain ⟨j, cs, e, h1, h2⟩ := w4 hi hL'
  exact pT j (c7 ok ht) hx h1 h2) h
theorem ue {d : Option Tmp} {e sz by_ n : Nat} {parts : Array (Nat × Operand)} {vs : List AV} {xs : List (List AV)} (hc : ke P t e sz by_) (hsz : 0 < sz) (hv : dZ fr (parts.toList.map (·.2)) = some vs) (hxs : gV vs = some xs) (hn : Nat.beq xs.length n = true) (hi : parts.toList.map (·.1) = List.range' 0 n) (hz : xs.all (fun q => Nat.beq q.length sz) = true) (h24 : Nat.ble (n * sz) 16777216 = true) :
  AO P ⟨d, .buildSlice t n parts, ty, pos, af, g⟩ fr B L (fun c L' => c = .imm sz xs ∧ L' = L) := by
 intro σ ρ w hρ hw
 refine (xo hc hsz hv hxs hn hi hz h24 σ ρ w hρ hw).mono fun v w' hh => ?_
 obtain ⟨τ, c, L', h1, h2, h3, b, rfl, rfl⟩ := hh
 exact ⟨τ, _, L, h1, h2.im, h3.sublist (.cons _ (List.Sublist.refl _)), rfl, rfl⟩
theorem iK (ok : dG P tt) {e sz by_ n : Nat} {parts : Array (Nat × Operand)} {vs : List AV} {xs : List (List AV)} (h : DA P l fr fin sk ((k, .imm sz xs) :: acc) L) (ht : jH tt t = some (e, sz, by_) := by rfl) (hv : dZ (cO l.toArray acc fr af.toList) (parts.toList.map (·.2)) = some vs := by rfl) (hxs : gV vs = some xs := by rfl) (hn : Nat.beq xs.length n = true := by rfl) (hi : parts.toList.map (·.1) = List.range' 0 n := by rfl) (hz : xs.all (fun q => Nat.beq q.length sz) = true := by rfl) (h24 : Nat.ble (n * sz) 16777216 = true := by rfl) (hg : jL ⟨dd, .buildSlice t n parts, ty, pos, af, g⟩ acc := by first | trivial | rfl) :
  cw P l fr fin k .v ⟨dd, .buildSlice t n parts, ty, pos, af, g⟩ sk acc L := gp hg (fun _ _ => ue (bz ok ht).1 (bz ok ht).2 hv hxs hn hi hz h24) h
theorem cE (ok : dG P tt) {r : Option Nat} {ops : Array Oper} {Q : Exit → Act → World → Prop} {nt : Nat} {D : List Deferred} {rest : List Oper} {d e sz by_ n : Nat} {parts : Array (Nat × Operand)} {vs : List AV} {xs : List (List AV)} (h : br P r ops Q nt D rest ((d, .imm sz xs) :: fr) B L) (ht : jH tt t = some (e, sz, by_) := by rfl) (hv : dZ fr (parts.toList.map (·.2)) = some vs := by rfl) (hxs : gV vs = some xs := by rfl) (hn : Nat.beq xs.length n = true := by rfl) (hi : parts.toList.map (·.1) = List.range' 0 n := by rfl) (hz : xs.all (fun q => Nat.beq q.length sz) = true := by rfl) (h24 : Nat.ble (n * sz) 16777216 = true := by rfl) (hd : Nat.ble nt d = false := by rfl) :
  br P r ops Q nt D (⟨some d, .buildSlice t n parts, ty, pos, af, none⟩ :: rest) fr B L := by
 obtain ⟨h1, h2⟩ := bz ok ht
 refine bW hd rfl (ue h1 h2 hv hxs hn hi hz h24) fun c L' hh => ?_
 obtain ⟨h1, h2⟩ := hh
 subst h1; subst h2
 exact h
theorem bM {gs : KpL} {n0 : Nat} {fr0 : bJ} {rest : List Oper} (ks : List Nat) (hk : eM (gq l.toArray acc fr n0) ks = some fr0) (hr : l.drop n0 = rest) (h : br P r l.toArray Q nt D rest fr0 B L) : DA P l fr ⟨B3 P r l n0 Q nt D fr B none, gs⟩ [] acc L :=
 ⟨.fin, rfl, by rw [← hr] at h; exact xv (dq ks hk) (fun _ _ h => h) h⟩
end
end Go.Proofs.YtamjlkdanllgjaaGreatDoor
namespace Go.Proofs.YtamjlkdanllgjaaGreatDoor
open Go.RowKit
attribute [local irreducible] AT br AX AO Av Kt aW cZ DA cw
structure b8 where
 Glyph : Int
 Cluster : Int
 Form : Int
 Advance : Int
 X : Int
 Y : Int
def cu (x : b8) : List AV := [aD x.Glyph, aD x.Cluster, aD x.Form, aD x.Advance, aD x.X, aD x.Y]
def F7 (ms : List Bool) (g : Int) : Bool := decide (0 ≤ g) && ms.getD g.toNat false
def Cq (ms : List Bool) (ig : Bool) (x : b8) : Bool := !(ig && F7 ms x.Glyph)
def zk (ms : List Bool) (ig : Bool) (run : List b8) (i : Nat) : Bool := match run[i]? with
 | some x => Cq ms ig x
 | none => false
def uD (ms : List Bool) (ig : Bool) (run : List b8) (i : Nat) : List Nat := (List.range' i (run.length - i)).filter (zk ms ig run)
def uk (ms : List Bool) (ig : Bool) (run : List b8) : Nat → List Nat
 | 0 => []
 | i + 1 => if zk ms ig run i = true then i :: uk ms ig run i else uk ms ig run i
def q7 (run : List b8) (i : Nat) : Int := match run[i]? with
 | some x => x.Glyph
 | none => -1
def fx : List (List Int) → List Int → Bool
 | [], _ => true
 | _ :: _, [] => false
 | s :: ss, g :: gs => s.contains g && fx ss gs
def zf (ms : List Bool) (ig : Bool) (run : List b8) (i : Nat) (r : bn) : Bool :=
 !r.In.isEmpty && (fx (r.In ++ r.Ahead) ((uD ms ig run i).map (q7 run)) && fx r.Back ((uk ms ig run i).map (q7 run)))
def D5 (ms : List Bool) (ig : Bool) (run : List b8) (i : Nat) (forms : List Int) : Bool := match run[i]? with
 | some x => Cq ms ig x && (forms.isEmpty || forms.contains x.Form)
 | none => false
def qj (ms : List Bool) (l : bk) (run : List b8) (i : Nat) (forms : List Int) : Option bn := if D5 ms l.Ignore run i forms = true then l.Rules.find? (zf ms l.Ignore run i) else none
def jo (ms : List Bool) (l : bk) (run : List b8) (i : Nat) (r : bn) : List Nat := (uD ms l.Ignore run i).take r.In.length
def BD (r : bn) (i : Nat) (run : List b8) : List b8 := match run[i]? with
 | none => run
 | some x => match r.Out[(r.In.headD []).idxOf x.Glyph]? with
  | none => run
  | some g => if (r.In.headD []).idxOf x.Glyph < (r.In.headD []).length then run.set i { x with Glyph := g } else run
def DF (r : bn) (i : Nat) (run : List b8) : List b8 := match run[i]? with
 | none => run
 | some x => if run.length - 1 + r.Out.length > 500 ∧ 1 < r.Out.length then run else run.take i ++ (r.Out.map fun g => { x with Glyph := g }) ++ run.drop (i + 1)
def Cg : List Nat → List b8 → List b8
 | [], run => run
 | p :: ps, run => (Cg ps run).eraseIdx p
def Dr (run : List b8) (c : Int) (p : Nat) : Int := match run[p]? with
 | some x => min c x.Cluster
 | none => c
def Dq (run : List b8) (ps : List Nat) (c : Int) : Int := ps.foldl (Dr run) c
def F3 (r : bn) (ps : List Nat) (run : List b8) : List b8 := match ps, r.Out with
 | p :: q, g :: _ => match run[p]? with
  | some x => Cg q (run.set p { x with Glyph := g, Cluster := Dq run (p :: q) x.Cluster })
  | none => run
 | _, _ => run
def Fs (r : bn) (i : Nat) (run : List b8) : List b8 := match run[i]? with
 | some x => run.set i { x with Advance := IntKind.i64.wrap (x.Advance + r.X) }
 | none => run
def Gp (ms : List Bool) (ig : Bool) (run : List b8) (i : Nat) (n : Int) : Option Nat := if 0 ≤ n then (uD ms ig run i)[n.toNat]? else none
def Cs (l : bk) (r : bn) (ps : List Nat) (run : List b8) : List b8 :=
 if l.Kind = 1 ∨ l.Kind = 5 then BD r (ps.headD 0) run
 else if l.Kind = 2 then DF r (ps.headD 0) run
 else if l.Kind = 3 then F3 r ps run
 else if l.Kind = 6 then Fs r (ps.headD 0) run
 else run
abbrev FZ := bk → bn → List Nat → List b8 → List b8
def Ce (ms : List Bool) (ls : List bk) (d : FZ) (n : Int) (i : Nat) (run : List b8) : List b8 :=
 if n < 0 then run else match ls[n.toNat]? with
 | none => run
 | some l => if l.Kind < 1 ∨ 4 < l.Kind then run else match qj ms l run i [] with
  | none => run
  | some r => d l r (jo ms l run i r) run
def D7 (ms : List Bool) (ls : List bk) (d : FZ) (ig : Bool) (i : Nat) (run : List b8) (c : jw) : List b8 := match Gp ms ig run i c.At with
 | none => run
 | some p => Ce ms ls d c.Lookup p run
def Eh (ms : List Bool) (ls : List bk) : Nat → FZ
 | 0 => fun l r ps run => Cs l r ps run
 | k + 1 => fun l r ps run => if l.Kind = 4 then r.Calls.foldl (D7 ms ls (Eh ms ls k) l.Ignore (ps.headD 0)) run else Cs l r ps run
def Fg (l : bk) (i last : Nat) (run run' : List b8) : Nat :=
 if l.Kind = 4 then max (run'.length - (run.length - 1 - last)) (i + 1)
 else if l.Kind = 6 ∧ i < last then last
 else run'.length - (run.length - 1 - last)
def Gq (ms : List Bool) (ls : List bk) (l : bk) (forms : List Int) : Nat → Nat → List b8 → List b8
 | 0, _, run => run
 | k + 1, i, run => if i < run.length then match qj ms l run i forms with
   | none => Gq ms ls l forms k (i + 1) run
   | some r => Gq ms ls l forms k (Fg l i ((jo ms l run i r).getLastD i) run (Eh ms ls 4 l r (jo ms l run i r) run)) (Eh ms ls 4 l r (jo ms l run i r) run)
  else run
def Cf (ms : List Bool) (ls : List bk) (l : bk) (forms : List Int) : Nat → List b8 → List b8
 | 0, run => run
 | i + 1, run => Cf ms ls l forms i (match qj ms l run i forms with
  | none => run
  | some r => Eh ms ls 4 l r (jo ms l run i r) run)
def lm (ms : List Bool) (ls : List bk) (n : Int) (run : List b8) (forms : List Int) : List b8 :=
 if n < 0 then run else match ls[n.toNat]? with
 | none => run
 | some l => if l.Kind < 1 ∨ 6 < l.Kind then run else if l.Kind = 5 then Cf ms ls l forms run.length run else Gq ms ls l forms run.length 0 run
def bY (p : Nat → Bool) : Nat → Nat
 | 0 => 0
 | n + 1 => bY p n ||| (if p n = true then 2 ^ n else 0)
theorem bZ (p : Nat → Bool) (i : Nat) : ∀ n, (bY p n).testBit i = (decide (i < n) && p i)
 | 0 => by simp [bY]
 | n + 1 => by
  rw [bY, Nat.testBit_or, bZ p i n]
  by_cases hi : i = n
  ·subst hi
   cases hp : p i <;> simp [Nat.testBit_two_pow_self]
  ·have h1 : decide (i < n + 1) = decide (i < n) := decide_eq_decide.2 (by omega)
   have h2 : (if p n = true then 2 ^ n else 0).testBit i = false := by
    split
    ·rw [Nat.testBit_two_pow_of_ne (by omega)]
    ·simp
   rw [h1, h2, Bool.or_false]
theorem nl (p : Nat → Bool) (n : Nat) : bY p n < 2 ^ n := Nat.lt_pow_two_of_testBit _ fun i hi => by
 rw [bZ, decide_eq_false (by omega), Bool.false_and]
theorem fP {x y : Nat} (h : ∀ i, x.testBit i = y.testBit i) : x = y := Nat.eq_of_testBit_eq h
theorem nm {p : Nat → Bool} {n : Nat} : bY p n = 0 ↔ ∀ i, i < n → p i = false := by
 constructor
 ·intro h i hi
  have := bZ p i n
  rw [h, Nat.zero_testBit, decide_eq_true hi, Bool.true_and] at this
  exact this.symm
 ·intro h
  refine fP fun i => ?_
  rw [bZ, Nat.zero_testBit]
  by_cases hi : i < n
  ·rw [h i hi, Bool.and_false]
  ·rw [decide_eq_false hi, Bool.false_and]
section
variable (cls : List Int) (rows : List (List (List Int))) (have_ : Nat → Bool)
def ej (c : Nat) (s : List Int) : Bool := s.any fun g => decide (0 ≤ g) && (decide (g < cls.length) && decide (cls.getD g.toNat (-1) = (c : Int)))
def jE (m c : Nat) (n : Nat) : Bool := match rows[n]? with
 | some r => match r[m]? with
  | some s => ej cls c s
  | none => false
 | none => false
def gA (m : Nat) (n : Nat) : Bool := match rows[n]? with
 | some r => decide (r.length = m)
 | none => false
def gH (m c : Nat) : Nat := bY (jE cls rows m c) rows.length
def ux (m : Nat) : Nat := bY (gA rows m) rows.length
def jU : Nat × Nat := (0, bY have_ rows.length)
def bN (p : Nat × Nat) (c : Nat) : Nat × Nat := if p.2 &&& gH cls rows p.1 c = 0 then (0, 0) else (p.1 + 1, p.2 &&& gH cls rows p.1 c)
def gB (p : Nat × Nat) : Nat := if p.2 = 0 then 0 else p.2 &&& ux rows p.1
structure oW (C : Nat) (tab : List (List Int)) (ends : List Nat) : Prop where
 met : ∃ met : List (Nat × Nat), met[0]? = some (jU rows have_) ∧ met.length = tab.length ∧ met.length = ends.length ∧
  (∀ (i : Nat) p, met[i]? = some p → ends[i]? = some (gB rows p)) ∧
  (∀ (i : Nat) p q, met[i]? = some p → tab[i]? = some q → q.length = C ∧ ∀ (c : Nat) z, q[c]? = some z → ((bN cls rows p c).2 = 0 ∧ z = -1) ∨ ((bN cls rows p c).2 ≠ 0 ∧ 0 ≤ z ∧ met[z.toNat]? = some (bN cls rows p c)))
end
def o7 (cls : List Int) (tab : List (List Int)) (s : Int) (g : Int) : Int :=
 if s < 0 ∨ g < 0 then -1 else match tab[s.toNat]?, cls[g.toNat]? with
 | some eg, some c => if c < 0 then -1 else match eg[c.toNat]? with
  | some z => if 0 ≤ z ∧ z < tab.length then z else -1
  | none => -1
 | _, _ => -1
def p7 (ends : List Nat) (s : Int) : Nat := if s < 0 then 0 else ends.getD s.toNat 0
def s4 (cls : List Int) (tab : List (List Int)) (ends : List Nat) : Int → List Int → Nat → Nat
 | _, [], told => told
 | s, g :: r, told => if o7 cls tab s g = -1 then told else s4 cls tab ends (o7 cls tab s g) r (told ||| p7 ends (o7 cls tab s g))
def yY (cls : List Int) (tab : List (List Int)) (ends : List Nat) (gl : List Int) : Nat := s4 cls tab ends 0 gl (p7 ends 0)
structure qV (n : Nat) (C : Nat) (cls : List Int) (sets : List (List Int)) : Prop where
 len : cls.length = n
 dom : ∀ z ∈ cls, 0 ≤ z ∧ z < C
 apart : ∀ s ∈ sets, ∀ (i j : Nat) z, cls[i]? = some z → cls[j]? = some z → ((i : Int) ∈ s ↔ (j : Int) ∈ s)
theorem rX {cls : List Int} {n C : Nat} {sets : List (List Int)} (h : qV n C cls sets) {s : List Int} (hs : s ∈ sets) (hd : ∀ g ∈ s, 0 ≤ g ∧ g < n) {g : Int} (h0 : 0 ≤ g) {c : Nat} (hc : cls[g.toNat]? = some (c : Int)) : ej cls c s = s.contains g := by
 rw [Bool.eq_iff_iff, List.contains_iff_mem]
 unfold ej
 rw [List.any_eq_true]
 constructor
 ·rintro ⟨x, hx, hb⟩
  simp only [Bool.and_eq_true, decide_eq_true_eq] at hb
  obtain ⟨h1, h2, h3⟩ := hb
  have hxc : cls[x.toNat]? = some (c : Int) := by
   rw [Eg (by omega)]
   rw [List.getD_eq_getElem?_getD, Eg (by omega)] at h3
   exact congrArg some h3
  have := (h.apart s hs x.toNat g.toNat c hxc hc).1 (by rw [Int.toNat_of_nonneg h1]; exact hx)
  rwa [Int.toNat_of_nonneg h0] at this
 ·intro hg
  refine ⟨g, hg, ?_⟩
  have hl := h.len
  have := hd g hg
  simp only [Bool.and_eq_true, decide_eq_true_eq]
  refine ⟨h0, by omega, ?_⟩
  rw [List.getD_eq_getElem?_getD, hc]
  rfl
def kK (rows : List (List (List Int))) (have_ : Nat → Bool) (gl : List Int) (n : Nat) : Bool := match rows[n]? with
 | some r => have_ n && (decide (gl.length ≤ r.length) && fx (r.take gl.length) gl)
 | none => false
theorem ly : ∀ {ss : List (List Int)} {gl : List Int} {s : List Int} {g : Int}, ss.length = gl.length → fx (ss ++ [s]) (gl ++ [g]) = (fx ss gl && s.contains g)
 | [], [], s, g, _ => by simp [fx]
 | [], _ :: _, _, _, h => by simp at h
 | _ :: _, [], _, _, h => by simp at h
 | s' :: ss, g' :: gl, s, g, h => by
  rw [Ht, Ht, fx, ly (by simpa using h), fx, Bool.and_assoc]
theorem i9 : ∀ {a : List (List Int)} {b : List Int}, b.length < a.length → fx a b = false
 | [], _, h => by simp at h
 | _ :: _, [], _ => rfl
 | _ :: a, _ :: b, h => by rw [fx, i9 (by simpa using h), Bool.and_false]
theorem je : ∀ {ss : List (List Int)} {gl x : List Int}, ss.length ≤ gl.length → fx ss (gl ++ x) = fx ss gl
 | [], _, _, _ => rfl
 | _ :: _, [], _, h => by simp at h
 | s :: ss, g :: gl, x, h => by rw [Ht, fx, fx, je (by simpa using h)]
section
variable {cls : List Int} {rows : List (List (List Int))} {have_ : Nat → Bool} {N C : Nat} {sets : List (List Int)}
theorem yu (h : qV N C cls sets) (hs : ∀ r ∈ rows, ∀ s ∈ r, s ∈ sets ∧ ∀ g ∈ s, 0 ≤ g ∧ g < N) {gl : List Int} {g : Int} {c : Nat} (h0 : 0 ≤ g) (hc : cls[g.toNat]? = some (c : Int)) :
  bY (kK rows have_ gl) rows.length &&& gH cls rows gl.length c = bY (kK rows have_ (gl ++ [g])) rows.length := by
 refine fP fun n => ?_
 rw [Nat.testBit_and, bZ, gH, bZ, bZ]
 by_cases hn : n < rows.length
 ·simp only [decide_eq_true hn, Bool.true_and]
  unfold kK jE
  rw [Eg hn]
  dsimp only
  have hm := List.getElem_mem hn
  generalize rows[n] = r at hm
  rw [List.length_append, List.length_singleton]
  by_cases hl : gl.length < r.length
  ·have hs' := hs r hm r[gl.length] (List.getElem_mem hl)
   rw [Eg hl, decide_eq_true (by omega : gl.length ≤ r.length), decide_eq_true (by omega : gl.length + 1 ≤ r.length), List.take_add_one, Eg hl]
   dsimp only [Option.toList]
   rw [ly (by rw [List.length_take]; omega), rX h hs'.1 hs'.2 h0 hc]
   cases have_ n <;> simp
  ·rw [List.getElem?_eq_none (by omega), decide_eq_false (by omega : ¬ gl.length + 1 ≤ r.length)]
   simp
 ·simp [decide_eq_false hn]
def fa (rows : List (List (List Int))) (have_ : Nat → Bool) (gl : List Int) (n : Nat) : Bool := match rows[n]? with
 | some r => have_ n && fx r gl
 | none => false
theorem mt {tab : List (List Int)} {ends : List Nat} (h : qV N C cls sets) (hs : ∀ r ∈ rows, ∀ s ∈ r, s ∈ sets ∧ ∀ g ∈ s, 0 ≤ g ∧ g < N) (ht : oW cls rows have_ C tab ends) (hC : ∀ z ∈ cls, z.toNat < C) :
  ∀ (gl : List Int), yY cls tab ends gl = bY (fa rows have_ gl) rows.length := by
 obtain ⟨met, h0, hl, hle, he, hn⟩ := ht.met
 have hmt := hl
 have key : ∀ (r gl : List Int) (s : Nat) (told : Nat) (p : Nat × Nat), met[s]? = some p → p.1 = gl.length → p.2 = bY (kK rows have_ gl) rows.length → told = bY (fa rows have_ gl) rows.length →
   (gl = [] ∨ p.2 ≠ 0) → s4 cls tab ends s r told = bY (fa rows have_ (gl ++ r)) rows.length := by
  intro r
  induction r with
  | nil => intro gl s told p _ _ _ ht _; rw [s4, List.append_nil]; exact ht
  | cons g r ih =>
   intro gl s told p hp hp1 hp2 htold hne
   have hsl : s < met.length := (Hq hp).1
   obtain ⟨q, hq⟩ : ∃ q, tab[s]? = some q := ⟨_, Eg (by omega)⟩
   obtain ⟨hqC, hqn⟩ := hn s p q hp hq
   have stop : (∀ n, kK rows have_ (gl ++ [g]) n = false) → bY (fa rows have_ gl) rows.length = bY (fa rows have_ (gl ++ g :: r)) rows.length := by
    intro hz
    refine fP fun n => ?_
    rw [bZ, bZ]
    congr 1
    have hzn := hz n
    unfold kK at hzn
    unfold fa
    cases hr : rows[n]? with
    | none => rfl
    | some eg =>
     rw [hr] at hzn
     dsimp only at hzn ⊢
     by_cases hh : have_ n = true
     ·rw [hh, Bool.true_and] at hzn ⊢
      rw [Bool.true_and]
      by_cases hrl : eg.length ≤ gl.length
      ·rw [je hrl]
      ·rw [List.length_append, List.length_singleton, decide_eq_true (by omega), Bool.true_and, List.take_add_one, Eg (by omega)] at hzn
       dsimp only [Option.toList] at hzn
       have e1 : fx eg gl = false := by
        rw [Bool.eq_false_iff]
        intro hf
        rw [i9 (by omega)] at hf
        cases hf
       have e2 : fx eg (gl ++ g :: r) = false := by
        have e3 : eg = (eg.take gl.length ++ [eg[gl.length]]) ++ eg.drop (gl.length + 1) := by
         rw [List.append_assoc, List.singleton_append, List.getElem_cons_drop, List.take_append_drop]
        have e4 : ∀ {a b : List (List Int)} {x : List Int}, fx (a ++ b) x = true → fx a x = true := by
         intro a
         induction a with
         | nil => intro b x _; rfl
         | cons y a iha =>
          intro b x hx
          cases x with
          | nil => cases hx
          | cons w x =>
           rw [Ht, fx, Bool.and_eq_true] at hx
           rw [fx, Bool.and_eq_true]
           exact ⟨hx.1, iha hx.2⟩
        rw [Bool.eq_false_iff]
        intro hf
        rw [e3] at hf
        have := e4 hf
        rw [show gl ++ g :: r = (gl ++ [g]) ++ r by simp, je (by simp; omega)] at this
        rw [this] at hzn
        cases hzn
       rw [e1, e2]
     ·simp [hh]
   rw [s4]
   by_cases hg : 0 ≤ g ∧ g.toNat < cls.length
   ·obtain ⟨hg0, hgl⟩ := hg
    obtain ⟨z, hz⟩ : ∃ z, cls[g.toNat]? = some z := ⟨_, Eg hgl⟩
    have hzm := Hx hz
    have hzd := h.dom z hzm
    obtain ⟨c, rfl⟩ := Int.eq_ofNat_of_zero_le hzd.1
    have hcC : c < C := by omega
    obtain ⟨t, htc⟩ : ∃ t, q[c]? = some t := ⟨_, Eg (by omega)⟩
    have hstep := yu (have_ := have_) (gl := gl) h hs hg0 hz
    have hnx : o7 cls tab s g = if 0 ≤ t ∧ t < tab.length then t else -1 := by
     unfold o7
     rw [if_neg (by omega), Int.toNat_natCast, hq, hz]
     dsimp only
     rw [if_neg (by omega), Int.toNat_natCast, htc]
    have hbe : bN cls rows p c = if bY (kK rows have_ (gl ++ [g])) rows.length = 0 then (0, 0) else (gl.length + 1, bY (kK rows have_ (gl ++ [g])) rows.length) := by
     unfold bN
     rw [hp1, hp2, hstep]
    rcases hqn c t htc with ⟨h1, h2⟩ | ⟨h1, h2, h3⟩
    ·subst h2
     have hno : ¬ ((0 : Int) ≤ -1 ∧ (-1 : Int) < tab.length) := fun e => absurd e.1 (by decide)
     rw [hnx, if_neg hno, if_pos rfl, htold]
     refine stop fun n => ?_
     rw [hbe] at h1
     have hzero : bY (kK rows have_ (gl ++ [g])) rows.length = 0 := by
      split at h1
      ·assumption
      ·exact h1
     by_cases hnl : n < rows.length
     ·exact nm.1 hzero n hnl
     ·unfold kK; rw [List.getElem?_eq_none (by omega)]
    ·have htl : t.toNat < tab.length := by
      have := (Hq h3).1
      omega
     have htz : ¬ t = -1 := by omega
     have hin : (0 : Int) ≤ t ∧ t < tab.length := ⟨h2, by omega⟩
     rw [if_pos hin] at hnx
     rw [hnx, if_neg htz]
     rw [hbe] at h1 h3
     have hnz : ¬ bY (kK rows have_ (gl ++ [g])) rows.length = 0 := by
      intro e
      rw [if_pos e] at h1
      exact h1 rfl
     rw [if_neg hnz] at h3
     have := ih (gl ++ [g]) t.toNat (told ||| p7 ends t) _ h3 (by simp) rfl ?_ (.inr hnz)
     ·rw [Int.toNat_of_nonneg h2] at this
      rw [this]
      simp
     ·
      have hen := he _ _ h3
      unfold p7
      rw [if_neg (by omega), List.getD_eq_getElem?_getD, hen, htold]
      dsimp only [Option.getD]
      unfold gB
      rw [if_neg hnz]
      refine fP fun n => ?_
      rw [Nat.testBit_or, Nat.testBit_and, ux, bZ, bZ, bZ, bZ]
      by_cases hnl : n < rows.length
      ·simp only [decide_eq_true hnl, Bool.true_and]
       unfold fa kK gA
       rw [Eg hnl]
       dsimp only
       generalize rows[n] = eg
       cases have_ n
       ·simp
       ·simp only [Bool.true_and, List.length_append, List.length_singleton]
        by_cases hrl : eg.length ≤ gl.length
        ·rw [je hrl, decide_eq_false (by omega : ¬ eg.length = gl.length + 1), Bool.and_false, Bool.or_false]
        ·have e1 : fx eg gl = false := i9 (by omega)
         rw [e1, Bool.false_or]
         by_cases hre : eg.length = gl.length + 1
         ·rw [decide_eq_true hre, Bool.and_true, decide_eq_true (by omega), Bool.true_and, List.take_of_length_le (by omega)]
         ·rw [decide_eq_false hre, Bool.and_false]
          exact (i9 (by simp; omega)).symm
      ·simp [decide_eq_false hnl]
   ·have hnx : o7 cls tab s g = -1 := by
     unfold o7
     by_cases hg0 : g < 0
     ·rw [if_pos (.inr hg0)]
     ·rw [if_neg (by omega), Int.toNat_natCast, hq, List.getElem?_eq_none (by omega)]
    rw [hnx, if_pos rfl, htold]
    refine stop fun n => ?_
    unfold kK
    cases hr : rows[n]? with
    | none => rfl
    | some eg =>
     dsimp only
     by_cases hrl : gl.length + 1 ≤ eg.length
     ·have hs' := hs eg (Hx hr) eg[gl.length] (List.getElem_mem (by omega))
      have hng : eg[gl.length].contains g = false := by
       rw [Bool.eq_false_iff]
       intro hm
       rw [List.contains_iff_mem] at hm
       have := hs'.2 g hm
       have hl := h.len
       omega
      rw [List.length_append, List.length_singleton, List.take_add_one, Eg (by omega)]
      dsimp only [Option.toList]
      rw [ly (by rw [List.length_take]; omega), hng]
      simp
     ·rw [List.length_append, List.length_singleton, decide_eq_false hrl]
      simp
 intro gl
 have h00 := key gl [] 0 (p7 ends 0) _ h0 rfl ?_ ?_ (.inl rfl)
 ·rw [Hs] at h00
  exact h00
 ·refine fP fun n => ?_
  unfold jU
  rw [bZ, bZ]
  by_cases hnl : n < rows.length
  ·simp only [decide_eq_true hnl, Bool.true_and]
   unfold kK
   rw [Eg hnl]
   simp [fx]
  ·simp [decide_eq_false hnl]
 ·have hen := he _ _ h0
  unfold p7
  rw [if_neg (by omega), List.getD_eq_getElem?_getD]
  rw [show (0 : Int).toNat = 0 from rfl, hen]
  dsimp only [Option.getD]
  refine fP fun n => ?_
  have hb : (gB rows (jU rows have_)) = bY have_ rows.length &&& ux rows 0 := by
   unfold gB jU
   dsimp only
   split
   ·rename_i e
    rw [e, Nat.zero_and]
   ·rfl
  rw [hb, Nat.testBit_and, ux, bZ, bZ, bZ]
  by_cases hnl : n < rows.length
  ·simp only [decide_eq_true hnl, Bool.true_and]
   unfold fa gA
   rw [Eg hnl]
   dsimp only
   generalize rows[n] = eg
   cases eg with
   | nil => simp [fx]
   | cons s eg => simp [fx]
  ·simp [decide_eq_false hnl]
end
end Go.Proofs.YtamjlkdanllgjaaGreatDoor
namespace Go.Proofs.YtamjlkdanllgjaaGreatDoor
open Go.RowKit
attribute [local irreducible] AT br AX AO Av Kt aW cZ DA cw
def dV (r : bn) : List (List Int) := if r.In.isEmpty then [] else r.In ++ r.Ahead
def xY (rs : List bn) (n : Nat) : Bool := match rs[n]? with
 | some r => !r.In.isEmpty
 | none => false
def jB (rs : List bn) : Nat := rs.foldl (fun m r => max m (r.In.length + r.Ahead.length)) 0
def jy (rs : List bn) : Nat := rs.foldl (fun m r => max m r.Back.length) 0
end Go.Proofs.YtamjlkdanllgjaaGreatDoor
namespace Go.Proofs.YtamjlkdanllgjaaGreatDoor
open Go.RowKit Go.MapKept
def gw (d : TypeDesc) (m : Value → Option AV) (σ : bT) (o : Obj) : Prop :=
 ∃ es clock, o = .map es clock ∧ (∀ x ∈ es.toList, IsKey d x.key ∧ ∃ c, m x.key = some c ∧ VR σ c x.val) ∧ es.toList.Pairwise (fun x y => x.key ≠ y.key) ∧ ∀ k c, m k = some c → ∃ x ∈ es.toList, x.key = k
def bP (d : TypeDesc) (m : Value → Option AV) : AB := .dep (gw d m) fun σ τ o hle ⟨es, clock, h1, h2, h3, h4⟩ => ⟨es, clock, h1, fun x hx => by
 obtain ⟨a, c, e, f⟩ := h2 x hx
 exact ⟨a, c, e, f.mono hle⟩, h3, h4⟩
theorem gw.none {d : TypeDesc} {m : Value → Option AV} {σ : bT} {es : Array MapEntry} {clock : Nat} {k : Value} (h : gw d m σ (.map es clock)) (hk : IsKey d k) (hm : m k = none) : Instr.findNow d k es.toList 0 = some none := by
 obtain ⟨es', clock', h1, h2, h3, h4⟩ := h
 cases h1
 rcases findNow_spec hk es.toList 0 (fun x hx => (h2 x hx).1) with ⟨h5, _⟩ | ⟨j, e, h5, h6, h7⟩
 ·exact h5
 ·obtain ⟨_, c, h8, _⟩ := h2 e (Hx h6)
  rw [h7, hm] at h8
  cases h8
theorem gw.some {d : TypeDesc} {m : Value → Option AV} {σ : bT} {es : Array MapEntry} {clock : Nat} {k : Value} {c : AV} (h : gw d m σ (.map es clock)) (hk : IsKey d k) (hm : m k = some c) : ∃ (j : Nat) (e : MapEntry), Instr.findNow d k es.toList 0 = some (some (j, e.val)) ∧ es[j]? = some e ∧ e.key = k ∧ VR σ c e.val := by
 obtain ⟨es', clock', h1, h2, h3, h4⟩ := h
 cases h1
 rcases findNow_spec hk es.toList 0 (fun x hx => (h2 x hx).1) with ⟨_, h5⟩ | ⟨j, e, h5, h6, h7⟩
 ·obtain ⟨x, hx, hk'⟩ := h4 k c hm
  exact absurd hk' (h5 x hx)
 ·obtain ⟨_, c', h8, h9⟩ := h2 e (Hx h6)
  rw [h7, hm] at h8
  cases h8
  exact ⟨j, e, by simpa using h5, by simpa using h6, h7, h9⟩
section
variable {P : Program} {fr : bJ} {B : Bs} {L : AL} {d : Option Tmp} {ty t : TypeId} {pos : String} {af : Array Edge} {g : Option (Nat × Bool)} {x y z : Operand} {u : AV}
theorem sO (kd : TypeDesc) : AO P ⟨d, .makeMap t none, ty, pos, af, g⟩ fr B L (fun c L' => ∃ b, c = .sc (.map (some b)) ∧ L' = (b, bP kd fun _ => none) :: L) := by
 intro σ ρ w hρ hw
 have hr : (execOp ρ ⟨d, .makeMap t none, ty, pos, af, g⟩).run P w = .ok (.value (.map (some w.heap.size))) (w.alloc (.map #[] 0)) := by
  simp [execOp, Instr.makeMap]
 unfold fw
 rw [hr]
 exact ⟨σ, _, _, bT.le_refl _, .sc _, hw.alloc _ (bP kd fun _ => Option.none) ⟨#[], 0, rfl, by simp, by simp, by simp⟩, _, rfl, rfl⟩
theorem pU (i : Nat) {b kt et : Nat} {kd : TypeDesc} {k : Value} {m m' : Value → Option AV} (ht : P.underlying t = some (.map kt et)) (hkt : P.underlying kt = some kd) (hx : bh fr x = some (.sc (.map (some b)))) (hy : bh fr y = some (.sc k)) (hk : IsKey kd k) (hz : bh fr z = some u) (hL : L[i]? = some (b, bP kd m)) (h1 : m' k = some u) (h2 : ∀ q, q ≠ k → m' q = m q) :
  AO P ⟨d, .mapUpdate t x y z, ty, pos, af, g⟩ fr B L (fun _ L' => L' = fC L i (bP kd m')) := by
 intro σ ρ w hρ hw
 obtain ⟨o, ho, hM⟩ := hw.here _ (Hx hL)
 have hM' : gw kd m σ o := hM
 obtain ⟨es, clock, rfl, h3, h4, h5⟩ := hM'
 have hM' : gw kd m σ (.map es clock) := hM
 have hv := hρ z u hz
 have hlt : b < w.heap.size := (Array.getElem?_eq_some_iff.1 ho).1
 have key : ∃ es' clock', (Instr.mapUpdate t (.map (some b)) k (ρ z)).run P w = .ok () (w.putObj b (.map es' clock')) ∧ gw kd m' σ (.map es' clock') := by
  cases hm : m k with
  | none =>
   refine ⟨es.push ⟨k, ρ z, clock⟩, clock + 1, ?_, _, _, rfl, ?_, ?_, ?_⟩
   ·simp [Instr.mapUpdate, run_underlying ht, MapKept.run_getObj_map ho, run_checkKey hkt hk, run_findKey hkt (hM'.none hk hm), MapKept.run_setObj_map _ ho, Result.andThen, World.putObj]
   ·intro e he
    rw [Array.toList_push, List.mem_append, List.mem_singleton] at he
    rcases he with he | rfl
    ·obtain ⟨h6, c, h7, h8⟩ := h3 e he
     exact ⟨h6, c, by rw [h2 _ (fun e1 => by rw [e1, hm] at h7; cases h7)]; exact h7, h8⟩
    ·exact ⟨hk, u, h1, hv⟩
   ·rw [Array.toList_push, List.pairwise_append]
    refine ⟨h4, by simp, fun e he e' he' => ?_⟩
    rw [List.mem_singleton] at he'
    subst he'
    obtain ⟨_, c, h7, _⟩ := h3 e he
    exact fun e1 => by rw [e1, hm] at h7; cases h7
   ·intro q c hq
    by_cases e : q = k
    ·subst e
     exact ⟨_, by rw [Array.toList_push]; exact List.mem_append.2 (Or.inr (List.mem_singleton.2 rfl)), rfl⟩
    ·rw [h2 q e] at hq
     obtain ⟨y, hy, hy'⟩ := h5 q c hq
     exact ⟨y, by rw [Array.toList_push]; exact List.mem_append.2 (Or.inl hy), hy'⟩
  | some c =>
   obtain ⟨j, e, h6, h7, h8, h9⟩ := hM'.some hk hm
   have hdis : ∀ n e', es[n]? = some e' → ¬ j = n → e'.key ≠ k := by
    intro n e' hn hne
    rw [← Array.getElem?_toList] at hn h7
    rw [← h8]
    rw [List.pairwise_iff_getElem] at h4
    obtain ⟨hj1, hj2⟩ := Hq h7
    obtain ⟨hn1, hn2⟩ := Hq hn
    rcases Nat.lt_or_gt_of_ne hne with hlt | hgt
    ·have := h4 j n hj1 hn1 hlt
     rw [hj2, hn2] at this
     exact this.symm
    ·have := h4 n j hn1 hj1 hgt
     rw [hj2, hn2] at this
     exact this
   refine ⟨es.modify j (fun e' => { e' with key := k, val := ρ z }), clock, ?_, _, _, rfl, ?_, ?_, ?_⟩
   ·simp [Instr.mapUpdate, run_underlying ht, MapKept.run_getObj_map ho, run_checkKey hkt hk, run_findKey hkt h6, h7, h8, run_keyThatStays hk, MapKept.run_setObj_map _ ho, Result.andThen, World.putObj]
   ·intro e' he'
    obtain ⟨n, hn⟩ := List.mem_iff_getElem?.1 he'
    rw [Array.getElem?_toList, Array.getElem?_modify] at hn
    by_cases e1 : j = n
    ·subst e1
     rw [if_pos rfl, h7] at hn
     simp at hn
     subst hn
     exact ⟨hk, u, h1, hv⟩
    ·rw [if_neg e1] at hn
     obtain ⟨h10, c', h11, h12⟩ := h3 e' (Hx (by rw [Array.getElem?_toList]; exact hn))
     exact ⟨h10, c', by rw [h2 _ (hdis n e' hn e1)]; exact h11, h12⟩
   ·have hkeys : (es.modify j (fun e' => { e' with key := k, val := ρ z })).toList.map MapEntry.key = es.toList.map MapEntry.key := by
     apply List.ext_getElem?
     intro n
     rw [List.getElem?_map, List.getElem?_map, Array.getElem?_toList, Array.getElem?_toList, Array.getElem?_modify]
     by_cases e1 : j = n
     ·subst e1
      rw [if_pos rfl, h7]
      simp [h8]
     ·rw [if_neg e1]
    refine (List.pairwise_map (f := MapEntry.key) (R := fun a b : Value => a ≠ b)).1 ?_
    rw [hkeys]
    exact List.pairwise_map.2 h4
   ·intro q c hq
    by_cases e1 : q = k
    ·subst e1
     refine ⟨{ e with key := q, val := ρ z }, List.mem_iff_getElem?.2 ⟨j, ?_⟩, rfl⟩
     rw [Array.getElem?_toList, Array.getElem?_modify, if_pos rfl, h7]
     rfl
    ·rw [h2 q e1] at hq
     obtain ⟨y, hy, hy'⟩ := h5 q c hq
     obtain ⟨n, hn⟩ := List.mem_iff_getElem?.1 hy
     rw [Array.getElem?_toList] at hn
     refine ⟨y, List.mem_iff_getElem?.2 ⟨n, ?_⟩, hy'⟩
     rw [Array.getElem?_toList, Array.getElem?_modify, if_neg, hn]
     intro e2
     subst e2
     rw [h7] at hn
     injection hn with hn
     subst hn
     exact e1 (hy'.symm.trans h8)
 obtain ⟨es', clock', hr, hq⟩ := key
 unfold fw
 rw [show (execOp ρ ⟨d, .mapUpdate t x y z, ty, pos, af, g⟩).run P w = .ok .skip (w.putObj b (.map es' clock')) by simp only [execOp, (hρ x _ hx).sc_inv, (hρ y _ hy).sc_inv, Sem.run_bind, Sem.run_pure, Result.andThen, hr]]
 exact ⟨σ, .sc undef, _, bT.le_refl _, .sc _, hw.putAt (a' := bP kd m') hL (fun _ => trivial) (iU w b _) (World.putObj_heap_same hlt) hq, rfl⟩
theorem oo {w : World} {b kt et : Nat} {kd : TypeDesc} {k v0 : Value} {m : Value → Option AV} {es : Array MapEntry} {clock : Nat} {σ : bT} (ht : P.underlying t = some (.map kt et)) (hkt : P.underlying kt = some kd) (hk : IsKey kd k) (ho : w.heap[b]? = some (.map es clock)) (hM : gw kd m σ (.map es clock)) (hz : (zeroValue et).run P w = .ok v0 w) (ok : Bool) :
  ∃ v, (Instr.lookup t (.map (some b)) k ok).run P w = .ok (bif ok then .tuple #[v, .bool (m k).isSome] else v) w ∧ match m k with | some c => VR σ c v | none => v = v0 := by
 cases hm : m k with
 | none =>
  refine ⟨v0, ?_, rfl⟩
  cases ok <;> simp [Instr.lookup, run_underlying ht, MapKept.run_getObj_map ho, run_checkKey hkt hk, run_findKey hkt (hM.none hk hm), Result.andThen, hz]
 | some c =>
  obtain ⟨j, e, h6, h7, h8, h9⟩ := hM.some hk hm
  refine ⟨e.val, ?_, h9⟩
  cases ok <;> simp [Instr.lookup, run_underlying ht, MapKept.run_getObj_map ho, run_checkKey hkt hk, run_findKey hkt h6, Result.andThen]
theorem gy (i : Nat) {b kt et : Nat} {kd : TypeDesc} {k v0 : Value} {m : Value → Option AV} {c0 : AV} (ht : P.underlying t = some (.map kt et)) (hkt : P.underlying kt = some kd) (hx : bh fr x = some (.sc (.map (some b)))) (hy : bh fr y = some (.sc k)) (hk : IsKey kd k) (hL : L[i]? = some (b, bP kd m)) (hz : ∀ w, (zeroValue et).run P w = .ok v0 w) (h0 : ∀ σ, VR σ c0 v0) :
  AO P ⟨d, .lookup t x y false, ty, pos, af, g⟩ fr B L (fun c L' => c = (m k).getD c0 ∧ L' = L) := by
 intro σ ρ w hρ hw
 obtain ⟨o, ho, hM⟩ := hw.here _ (Hx hL)
 have hM' : gw kd m σ o := hM
 obtain ⟨es, clock, rfl, _⟩ := hM'
 obtain ⟨v, hr, hv⟩ := oo (t := t) ht hkt hk ho hM (hz w) false
 unfold fw
 rw [show (execOp ρ ⟨d, .lookup t x y false, ty, pos, af, g⟩).run P w = .ok (.value v) w by simp only [execOp, (hρ x _ hx).sc_inv, (hρ y _ hy).sc_inv, Sem.run_bind, Sem.run_pure, Result.andThen, hr]; rfl]
 refine ⟨σ, (m k).getD c0, _, bT.le_refl _, ?_, hw, rfl, rfl⟩
 cases hm : m k with
 | none => rw [hm] at hv; dsimp only at hv; subst hv; exact h0 σ
 | some c => rw [hm] at hv; exact hv
theorem na (i : Nat) {b kt et : Nat} {kd : TypeDesc} {k v0 : Value} {m : Value → Option AV} {c0 : AV} (ht : P.underlying t = some (.map kt et)) (hkt : P.underlying kt = some kd) (hx : bh fr x = some (.sc (.map (some b)))) (hy : bh fr y = some (.sc k)) (hk : IsKey kd k) (hL : L[i]? = some (b, bP kd m)) (hz : ∀ w, (zeroValue et).run P w = .ok v0 w) (h0 : ∀ σ, VR σ c0 v0) :
  AO P ⟨d, .lookup t x y true, ty, pos, af, g⟩ fr B L (fun c L' => c = .tup [(m k).getD c0, .sc (.bool (m k).isSome)] ∧ L' = L) := by
 intro σ ρ w hρ hw
 obtain ⟨o, ho, hM⟩ := hw.here _ (Hx hL)
 have hM' : gw kd m σ o := hM
 obtain ⟨es, clock, rfl, _⟩ := hM'
 obtain ⟨v, hr, hv⟩ := oo (t := t) ht hkt hk ho hM (hz w) true
 unfold fw
 rw [show (execOp ρ ⟨d, .lookup t x y true, ty, pos, af, g⟩).run P w = .ok (.value (.tuple #[v, .bool (m k).isSome])) w by simp only [execOp, (hρ x _ hx).sc_inv, (hρ y _ hy).sc_inv, Sem.run_bind, Sem.run_pure, Result.andThen, hr]; rfl]
 refine ⟨σ, .tup [(m k).getD c0, .sc (.bool (m k).isSome)], _, bT.le_refl _, ?_, hw, rfl, rfl⟩
 have h1 : VR σ ((m k).getD c0) v := by
  cases hm : m k with
  | none => rw [hm] at hv; dsimp only at hv; subst hv; exact h0 σ
  | some c => rw [hm] at hv; exact hv
 have h2 : cz σ [(m k).getD c0, .sc (.bool (m k).isSome)] [v, .bool (m k).isSome] := .cons h1 (.cons (.sc _) .nil)
 exact .tup _ _ h2.1 h2.2
def j8 (P : Program) (e : Nat) (v : Value) : Bool := match P.info? e with | some i => (match i.zero with | some z => vf z v | none => false) | none => false
theorem eJ {e : Nat} {v : Value} (h : j8 P e v = true) (w : World) : (zeroValue e).run P w = .ok v w := by
 unfold j8 at h
 split at h
 ·rename_i i hi
  split at h
  ·rename_i z hz
   rw [← oE h]
   simp [zeroValue, typeInfo, hi, hz]
  ·cases h
 ·cases h
end
section
variable {P : Program} {r : Option Nat} {ops : Array Oper} {Q : Exit → Act → World → Prop} {nt : Nat} {D : List Deferred} {fr : bJ} {B : Bs} {L : AL} {rest : List Oper} {d : Nat} {ty t : TypeId} {pos : String} {af : Array Edge} {x y z : Operand} {u : AV}
theorem dg (kd : TypeDesc) (h : ∀ b, br P r ops Q nt D rest ((d, .sc (.map (some b))) :: fr) B ((b, bP kd fun _ => none) :: L)) (hd : Nat.ble nt d = false := by rfl) : br P r ops Q nt D (⟨some d, .makeMap t none, ty, pos, af, none⟩ :: rest) fr B L :=
 bW hd rfl (sO kd) fun c L' ⟨b, h1, h2⟩ => by subst h1; subst h2; exact h b
theorem cH (i : Nat) (m' : Value → Option AV) {b kt et : Nat} {kd : TypeDesc} {k : Value} {m : Value → Option AV} (ht : P.underlying t = some (.map kt et)) (hkt : P.underlying kt = some kd) (hx : bh fr x = some (.sc (.map (some b)))) (hy : bh fr y = some (.sc k)) (hk : IsKey kd k) (hz : bh fr z = some u) (hL : L[i]? = some (b, bP kd m)) (h1 : m' k = some u) (h2 : ∀ q, q ≠ k → m' q = m q)
  (h : br P r ops Q nt D rest fr B (fC L i (bP kd m'))) : br P r ops Q nt D (⟨none, .mapUpdate t x y z, ty, pos, af, none⟩ :: rest) fr B L :=
 km rfl (pU i ht hkt hx hy hk hz hL h1 h2) fun c L' h3 => by subst h3; exact h
theorem iW (i : Nat) (v0 : Value) {b kt et : Nat} {kd : TypeDesc} {k : Value} {m : Value → Option AV} (ht : P.underlying t = some (.map kt et)) (hkt : P.underlying kt = some kd) (hx : bh fr x = some (.sc (.map (some b)))) (hy : bh fr y = some (.sc k)) (hk : IsKey kd k) (hL : L[i]? = some (b, bP kd m)) (hz : j8 P et v0 = true) (hd : Nat.ble nt d = false)
  (h : br P r ops Q nt D rest ((d, (m k).getD (.sc v0)) :: fr) B L) : br P r ops Q nt D (⟨some d, .lookup t x y false, ty, pos, af, none⟩ :: rest) fr B L :=
 bW hd rfl (gy i ht hkt hx hy hk hL (eJ hz) fun _ => .sc _) fun c L' ⟨h1, h2⟩ => by subst h1; subst h2; exact h
theorem fj (i : Nat) (v0 : Value) {b kt et : Nat} {kd : TypeDesc} {k : Value} {m : Value → Option AV} (ht : P.underlying t = some (.map kt et)) (hkt : P.underlying kt = some kd) (hx : bh fr x = some (.sc (.map (some b)))) (hy : bh fr y = some (.sc k)) (hk : IsKey kd k) (hL : L[i]? = some (b, bP kd m)) (hz : j8 P et v0 = true) (hd : Nat.ble nt d = false)
  (h : br P r ops Q nt D rest ((d, .tup [(m k).getD (.sc v0), .sc (.bool (m k).isSome)]) :: fr) B L) : br P r ops Q nt D (⟨some d, .lookup t x y true, ty, pos, af, none⟩ :: rest) fr B L :=
 bW hd rfl (na i ht hkt hx hy hk hL (eJ hz) fun _ => .sc _) fun c L' ⟨h1, h2⟩ => by subst h1; subst h2; exact h
end
end Go.Proofs.YtamjlkdanllgjaaGreatDoor
