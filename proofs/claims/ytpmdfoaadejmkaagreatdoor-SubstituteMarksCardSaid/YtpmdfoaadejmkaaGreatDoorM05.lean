/-
  Fonts as data, and as abstract values.
-/
import Derived.Test.YtpmdfoaadejmkaaGreatDoorM04
namespace Go.Proofs.YtpmdfoaadejmkaaGreatDoor
open Go.RowKit
abbrev aA (z : Int) : AV := .sc (.int .i64 z)
abbrev vy (s : ByteArray) : AV := .sc (.string s)
abbrev dx (b : Bool) : AV := .sc (.bool b)
structure ie where
 X : Int
 Y : Int
 On : Bool
structure cS where
 Glyph : Int
 X : Int
 Y : Int
structure dy where
 Kind : Int
 Class : Int
 X : Int
 Y : Int
structure f3 where
 Region : Int
 Point : Int
 X : Int
 Y : Int
structure gC where
 Op : Int
 A : Int
structure bb where
 Name : ByteArray
 Advance : Int
 Mark : Bool
 Points : List ie
 Ends : List Int
 Parts : List cS
 Anchors : List dy
 Deltas : List f3
 Hint : List gC
structure hH where
 Rune : Int
 Glyph : Int
structure ic where
 At : Int
 Lookup : Int
structure aV where
 Back : List (List Int)
 In : List (List Int)
 Ahead : List (List Int)
 Out : List Int
 Calls : List ic
 X : Int
structure aQ where
 Kind : Int
 Ignore : Bool
 Rules : List aV
structure bQ where
 Name : ByteArray
 Lookups : List Int
structure ea where
 Name : ByteArray
 Min : Int
 Def : Int
 Max : Int
structure fv where
 Start : Int
 Peak : Int
 End : Int
structure aN where
 Unit : Int
 Glyphs : List bb
 Chars : List hH
 Lookups : List aQ
 Features : List bQ
 Axes : List ea
 Regions : List (List fv)
 Funcs : List (List gC)
 Cvt : List Int
def b8 (l : List (List Int)) : List (List AV) := l.map fun q => [.imm 1 (aT q)]
def Dh (l : List ByteArray) : List (List AV) := l.map fun s => [vy s]
def fz (p : ie) : List AV := [aA p.X, aA p.Y, dx p.On]
def eZ (p : cS) : List AV := [aA p.Glyph, aA p.X, aA p.Y]
def dU (p : dy) : List AV := [aA p.Kind, aA p.Class, aA p.X, aA p.Y]
def f5 (p : f3) : List AV := [aA p.Region, aA p.Point, aA p.X, aA p.Y]
def ip (p : gC) : List AV := [aA p.Op, aA p.A]
def c7 (g : bb) : List AV := [vy g.Name, aA g.Advance, dx g.Mark, .imm 3 (g.Points.map fz), .imm 1 (aT g.Ends), .imm 3 (g.Parts.map eZ), .imm 4 (g.Anchors.map dU), .imm 4 (g.Deltas.map f5), .imm 2 (g.Hint.map ip)]
def fb (c : hH) : List AV := [aA c.Rune, aA c.Glyph]
def fa (c : ic) : List AV := [aA c.At, aA c.Lookup]
def bI (r : aV) : List AV := [.imm 1 (b8 r.Back), .imm 1 (b8 r.In), .imm 1 (b8 r.Ahead), .imm 1 (aT r.Out), .imm 2 (r.Calls.map fa), aA r.X]
def bo (l : aQ) : List AV := [aA l.Kind, dx l.Ignore, .imm 6 (l.Rules.map bI)]
def ca (t : bQ) : List AV := [vy t.Name, .imm 1 (aT t.Lookups)]
def ep (a : ea) : List AV := [vy a.Name, aA a.Min, aA a.Def, aA a.Max]
def qj (t : fv) : List AV := [aA t.Start, aA t.Peak, aA t.End]
def dc (r : List fv) : List AV := [.imm 3 (r.map qj)]
def jS (l : List gC) : List AV := [.imm 2 (l.map ip)]
def bV (f : aN) : List AV := [aA f.Unit, .imm 9 (f.Glyphs.map c7), .imm 2 (f.Chars.map fb), .imm 3 (f.Lookups.map bo), .imm 2 (f.Features.map ca), .imm 4 (f.Axes.map ep), .imm 1 (f.Regions.map dc), .imm 1 (f.Funcs.map jS), .imm 1 (aT f.Cvt)]
abbrev cz (f : aN) : AV := .agg (bV f)
theorem bW {α : Type} {c : α → List AV} {l : List α} {i : Nat} {a : α} (h : l[i]? = some a) : (l.map c)[i]? = some (c a) := by simp [h]
theorem bS (l : List (List Int)) : (b8 l).length = l.length := by simp [b8]
theorem fu {l : List (List Int)} {i : Nat} {z : List Int} (h : l[i]? = some z) : (b8 l)[i]? = some [.imm 1 (aT z)] := by simp [b8, h]
section
variable {P : Program} {tt : TT} {r : Option Nat} {Q : Exit → Act → World → Prop} {nt : Nat} {D : List Deferred} {fr : bw} {B : Bs} {L : AL} {l : List Oper} {fin : jn}
variable {k j : Nat} {s : Ak} {sk : lm} {acc : bw} {dd : Option Tmp} {op : Op} {ty t t' : TypeId} {pos : String} {af : Array Edge} {g : Option (Nat × Bool)} {x y c : Operand} {u : AV} {want b : Bool}
def cC (P : Program) (l : List Oper) (fr : bw) (fin : jn) (k : Nat) (s : Ak) (o : Oper) (sk : lm) (acc : bw) (L : AL) : Prop := l[k]? = some o → DA P l fr fin ((k, s) :: sk) acc L
theorem aD {o : Oper} (h : cC P l fr fin k s o sk acc L) (ho : l[k]? = some o := by rfl) : DA P l fr fin ((k, s) :: sk) acc L := h ho
def iQ (o : Oper) (acc : bw) : Prop := match o.guard with
 | none => True
 | some (j, want) => nE acc j = .sc (.bool want)
theorem kO {o : Oper} {R : AV → AL → Prop} (hg : iQ o acc) (h : ∀ B, AO P o (cl l.toArray acc fr o.after.toList) B L R) : tX P l fr o acc L R := by
 unfold tX
 unfold iQ at hg
 split
 ·exact h
 ·rename_i j want hq
  rw [hq] at hg
  exact .inl ⟨hg, h⟩
theorem eR {o : Oper} (hg : iQ o acc) (h : ∀ B L, AO P o (cl l.toArray acc fr o.after.toList) B L (fun c L' => c = u ∧ L' = L)) (hn : DA P l fr fin sk ((k, u) :: acc) L) : cC P l fr fin k .v o sk acc L := by
 intro ho
 obtain ⟨pl, hpl⟩ := hn
 exact ⟨.val k u pl, .v, sk, o, rfl, ho, .inl ⟨rfl, fun L => kO hg fun B => h B L⟩, hpl⟩
theorem wn {o : Oper} (hg : iQ o acc) (h : ∀ B, AO P o (cl l.toArray acc fr o.after.toList) B L (fun c L' => c = u ∧ L' = L)) (hn : DA P l fr fin sk ((k, u) :: acc) L) : cC P l fr fin k .l o sk acc L := by
 intro ho
 obtain ⟨pl, hpl⟩ := hn
 exact ⟨.val k u pl, .l, sk, o, rfl, ho, .inr (.inl ⟨rfl, kO hg fun B => h B⟩), hpl⟩
theorem ju {o : Oper} {R : AV → AL → Prop} (hg : iQ o acc) (h : ∀ B, AO P o (cl l.toArray acc fr o.after.toList) B L R) (hn : ∀ c L', R c L' → DA P l fr fin sk ((k, c) :: acc) L') : cC P l fr fin k .e o sk acc L := by
 intro ho
 have hn' : ∀ c L', ∃ pl, R c L' → di P l fr fin pl sk ((k, c) :: acc) L' := fun c L' => by
  by_cases hr : R c L'
  ·obtain ⟨pl, hpl⟩ := hn c L' hr
   exact ⟨pl, fun _ => hpl⟩
  ·exact ⟨.fin, fun h => absurd h hr⟩
 exact ⟨.eff k R fun c L' => Classical.choose (hn' c L'), .e, sk, o, .inl rfl, rfl, ho, kO hg h, fun c L' hr => Classical.choose_spec (hn' c L') hr⟩
theorem AJ {o : Oper} (hK : eL fin.gs L) (hg : iQ o acc) (h : ∀ B L, eL fin.gs L → AO P o (cl l.toArray acc fr o.after.toList) B L (fun c L' => c = u ∧ L' = L)) (hn : DA P l fr fin sk ((k, u) :: acc) L) : cC P l fr fin k .k o sk acc L := by
 intro ho
 obtain ⟨pl, hpl⟩ := hn
 exact ⟨.val k u pl, .k, sk, o, rfl, ho, .inr (.inr ⟨rfl, hK, fun L hL => kO hg fun B => h B L hL⟩), hpl⟩
theorem tc {o : Oper} {R : AV → AL → Prop} (hX : ∀ c L', R c L' → eL fin.gs L → eL fin.gs L') (hg : iQ o acc) (h : ∀ B, AO P o (cl l.toArray acc fr o.after.toList) B L R) (hn : ∀ c L', R c L' → DA P l fr fin sk ((k, c) :: acc) L') : cC P l fr fin k .f o sk acc L := by
 intro ho
 have hn' : ∀ c L', ∃ pl, R c L' → di P l fr fin pl sk ((k, c) :: acc) L' := fun c L' => by
  by_cases hr : R c L'
  ·obtain ⟨pl, hpl⟩ := hn c L' hr
   exact ⟨pl, fun _ => hpl⟩
  ·exact ⟨.fin, fun h => absurd h hr⟩
 exact ⟨.eff k R fun c L' => Classical.choose (hn' c L'), .f, sk, o, .inr (.inr ⟨rfl, hX⟩), rfl, ho, kO hg h, fun c L' hr => Classical.choose_spec (hn' c L') hr⟩
theorem AI {o : Oper} {R : AV → AL → Prop} (hX : ∀ c L', R c L' → ∃ X, L' = X ++ L) (hg : iQ o acc) (h : ∀ B, AO P o (cl l.toArray acc fr o.after.toList) B L R) (hn : ∀ c L', R c L' → DA P l fr fin sk ((k, c) :: acc) L') : cC P l fr fin k .a o sk acc L := by
 intro ho
 have hn' : ∀ c L', ∃ pl, R c L' → di P l fr fin pl sk ((k, c) :: acc) L' := fun c L' => by
  by_cases hr : R c L'
  ·obtain ⟨pl, hpl⟩ := hn c L' hr
   exact ⟨pl, fun _ => hpl⟩
  ·exact ⟨.fin, fun h => absurd h hr⟩
 exact ⟨.eff k R fun c L' => Classical.choose (hn' c L'), .a, sk, o, .inr (.inl ⟨rfl, hX⟩), rfl, ho, kO hg h, fun c L' hr => Classical.choose_spec (hn' c L') hr⟩
theorem td {op : Op} (hj : nE acc j = .sc (.bool b)) (hb : (b == want) = false) (hn : DA P l fr fin sk ((k, .sc undef) :: acc) L) : cC P l fr fin k .v ⟨dd, op, ty, pos, af, some (j, want)⟩ sk acc L := by
 intro ho
 obtain ⟨pl, hpl⟩ := hn
 exact ⟨.val k (.sc undef) pl, .v, sk, _, rfl, ho, .inl ⟨rfl, fun L => .inr ⟨⟨_, hj, fun e => by injection e with e; subst e; simp at hb⟩, rfl, rfl⟩⟩, hpl⟩
theorem z1 {o : Oper} {fr : bw} (h : Av P o fr u) : ∀ B L, AO P o fr B L (fun c L' => c = u ∧ L' = L) := fun _ _ => h.ao
theorem bi (ok : dl P tt) (h : DA P l fr fin sk ((k, u) :: acc) L) (hu : nr tt (cl l.toArray acc fr af.toList) op = some u := by rfl) (hg : iQ ⟨dd, op, ty, pos, af, g⟩ acc := by first | trivial | rfl) : cC P l fr fin k .v ⟨dd, op, ty, pos, af, g⟩ sk acc L := eR hg (z1 (jF ok hu)) h
theorem ir {bop : BinOp} (h : cC P l fr fin k .v ⟨dd, .binOp bop t x y t', ty, pos, af, g⟩ sk acc L) : cC P l fr fin k .v ⟨dd, .binOp bop t x y t', ty, pos, af, g⟩ sk acc L := h
theorem lE {bop : BinOp} (h : DA P l fr fin sk ((k, u) :: acc) L) (ho : Av P ⟨dd, .binOp bop t x y t', ty, pos, af, g⟩ (cl l.toArray acc fr af.toList) u := by first | exact sT rfl rfl (by omega) | exact t0 rfl rfl (by omega) | exact sY rfl rfl (by omega)) (hg : iQ ⟨dd, .binOp bop t x y t', ty, pos, af, g⟩ acc := by first | trivial | rfl) : cC P l fr fin k .v ⟨dd, .binOp bop t x y t', ty, pos, af, g⟩ sk acc L := eR hg (z1 ho) h
theorem cD (h : cC P l fr fin k .v ⟨dd, .indexAddr t x y, ty, pos, af, g⟩ sk acc L) : cC P l fr fin k .v ⟨dd, .indexAddr t x y, ty, pos, af, g⟩ sk acc L := h
theorem d3 (ok : dl P tt) {e sz by_ s : Nat} {ll : List (List AV)} {ik : IntKind} {i : Int} {es : List AV} (h : DA P l fr fin sk ((k, .iptr es) :: acc) L) (ht : iJ tt t = some (e, sz, by_) := by rfl) (hx : aX (cl l.toArray acc fr af.toList) x = some u := by rfl) (hu : i6 u = some (s, ll) := by rfl) (hs : Nat.beq s sz = true := by rfl) (hy : aX (cl l.toArray acc fr af.toList) y = some (.sc (.int ik i)) := by rfl) (h0 : 0 ≤ i := by omega) (hl : ll[i.toNat]? = some es := by first | assumption | (simp only [Int.toNat_natCast]; assumption)) (hg : iQ ⟨dd, .indexAddr t x y, ty, pos, af, g⟩ acc := by first | trivial | rfl) : cC P l fr fin k .v ⟨dd, .indexAddr t x y, ty, pos, af, g⟩ sk acc L := eR hg (z1 (sW (b9 ok ht).1 hx (cP hu) hs hy h0 hl)) h
theorem cL {f : FuncId} {args : Array Operand} {ts : Array TypeId} (h : cC P l fr fin k .v ⟨dd, .call ⟨.value (.func f), args, ts⟩, ty, pos, af, g⟩ sk acc L) : cC P l fr fin k .v ⟨dd, .call ⟨.value (.func f), args, ts⟩, ty, pos, af, g⟩ sk acc L := h
theorem df {f : FuncId} {args : Array Operand} {ts : Array TypeId} {cs ds : List AV} [bj P f] (h : DA P l fr fin sk ((k, u) :: acc) L) (hv : dC (cl l.toArray acc fr af.toList) args.toList = some cs := by rfl) (hi : l9 cs = some ds := by rfl) (hc : AD P f ds u := by infer_instance) (hg : iQ ⟨dd, .call ⟨.value (.func f), args, ts⟩, ty, pos, af, g⟩ acc := by first | trivial | rfl) : cC P l fr fin k .v ⟨dd, .call ⟨.value (.func f), args, ts⟩, ty, pos, af, g⟩ sk acc L := eR hg (fun _ _ => vL hv (by rw [fV hi]; exact hc.det)) h
theorem bX (ok : dl P tt) (i : Nat) {b kk : Nat} {cs : List AV} {e : TypeId} (ht : Cb tt t = true) (hx : aX (cl l.toArray acc fr af.toList) x = some (.sc (.pointer (some ⟨b, kk, none⟩)))) (hL : L[i]? = some (b, .box cs e)) (hc : cs[kk]? = some u) (hg : iQ ⟨dd, .load t x, ty, pos, af, g⟩ acc) (h : DA P l fr fin sk ((k, u) :: acc) L) : cC P l fr fin k .l ⟨dd, .load t x, ty, pos, af, g⟩ sk acc L := wn hg (fun _ => oV i (ck ok ht) hx hL hc) h
theorem t9 (ok : dl P tt) (i : Nat) {b kk n : Nat} {cs : List AV} {e : TypeId} (ht : BJ tt t = some n) (hx : aX (cl l.toArray acc fr af.toList) x = some (.sc (.pointer (some ⟨b, kk, none⟩)))) (hL : L[i]? = some (b, .box cs e)) (hc : Nat.ble (kk + n) cs.length = true) (hg : iQ ⟨dd, .load t x, ty, pos, af, g⟩ acc) (h : DA P l fr fin sk ((k, .agg ((cs.drop kk).take n)) :: acc) L) : cC P l fr fin k .l ⟨dd, .load t x, ty, pos, af, g⟩ sk acc L := wn hg (fun _ => qa i (dE ok ht) hx hL hc) h
theorem uE {gs : KpL} {i b kk : Nat} {v : AV} (hi : gs[i]? = some (.cell (b, kk, v))) {L : AL} (h : eL gs L) : ∃ (j : Nat) (cs : List AV) (e : TypeId), L[j]? = some (b, .box cs e) ∧ cs[kk]? = some v := by
 obtain ⟨cs, e, h1, h2⟩ := h _ (Dw hi)
 obtain ⟨j, hj⟩ := List.mem_iff_getElem?.1 h1
 exact ⟨j, cs, e, hj, h2⟩
theorem ta (ok : dl P tt) (i : Nat) {b kk : Nat} (ht : Cb tt t = true) (hx : aX (cl l.toArray acc fr af.toList) x = some (.sc (.pointer (some ⟨b, kk, none⟩)))) (hi : fin.gs[i]? = some (.cell (b, kk, u))) (hK : eL fin.gs L) (hg : iQ ⟨dd, .load t x, ty, pos, af, g⟩ acc) (h : DA P l fr fin sk ((k, u) :: acc) L) : cC P l fr fin k .k ⟨dd, .load t x, ty, pos, af, g⟩ sk acc L :=
 AJ hK hg (fun _ L' hL' => by
  obtain ⟨j, cs, e, h1, h2⟩ := uE hi hL'
  exact oV j (ck ok ht) hx h1 h2) h
theorem t1 {d : Option Tmp} {e sz by_ n : Nat} {parts : Array (Nat × Operand)} {vs : List AV} {xs : List (List AV)} (hc : jf P t e sz by_) (hsz : 0 < sz) (hv : dC fr (parts.toList.map (·.2)) = some vs) (hxs : gH vs = some xs) (hn : Nat.beq xs.length n = true) (hi : parts.toList.map (·.1) = List.range' 0 n) (hz : xs.all (fun q => Nat.beq q.length sz) = true) (h24 : Nat.ble (n * sz) 16777216 = true) :
  AO P ⟨d, .buildSlice t n parts, ty, pos, af, g⟩ fr B L (fun c L' => c = .imm sz xs ∧ L' = L) := by
 intro σ ρ w hρ hw
 refine (vN hc hsz hv hxs hn hi hz h24 σ ρ w hρ hw).mono fun v w' hh => ?_
 obtain ⟨τ, c, L', h1, h2, h3, b, rfl, rfl⟩ := hh
 exact ⟨τ, _, L, h1, h2.im, h3.sublist (.cons _ (List.Sublist.refl _)), rfl, rfl⟩
theorem lF (ok : dl P tt) {e sz by_ n : Nat} {parts : Array (Nat × Operand)} {vs : List AV} {xs : List (List AV)} (h : DA P l fr fin sk ((k, .imm sz xs) :: acc) L) (ht : iJ tt t = some (e, sz, by_) := by rfl) (hv : dC (cl l.toArray acc fr af.toList) (parts.toList.map (·.2)) = some vs := by rfl) (hxs : gH vs = some xs := by rfl) (hn : Nat.beq xs.length n = true := by rfl) (hi : parts.toList.map (·.1) = List.range' 0 n := by rfl) (hz : xs.all (fun q => Nat.beq q.length sz) = true := by rfl) (h24 : Nat.ble (n * sz) 16777216 = true := by rfl) (hg : iQ ⟨dd, .buildSlice t n parts, ty, pos, af, g⟩ acc := by first | trivial | rfl) :
  cC P l fr fin k .v ⟨dd, .buildSlice t n parts, ty, pos, af, g⟩ sk acc L := eR hg (fun _ _ => t1 (b9 ok ht).1 (b9 ok ht).2 hv hxs hn hi hz h24) h
theorem ce (ok : dl P tt) {r : Option Nat} {ops : Array Oper} {Q : Exit → Act → World → Prop} {nt : Nat} {D : List Deferred} {rest : List Oper} {d e sz by_ n : Nat} {parts : Array (Nat × Operand)} {vs : List AV} {xs : List (List AV)} (h : bh P r ops Q nt D rest ((d, .imm sz xs) :: fr) B L) (ht : iJ tt t = some (e, sz, by_) := by rfl) (hv : dC fr (parts.toList.map (·.2)) = some vs := by rfl) (hxs : gH vs = some xs := by rfl) (hn : Nat.beq xs.length n = true := by rfl) (hi : parts.toList.map (·.1) = List.range' 0 n := by rfl) (hz : xs.all (fun q => Nat.beq q.length sz) = true := by rfl) (h24 : Nat.ble (n * sz) 16777216 = true := by rfl) (hd : Nat.ble nt d = false := by rfl) :
  bh P r ops Q nt D (⟨some d, .buildSlice t n parts, ty, pos, af, none⟩ :: rest) fr B L := by
 obtain ⟨h1, h2⟩ := b9 ok ht
 refine c6 hd rfl (t1 h1 h2 hv hxs hn hi hz h24) fun c L' hh => ?_
 obtain ⟨h1, h2⟩ := hh
 subst h1; subst h2
 exact h
theorem bz {gs : KpL} {n0 : Nat} {fr0 : bw} {rest : List Oper} (ks : List Nat) (hk : fx (g7 l.toArray acc fr n0) ks = some fr0) (hr : l.drop n0 = rest) (h : bh P r l.toArray Q nt D rest fr0 B L) : DA P l fr ⟨yN P r l n0 Q nt D fr B none, gs⟩ [] acc L :=
 ⟨.fin, rfl, by rw [← hr] at h; exact vV (d7 ks hk) (fun _ _ h => h) h⟩
end
end Go.Proofs.YtpmdfoaadejmkaaGreatDoor
namespace Go.Proofs.YtpmdfoaadejmkaaGreatDoor
open Go.RowKit
attribute [local irreducible] AT bh AX AO Av Kt b6 di DA cC
structure aG where
 Glyph : Int
 Cluster : Int
 Form : Int
 Advance : Int
 X : Int
 Y : Int
def bN (x : aG) : List AV := [aA x.Glyph, aA x.Cluster, aA x.Form, aA x.Advance, aA x.X, aA x.Y]
def zT (ms : List Bool) (g : Int) : Bool := decide (0 ≤ g) && ms.getD g.toNat false
def lW (ms : List Bool) (ig : Bool) (x : aG) : Bool := !(ig && zT ms x.Glyph)
def gW (ms : List Bool) (ig : Bool) (run : List aG) (i : Nat) : Bool := match run[i]? with
 | some x => lW ms ig x
 | none => false
def dm (ms : List Bool) (ig : Bool) (run : List aG) (i : Nat) : List Nat := (List.range' i (run.length - i)).filter (gW ms ig run)
def jP (ms : List Bool) (ig : Bool) (run : List aG) : Nat → List Nat
 | 0 => []
 | i + 1 => if gW ms ig run i = true then i :: jP ms ig run i else jP ms ig run i
def ev (run : List aG) (i : Nat) : Int := match run[i]? with
 | some x => x.Glyph
 | none => -1
def dB : List (List Int) → List Int → Bool
 | [], _ => true
 | _ :: _, [] => false
 | s :: ss, g :: gs => s.contains g && dB ss gs
def dS (ms : List Bool) (ig : Bool) (run : List aG) (i : Nat) (r : aV) : Bool :=
 !r.In.isEmpty && (dB (r.In ++ r.Ahead) ((dm ms ig run i).map (ev run)) && dB r.Back ((jP ms ig run i).map (ev run)))
def jr (ms : List Bool) (ig : Bool) (run : List aG) (i : Nat) (forms : List Int) : Bool := match run[i]? with
 | some x => lW ms ig x && (forms.isEmpty || forms.contains x.Form)
 | none => false
def du (ms : List Bool) (l : aQ) (run : List aG) (i : Nat) (forms : List Int) : Option aV := if jr ms l.Ignore run i forms = true then l.Rules.find? (dS ms l.Ignore run i) else none
def cO (ms : List Bool) (l : aQ) (run : List aG) (i : Nat) (r : aV) : List Nat := (dm ms l.Ignore run i).take r.In.length
def eC (r : aV) (i : Nat) (run : List aG) : List aG := match run[i]? with
 | none => run
 | some x => match r.Out[(r.In.headD []).idxOf x.Glyph]? with
  | none => run
  | some g => if (r.In.headD []).idxOf x.Glyph < (r.In.headD []).length then run.set i { x with Glyph := g } else run
def fJ (r : aV) (i : Nat) (run : List aG) : List aG := match run[i]? with
 | none => run
 | some x => if run.length - 1 + r.Out.length > 500 ∧ 1 < r.Out.length then run else run.take i ++ (r.Out.map fun g => { x with Glyph := g }) ++ run.drop (i + 1)
def dN : List Nat → List aG → List aG
 | [], run => run
 | p :: ps, run => (dN ps run).eraseIdx p
def la (run : List aG) (c : Int) (p : Nat) : Int := match run[p]? with
 | some x => min c x.Cluster
 | none => c
def f7 (run : List aG) (ps : List Nat) (c : Int) : Int := ps.foldl (la run) c
def ke (r : aV) (ps : List Nat) (run : List aG) : List aG := match ps, r.Out with
 | p :: q, g :: _ => match run[p]? with
  | some x => dN q (run.set p { x with Glyph := g, Cluster := f7 run (p :: q) x.Cluster })
  | none => run
 | _, _ => run
def oz (r : aV) (i : Nat) (run : List aG) : List aG := match run[i]? with
 | some x => run.set i { x with Advance := IntKind.i64.wrap (x.Advance + r.X) }
 | none => run
def pv (ms : List Bool) (ig : Bool) (run : List aG) (i : Nat) (n : Int) : Option Nat := if 0 ≤ n then (dm ms ig run i)[n.toNat]? else none
def eN (l : aQ) (r : aV) (ps : List Nat) (run : List aG) : List aG :=
 if l.Kind = 1 ∨ l.Kind = 5 then eC r (ps.headD 0) run
 else if l.Kind = 2 then fJ r (ps.headD 0) run
 else if l.Kind = 3 then ke r ps run
 else if l.Kind = 6 then oz r (ps.headD 0) run
 else run
abbrev Ci := aQ → aV → List Nat → List aG → List aG
def jT (ms : List Bool) (ls : List aQ) (d : Ci) (n : Int) (i : Nat) (run : List aG) : List aG :=
 if n < 0 then run else match ls[n.toNat]? with
 | none => run
 | some l => if l.Kind < 1 ∨ 4 < l.Kind then run else match du ms l run i [] with
  | none => run
  | some r => d l r (cO ms l run i r) run
def dW (ms : List Bool) (ls : List aQ) (d : Ci) (ig : Bool) (i : Nat) (run : List aG) (c : ic) : List aG := match pv ms ig run i c.At with
 | none => run
 | some p => jT ms ls d c.Lookup p run
def gA (ms : List Bool) (ls : List aQ) : Nat → Ci
 | 0 => fun l r ps run => eN l r ps run
 | k + 1 => fun l r ps run => if l.Kind = 4 then r.Calls.foldl (dW ms ls (gA ms ls k) l.Ignore (ps.headD 0)) run else eN l r ps run
def tE (l : aQ) (i last : Nat) (run run' : List aG) : Nat :=
 if l.Kind = 4 then max (run'.length - (run.length - 1 - last)) (i + 1)
 else if l.Kind = 6 ∧ i < last then last
 else run'.length - (run.length - 1 - last)
def tG (ms : List Bool) (ls : List aQ) (l : aQ) (forms : List Int) : Nat → Nat → List aG → List aG
 | 0, _, run => run
 | k + 1, i, run => if i < run.length then match du ms l run i forms with
   | none => tG ms ls l forms k (i + 1) run
   | some r => tG ms ls l forms k (tE l i ((cO ms l run i r).getLastD i) run (gA ms ls 4 l r (cO ms l run i r) run)) (gA ms ls 4 l r (cO ms l run i r) run)
  else run
def hZ (ms : List Bool) (ls : List aQ) (l : aQ) (forms : List Int) : Nat → List aG → List aG
 | 0, run => run
 | i + 1, run => hZ ms ls l forms i (match du ms l run i forms with
  | none => run
  | some r => gA ms ls 4 l r (cO ms l run i r) run)
def d8 (ms : List Bool) (ls : List aQ) (n : Int) (run : List aG) (forms : List Int) : List aG :=
 if n < 0 then run else match ls[n.toNat]? with
 | none => run
 | some l => if l.Kind < 1 ∨ 6 < l.Kind then run else if l.Kind = 5 then hZ ms ls l forms run.length run else tG ms ls l forms run.length 0 run
def bG (p : Nat → Bool) : Nat → Nat
 | 0 => 0
 | n + 1 => bG p n ||| (if p n = true then 2 ^ n else 0)
theorem bD (p : Nat → Bool) (i : Nat) : ∀ n, (bG p n).testBit i = (decide (i < n) && p i)
 | 0 => by simp [bG]
 | n + 1 => by
  rw [bG, Nat.testBit_or, bD p i n]
  by_cases hi : i = n
  ·subst hi
   cases hp : p i <;> simp [Nat.testBit_two_pow_self]
  ·have h1 : decide (i < n + 1) = decide (i < n) := decide_eq_decide.2 (by omega)
   have h2 : (if p n = true then 2 ^ n else 0).testBit i = false := by
    split
    ·rw [Nat.testBit_two_pow_of_ne (by omega)]
    ·simp
   rw [h1, h2, Bool.or_false]
theorem jQ (p : Nat → Bool) (n : Nat) : bG p n < 2 ^ n := Nat.lt_pow_two_of_testBit _ fun i hi => by
 rw [bD, decide_eq_false (by omega), Bool.false_and]
theorem eY {x y : Nat} (h : ∀ i, x.testBit i = y.testBit i) : x = y := Nat.eq_of_testBit_eq h
theorem mC {p : Nat → Bool} {n : Nat} : bG p n = 0 ↔ ∀ i, i < n → p i = false := by
 constructor
 ·intro h i hi
  have := bD p i n
  rw [h, Nat.zero_testBit, decide_eq_true hi, Bool.true_and] at this
  exact this.symm
 ·intro h
  refine eY fun i => ?_
  rw [bD, Nat.zero_testBit]
  by_cases hi : i < n
  ·rw [h i hi, Bool.and_false]
  ·rw [decide_eq_false hi, Bool.false_and]
section
variable (cls : List Int) (rows : List (List (List Int))) (have_ : Nat → Bool)
def dL (c : Nat) (s : List Int) : Bool := s.any fun g => decide (0 ≤ g) && (decide (g < cls.length) && decide (cls.getD g.toNat (-1) = (c : Int)))
def ji (m c : Nat) (n : Nat) : Bool := match rows[n]? with
 | some r => match r[m]? with
  | some s => dL cls c s
  | none => false
 | none => false
def gi (m : Nat) (n : Nat) : Bool := match rows[n]? with
 | some r => decide (r.length = m)
 | none => false
def gq (m c : Nat) : Nat := bG (ji cls rows m c) rows.length
def tf (m : Nat) : Nat := bG (gi rows m) rows.length
def jw : Nat × Nat := (0, bG have_ rows.length)
def br (p : Nat × Nat) (c : Nat) : Nat × Nat := if p.2 &&& gq cls rows p.1 c = 0 then (0, 0) else (p.1 + 1, p.2 &&& gq cls rows p.1 c)
def gj (p : Nat × Nat) : Nat := if p.2 = 0 then 0 else p.2 &&& tf rows p.1
structure nT (C : Nat) (tab : List (List Int)) (ends : List Nat) : Prop where
 met : ∃ met : List (Nat × Nat), met[0]? = some (jw rows have_) ∧ met.length = tab.length ∧ met.length = ends.length ∧
  (∀ (i : Nat) p, met[i]? = some p → ends[i]? = some (gj rows p)) ∧
  (∀ (i : Nat) p q, met[i]? = some p → tab[i]? = some q → q.length = C ∧ ∀ (c : Nat) z, q[c]? = some z → ((br cls rows p c).2 = 0 ∧ z = -1) ∨ ((br cls rows p c).2 ≠ 0 ∧ 0 ≤ z ∧ met[z.toNat]? = some (br cls rows p c)))
end
def fh (cls : List Int) (tab : List (List Int)) (s : Int) (g : Int) : Int :=
 if s < 0 ∨ g < 0 then -1 else match tab[s.toNat]?, cls[g.toNat]? with
 | some dr, some c => if c < 0 then -1 else match dr[c.toNat]? with
  | some z => if 0 ≤ z ∧ z < tab.length then z else -1
  | none => -1
 | _, _ => -1
def fU (ends : List Nat) (s : Int) : Nat := if s < 0 then 0 else ends.getD s.toNat 0
def jk (cls : List Int) (tab : List (List Int)) (ends : List Nat) : Int → List Int → Nat → Nat
 | _, [], told => told
 | s, g :: r, told => if fh cls tab s g = -1 then told else jk cls tab ends (fh cls tab s g) r (told ||| fU ends (fh cls tab s g))
def eh (cls : List Int) (tab : List (List Int)) (ends : List Nat) (gl : List Int) : Nat := jk cls tab ends 0 gl (fU ends 0)
structure pV (n : Nat) (C : Nat) (cls : List Int) (sets : List (List Int)) : Prop where
 len : cls.length = n
 dom : ∀ z ∈ cls, 0 ≤ z ∧ z < C
 apart : ∀ s ∈ sets, ∀ (i j : Nat) z, cls[i]? = some z → cls[j]? = some z → ((i : Int) ∈ s ↔ (j : Int) ∈ s)
theorem qO {cls : List Int} {n C : Nat} {sets : List (List Int)} (h : pV n C cls sets) {s : List Int} (hs : s ∈ sets) (hd : ∀ g ∈ s, 0 ≤ g ∧ g < n) {g : Int} (h0 : 0 ≤ g) {c : Nat} (hc : cls[g.toNat]? = some (c : Int)) : dL cls c s = s.contains g := by
 rw [Bool.eq_iff_iff, List.contains_iff_mem]
 unfold dL
 rw [List.any_eq_true]
 constructor
 ·rintro ⟨x, hx, hb⟩
  simp only [Bool.and_eq_true, decide_eq_true_eq] at hb
  obtain ⟨h1, h2, h3⟩ := hb
  have hxc : cls[x.toNat]? = some (c : Int) := by
   rw [Bn (by omega)]
   rw [List.getD_eq_getElem?_getD, Bn (by omega)] at h3
   exact congrArg some h3
  have := (h.apart s hs x.toNat g.toNat c hxc hc).1 (by rw [Int.toNat_of_nonneg h1]; exact hx)
  rwa [Int.toNat_of_nonneg h0] at this
 ·intro hg
  refine ⟨g, hg, ?_⟩
  have hl := h.len
  have := hd g hg
  simp only [Bool.and_eq_true, decide_eq_true_eq]
  refine ⟨h0, by omega, ?_⟩
  rw [List.getD_eq_getElem?_getD, hc]
  rfl
def kg (rows : List (List (List Int))) (have_ : Nat → Bool) (gl : List Int) (n : Nat) : Bool := match rows[n]? with
 | some r => have_ n && (decide (gl.length ≤ r.length) && dB (r.take gl.length) gl)
 | none => false
theorem kW : ∀ {ss : List (List Int)} {gl : List Int} {s : List Int} {g : Int}, ss.length = gl.length → dB (ss ++ [s]) (gl ++ [g]) = (dB ss gl && s.contains g)
 | [], [], s, g, _ => by simp [dB]
 | [], _ :: _, _, _, h => by simp at h
 | _ :: _, [], _, _, h => by simp at h
 | s' :: ss, g' :: gl, s, g, h => by
  rw [Ds, Ds, dB, kW (by simpa using h), dB, Bool.and_assoc]
theorem gP : ∀ {a : List (List Int)} {b : List Int}, b.length < a.length → dB a b = false
 | [], _, h => by simp at h
 | _ :: _, [], _ => rfl
 | _ :: a, _ :: b, h => by rw [dB, gP (by simpa using h), Bool.and_false]
theorem iY : ∀ {ss : List (List Int)} {gl x : List Int}, ss.length ≤ gl.length → dB ss (gl ++ x) = dB ss gl
 | [], _, _, _ => rfl
 | _ :: _, [], _, h => by simp at h
 | s :: ss, g :: gl, x, h => by rw [Ds, dB, dB, iY (by simpa using h)]
section
variable {cls : List Int} {rows : List (List (List Int))} {have_ : Nat → Bool} {N C : Nat} {sets : List (List Int)}
theorem wW (h : pV N C cls sets) (hs : ∀ r ∈ rows, ∀ s ∈ r, s ∈ sets ∧ ∀ g ∈ s, 0 ≤ g ∧ g < N) {gl : List Int} {g : Int} {c : Nat} (h0 : 0 ≤ g) (hc : cls[g.toNat]? = some (c : Int)) :
  bG (kg rows have_ gl) rows.length &&& gq cls rows gl.length c = bG (kg rows have_ (gl ++ [g])) rows.length := by
 refine eY fun n => ?_
 rw [Nat.testBit_and, bD, gq, bD, bD]
 by_cases hn : n < rows.length
 ·simp only [decide_eq_true hn, Bool.true_and]
  unfold kg ji
  rw [Bn hn]
  dsimp only
  have hm := List.getElem_mem hn
  generalize rows[n] = r at hm
  rw [List.length_append, List.length_singleton]
  by_cases hl : gl.length < r.length
  ·have hs' := hs r hm r[gl.length] (List.getElem_mem hl)
   rw [Bn hl, decide_eq_true (by omega : gl.length ≤ r.length), decide_eq_true (by omega : gl.length + 1 ≤ r.length), List.take_add_one, Bn hl]
   dsimp only [Option.toList]
   rw [kW (by rw [List.length_take]; omega), qO h hs'.1 hs'.2 h0 hc]
   cases have_ n <;> simp
  ·rw [List.getElem?_eq_none (by omega), decide_eq_false (by omega : ¬ gl.length + 1 ≤ r.length)]
   simp
 ·simp [decide_eq_false hn]
def dt (rows : List (List (List Int))) (have_ : Nat → Bool) (gl : List Int) (n : Nat) : Bool := match rows[n]? with
 | some r => have_ n && dB r gl
 | none => false
theorem lT {tab : List (List Int)} {ends : List Nat} (h : pV N C cls sets) (hs : ∀ r ∈ rows, ∀ s ∈ r, s ∈ sets ∧ ∀ g ∈ s, 0 ≤ g ∧ g < N) (ht : nT cls rows have_ C tab ends) (hC : ∀ z ∈ cls, z.toNat < C) :
  ∀ (gl : List Int), eh cls tab ends gl = bG (dt rows have_ gl) rows.length := by
 obtain ⟨met, h0, hl, hle, he, hn⟩ := ht.met
 have hmt := hl
 have key : ∀ (r gl : List Int) (s : Nat) (told : Nat) (p : Nat × Nat), met[s]? = some p → p.1 = gl.length → p.2 = bG (kg rows have_ gl) rows.length → told = bG (dt rows have_ gl) rows.length →
   (gl = [] ∨ p.2 ≠ 0) → jk cls tab ends s r told = bG (dt rows have_ (gl ++ r)) rows.length := by
  intro r
  induction r with
  | nil => intro gl s told p _ _ _ ht _; rw [jk, List.append_nil]; exact ht
  | cons g r ih =>
   intro gl s told p hp hp1 hp2 htold hne
   have hsl : s < met.length := (Dp hp).1
   obtain ⟨q, hq⟩ : ∃ q, tab[s]? = some q := ⟨_, Bn (by omega)⟩
   obtain ⟨hqC, hqn⟩ := hn s p q hp hq
   have stop : (∀ n, kg rows have_ (gl ++ [g]) n = false) → bG (dt rows have_ gl) rows.length = bG (dt rows have_ (gl ++ g :: r)) rows.length := by
    intro hz
    refine eY fun n => ?_
    rw [bD, bD]
    congr 1
    have hzn := hz n
    unfold kg at hzn
    unfold dt
    cases hr : rows[n]? with
    | none => rfl
    | some dr =>
     rw [hr] at hzn
     dsimp only at hzn ⊢
     by_cases hh : have_ n = true
     ·rw [hh, Bool.true_and] at hzn ⊢
      rw [Bool.true_and]
      by_cases hrl : dr.length ≤ gl.length
      ·rw [iY hrl]
      ·rw [List.length_append, List.length_singleton, decide_eq_true (by omega), Bool.true_and, List.take_add_one, Bn (by omega)] at hzn
       dsimp only [Option.toList] at hzn
       have e1 : dB dr gl = false := by
        rw [Bool.eq_false_iff]
        intro hf
        rw [gP (by omega)] at hf
        cases hf
       have e2 : dB dr (gl ++ g :: r) = false := by
        have e3 : dr = (dr.take gl.length ++ [dr[gl.length]]) ++ dr.drop (gl.length + 1) := by
         rw [List.append_assoc, List.singleton_append, List.getElem_cons_drop, List.take_append_drop]
        have e4 : ∀ {a b : List (List Int)} {x : List Int}, dB (a ++ b) x = true → dB a x = true := by
         intro a
         induction a with
         | nil => intro b x _; rfl
         | cons y a iha =>
          intro b x hx
          cases x with
          | nil => cases hx
          | cons w x =>
           rw [Ds, dB, Bool.and_eq_true] at hx
           rw [dB, Bool.and_eq_true]
           exact ⟨hx.1, iha hx.2⟩
        rw [Bool.eq_false_iff]
        intro hf
        rw [e3] at hf
        have := e4 hf
        rw [show gl ++ g :: r = (gl ++ [g]) ++ r by simp, iY (by simp; omega)] at this
        rw [this] at hzn
        cases hzn
       rw [e1, e2]
     ·simp [hh]
   rw [jk]
   by_cases hg : 0 ≤ g ∧ g.toNat < cls.length
   ·obtain ⟨hg0, hgl⟩ := hg
    obtain ⟨z, hz⟩ : ∃ z, cls[g.toNat]? = some z := ⟨_, Bn hgl⟩
    have hzm := Dw hz
    have hzd := h.dom z hzm
    obtain ⟨c, rfl⟩ := Int.eq_ofNat_of_zero_le hzd.1
    have hcC : c < C := by omega
    obtain ⟨t, htc⟩ : ∃ t, q[c]? = some t := ⟨_, Bn (by omega)⟩
    have hstep := wW (have_ := have_) (gl := gl) h hs hg0 hz
    have hnx : fh cls tab s g = if 0 ≤ t ∧ t < tab.length then t else -1 := by
     unfold fh
     rw [if_neg (by omega), Int.toNat_natCast, hq, hz]
     dsimp only
     rw [if_neg (by omega), Int.toNat_natCast, htc]
    have hbe : br cls rows p c = if bG (kg rows have_ (gl ++ [g])) rows.length = 0 then (0, 0) else (gl.length + 1, bG (kg rows have_ (gl ++ [g])) rows.length) := by
     unfold br
     rw [hp1, hp2, hstep]
    rcases hqn c t htc with ⟨h1, h2⟩ | ⟨h1, h2, h3⟩
    ·subst h2
     have hno : ¬ ((0 : Int) ≤ -1 ∧ (-1 : Int) < tab.length) := fun e => absurd e.1 (by decide)
     rw [hnx, if_neg hno, if_pos rfl, htold]
     refine stop fun n => ?_
     rw [hbe] at h1
     have hzero : bG (kg rows have_ (gl ++ [g])) rows.length = 0 := by
      split at h1
      ·assumption
      ·exact h1
     by_cases hnl : n < rows.length
     ·exact mC.1 hzero n hnl
     ·unfold kg; rw [List.getElem?_eq_none (by omega)]
    ·have htl : t.toNat < tab.length := by
      have := (Dp h3).1
      omega
     have htz : ¬ t = -1 := by omega
     have hin : (0 : Int) ≤ t ∧ t < tab.length := ⟨h2, by omega⟩
     rw [if_pos hin] at hnx
     rw [hnx, if_neg htz]
     rw [hbe] at h1 h3
     have hnz : ¬ bG (kg rows have_ (gl ++ [g])) rows.length = 0 := by
      intro e
      rw [if_pos e] at h1
      exact h1 rfl
     rw [if_neg hnz] at h3
     have := ih (gl ++ [g]) t.toNat (told ||| fU ends t) _ h3 (by simp) rfl ?_ (.inr hnz)
     ·rw [Int.toNat_of_nonneg h2] at this
      rw [this]
      simp
     ·
      have hen := he _ _ h3
      unfold fU
      rw [if_neg (by omega), List.getD_eq_getElem?_getD, hen, htold]
      dsimp only [Option.getD]
      unfold gj
      rw [if_neg hnz]
      refine eY fun n => ?_
      rw [Nat.testBit_or, Nat.testBit_and, tf, bD, bD, bD, bD]
      by_cases hnl : n < rows.length
      ·simp only [decide_eq_true hnl, Bool.true_and]
       unfold dt kg gi
       rw [Bn hnl]
       dsimp only
       generalize rows[n] = dr
       cases have_ n
       ·simp
       ·simp only [Bool.true_and, List.length_append, List.length_singleton]
        by_cases hrl : dr.length ≤ gl.length
        ·rw [iY hrl, decide_eq_false (by omega : ¬ dr.length = gl.length + 1), Bool.and_false, Bool.or_false]
        ·have e1 : dB dr gl = false := gP (by omega)
         rw [e1, Bool.false_or]
         by_cases hre : dr.length = gl.length + 1
         ·rw [decide_eq_true hre, Bool.and_true, decide_eq_true (by omega), Bool.true_and, List.take_of_length_le (by omega)]
         ·rw [decide_eq_false hre, Bool.and_false]
          exact (gP (by simp; omega)).symm
      ·simp [decide_eq_false hnl]
   ·have hnx : fh cls tab s g = -1 := by
     unfold fh
     by_cases hg0 : g < 0
     ·rw [if_pos (.inr hg0)]
     ·rw [if_neg (by omega), Int.toNat_natCast, hq, List.getElem?_eq_none (by omega)]
    rw [hnx, if_pos rfl, htold]
    refine stop fun n => ?_
    unfold kg
    cases hr : rows[n]? with
    | none => rfl
    | some dr =>
     dsimp only
     by_cases hrl : gl.length + 1 ≤ dr.length
     ·have hs' := hs dr (Dw hr) dr[gl.length] (List.getElem_mem (by omega))
      have hng : dr[gl.length].contains g = false := by
       rw [Bool.eq_false_iff]
       intro hm
       rw [List.contains_iff_mem] at hm
       have := hs'.2 g hm
       have hl := h.len
       omega
      rw [List.length_append, List.length_singleton, List.take_add_one, Bn (by omega)]
      dsimp only [Option.toList]
      rw [kW (by rw [List.length_take]; omega), hng]
      simp
     ·rw [List.length_append, List.length_singleton, decide_eq_false hrl]
      simp
 intro gl
 have h00 := key gl [] 0 (fU ends 0) _ h0 rfl ?_ ?_ (.inl rfl)
 ·rw [Dr] at h00
  exact h00
 ·refine eY fun n => ?_
  unfold jw
  rw [bD, bD]
  by_cases hnl : n < rows.length
  ·simp only [decide_eq_true hnl, Bool.true_and]
   unfold kg
   rw [Bn hnl]
   simp [dB]
  ·simp [decide_eq_false hnl]
 ·have hen := he _ _ h0
  unfold fU
  rw [if_neg (by omega), List.getD_eq_getElem?_getD]
  rw [show (0 : Int).toNat = 0 from rfl, hen]
  dsimp only [Option.getD]
  refine eY fun n => ?_
  have hb : (gj rows (jw rows have_)) = bG have_ rows.length &&& tf rows 0 := by
   unfold gj jw
   dsimp only
   split
   ·rename_i e
    rw [e, Nat.zero_and]
   ·rfl
  rw [hb, Nat.testBit_and, tf, bD, bD, bD]
  by_cases hnl : n < rows.length
  ·simp only [decide_eq_true hnl, Bool.true_and]
   unfold dt gi
   rw [Bn hnl]
   dsimp only
   generalize rows[n] = dr
   cases dr with
   | nil => simp [dB]
   | cons s dr => simp [dB]
  ·simp [decide_eq_false hnl]
end
end Go.Proofs.YtpmdfoaadejmkaaGreatDoor
namespace Go.Proofs.YtpmdfoaadejmkaaGreatDoor
open Go.RowKit
attribute [local irreducible] AT bh AX AO Av Kt b6 di DA cC
theorem kX : ∀ {ss : List (List Int)} {gl : List Int} {k : Nat}, ss.length ≤ k → dB ss (gl.take k) = dB ss gl
 | [], _, _, _ => rfl
 | _ :: _, [], k, _ => by rw [List.take_nil]
 | _ :: ss, _ :: gl, 0, h => by simp at h
 | s :: ss, g :: gl, k + 1, h => by rw [List.take_succ_cons, dB, dB, kX (by simpa using h)]
theorem wt {α : Type} {q : α → Bool} {l : List α} : l.find? q = (l.findIdx? q).bind fun i => l[i]? := by
  cases h : l.findIdx? q with
  | none => rw [List.find?_eq_none.2]; · rfl
            intro x hx
            rw [List.findIdx?_eq_none_iff] at h
            rw [h x hx]; decide
  | some i =>
    obtain ⟨hi, h1, h2⟩ := List.findIdx?_eq_some_iff_getElem.1 h
    rw [Option.bind_some, Bn hi, List.find?_eq_some_iff_getElem]
    exact ⟨h1, i, hi, rfl, fun j hj => by simpa using h2 j hj⟩
theorem se {α : Type} {q : α → Bool} {l : List α} {b : Nat} (hb : ∀ n, b.testBit n = (l[n]?).any q) :
  (∀ i, l.findIdx? q = some i → b.testBit i = true ∧ ∀ j, j < i → b.testBit j = false) ∧ (l.findIdx? q = none → b = 0) := by
 constructor
 ·intro i h
  obtain ⟨hi, h1, h2⟩ := List.findIdx?_eq_some_iff_getElem.1 h
  refine ⟨by rw [hb, Bn hi]; exact h1, fun j hj => ?_⟩
  rw [hb, Bn (by omega)]
  simpa using h2 j hj
 ·intro h
  refine eY fun n => ?_
  rw [hb, Nat.zero_testBit]
  cases hn : l[n]? with
  | none => rfl
  | some x => exact List.findIdx?_eq_none_iff.1 h x (Dw hn)
def cM (r : aV) : List (List Int) := if r.In.isEmpty then [] else r.In ++ r.Ahead
def of (rs : List aV) (n : Nat) : Bool := match rs[n]? with
 | some r => !r.In.isEmpty
 | none => false
theorem ud {rs : List aV} {fg bg : List Int} {n : Nat} : (bG (dt (rs.map aV.Back) (fun _ => true) bg) (rs.map aV.Back).length &&& bG (dt (rs.map cM) (of rs) fg) (rs.map cM).length).testBit n = (rs[n]?).any fun r => !r.In.isEmpty && (dB (r.In ++ r.Ahead) fg && dB r.Back bg) := by
 rw [Nat.testBit_and, bD, bD]
 simp only [Du]
 unfold dt of
 simp only [List.getElem?_map]
 cases h : rs[n]? with
 | none => simp
 | some r =>
  have hn := (Dp h).1
  simp only [Option.map_some, Option.any_some, decide_eq_true hn, Bool.true_and]
  unfold cM
  cases r.In.isEmpty <;> simp [Bool.and_comm]
def ee (rs : List aV) : Nat := rs.foldl (fun m r => max m (r.In.length + r.Ahead.length)) 0
def fy (rs : List aV) : Nat := rs.foldl (fun m r => max m r.Back.length) 0
theorem jZ {α : Type} {g : α → Nat} : ∀ {l : List α} {m : Nat}, m ≤ l.foldl (fun m r => max m (g r)) m ∧ ∀ r ∈ l, g r ≤ l.foldl (fun m r => max m (g r)) m
 | [], m => ⟨Nat.le_refl _, fun r h => by cases h⟩
 | x :: l, m => by
  have ih := jZ (g := g) (l := l) (m := max m (g x))
  rw [List.foldl_cons]
  refine ⟨by have := ih.1; omega, fun r hr => ?_⟩
  rcases List.mem_cons.1 hr with rfl | hr
  ·have := ih.1; omega
  ·exact ih.2 r hr
theorem rV {ms : List Bool} {ig : Bool} {run : List aG} {i : Nat} {rs : List aV} {b : Nat}
  (hb : ∀ n, b.testBit n = (rs[n]?).any fun r => !r.In.isEmpty && (dB (r.In ++ r.Ahead) (((dm ms ig run i).take (ee rs)).map (ev run)) && dB r.Back (((jP ms ig run i).take (fy rs)).map (ev run)))) (n : Nat) : b.testBit n = (rs[n]?).any (dS ms ig run i) := by
 rw [hb]
 cases h : rs[n]? with
 | none => rfl
 | some r =>
  have hm := Dw h
  have h1 : (r.In ++ r.Ahead).length ≤ ee rs := by rw [List.length_append]; exact (jZ (g := fun r : aV => r.In.length + r.Ahead.length)).2 r hm
  have h2 : r.Back.length ≤ fy rs := (jZ (g := fun r : aV => r.Back.length)).2 r hm
  rw [Option.any_some, Option.any_some]
  unfold dS
  rw [List.map_take, List.map_take, kX h1, kX h2]
end Go.Proofs.YtpmdfoaadejmkaaGreatDoor
