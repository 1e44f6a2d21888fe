/-
  Fonts as data, and as abstract values.
-/
import Derived.Test.YtpmdfoaadejmkaaGreatDoorM04
namespace Go.Proofs.YtpmdfoaadejmkaaGreatDoor
open Go.RowKit
abbrev az (z : Int) : AV := .sc (.int .i64 z)
abbrev vq (s : ByteArray) : AV := .sc (.string s)
abbrev dx (b : Bool) : AV := .sc (.bool b)
structure i7 where
 X : Int
 Y : Int
 On : Bool
structure cQ where
 Glyph : Int
 X : Int
 Y : Int
structure dt where
 Kind : Int
 Class : Int
 X : Int
 Y : Int
structure f0 where
 Region : Int
 Point : Int
 X : Int
 Y : Int
structure gy where
 Op : Int
 A : Int
structure b9 where
 Name : ByteArray
 Advance : Int
 Mark : Bool
 Points : List i7
 Ends : List Int
 Parts : List cQ
 Anchors : List dt
 Deltas : List f0
 Hint : List gy
structure gW where
 Rune : Int
 Glyph : Int
structure i6 where
 At : Int
 Lookup : Int
structure aT where
 Back : List (List Int)
 In : List (List Int)
 Ahead : List (List Int)
 Out : List Int
 Calls : List i6
 X : Int
structure aQ where
 Kind : Int
 Ignore : Bool
 Rules : List aT
structure bO where
 Name : ByteArray
 Lookups : List Int
structure dY where
 Name : ByteArray
 Min : Int
 Def : Int
 Max : Int
structure fp where
 Start : Int
 Peak : Int
 End : Int
structure aM where
 Unit : Int
 Glyphs : List b9
 Chars : List gW
 Lookups : List aQ
 Features : List bO
 Axes : List dY
 Regions : List (List fp)
 Funcs : List (List gy)
 Cvt : List Int
def b7 (l : List (List Int)) : List (List AV) := l.map fun q => [.imm 1 (aU q)]
def Da (l : List ByteArray) : List (List AV) := l.map fun s => [vq s]
def fw (p : i7) : List AV := [az p.X, az p.Y, dx p.On]
def eX (p : cQ) : List AV := [az p.Glyph, az p.X, az p.Y]
def dR (p : dt) : List AV := [az p.Kind, az p.Class, az p.X, az p.Y]
def f4 (p : f0) : List AV := [az p.Region, az p.Point, az p.X, az p.Y]
def ie (p : gy) : List AV := [az p.Op, az p.A]
def c7 (g : b9) : List AV := [vq g.Name, az g.Advance, dx g.Mark, .imm 3 (g.Points.map fw), .imm 1 (aU g.Ends), .imm 3 (g.Parts.map eX), .imm 4 (g.Anchors.map dR), .imm 4 (g.Deltas.map f4), .imm 2 (g.Hint.map ie)]
def f8 (c : gW) : List AV := [az c.Rune, az c.Glyph]
def f7 (c : i6) : List AV := [az c.At, az c.Lookup]
def bH (r : aT) : List AV := [.imm 1 (b7 r.Back), .imm 1 (b7 r.In), .imm 1 (b7 r.Ahead), .imm 1 (aU r.Out), .imm 2 (r.Calls.map f7), az r.X]
def bn (l : aQ) : List AV := [az l.Kind, dx l.Ignore, .imm 6 (l.Rules.map bH)]
def ca (t : bO) : List AV := [vq t.Name, .imm 1 (aU t.Lookups)]
def ej (a : dY) : List AV := [vq a.Name, az a.Min, az a.Def, az a.Max]
def qh (t : fp) : List AV := [az t.Start, az t.Peak, az t.End]
def d7 (r : List fp) : List AV := [.imm 3 (r.map qh)]
def jM (l : List gy) : List AV := [.imm 2 (l.map ie)]
def bU (f : aM) : List AV := [az f.Unit, .imm 9 (f.Glyphs.map c7), .imm 2 (f.Chars.map f8), .imm 3 (f.Lookups.map bn), .imm 2 (f.Features.map ca), .imm 4 (f.Axes.map ej), .imm 1 (f.Regions.map d7), .imm 1 (f.Funcs.map jM), .imm 1 (aU f.Cvt)]
abbrev cx (f : aM) : AV := .agg (bU f)
theorem bV {α : Type} {c : α → List AV} {l : List α} {i : Nat} {a : α} (h : l[i]? = some a) : (l.map c)[i]? = some (c a) := by simp [h]
theorem bQ (l : List (List Int)) : (b7 l).length = l.length := by simp [b7]
theorem fm {l : List (List Int)} {i : Nat} {z : List Int} (h : l[i]? = some z) : (b7 l)[i]? = some [.imm 1 (aU z)] := by simp [b7, h]
section
variable {P : Program} {tt : TT} {r : Option Nat} {Q : Exit → Act → World → Prop} {nt : Nat} {D : List Deferred} {fr : bw} {B : Bs} {L : AL} {l : List Oper} {fin : jh}
variable {k j : Nat} {s : Ak} {sk : lg} {acc : bw} {dd : Option Tmp} {op : Op} {ty t t' : TypeId} {pos : String} {af : Array Edge} {g : Option (Nat × Bool)} {x y c : Operand} {u : AV} {want b : Bool}
def cA (P : Program) (l : List Oper) (fr : bw) (fin : jh) (k : Nat) (s : Ak) (o : Oper) (sk : lg) (acc : bw) (L : AL) : Prop := l[k]? = some o → DA P l fr fin ((k, s) :: sk) acc L
theorem aC {o : Oper} (h : cA P l fr fin k s o sk acc L) (ho : l[k]? = some o := by rfl) : DA P l fr fin ((k, s) :: sk) acc L := h ho
def iK (o : Oper) (acc : bw) : Prop := match o.guard with
 | none => True
 | some (j, want) => nA acc j = .sc (.bool want)
theorem kJ {o : Oper} {R : AV → AL → Prop} (hg : iK o acc) (h : ∀ B, AO P o (ci l.toArray acc fr o.after.toList) B L R) : tR P l fr o acc L R := by
 unfold tR
 unfold iK at hg
 split
 ·exact h
 ·rename_i j want hq
  rw [hq] at hg
  exact .inl ⟨hg, h⟩
theorem eO {o : Oper} (hg : iK o acc) (h : ∀ B L, AO P o (ci l.toArray acc fr o.after.toList) B L (fun c L' => c = u ∧ L' = L)) (hn : DA P l fr fin sk ((k, u) :: acc) L) : cA P l fr fin k .v o sk acc L := by
 intro ho
 obtain ⟨pl, hpl⟩ := hn
 exact ⟨.val k u pl, .v, sk, o, rfl, ho, .inl ⟨rfl, fun L => kJ hg fun B => h B L⟩, hpl⟩
theorem we {o : Oper} (hg : iK o acc) (h : ∀ B, AO P o (ci l.toArray acc fr o.after.toList) B L (fun c L' => c = u ∧ L' = L)) (hn : DA P l fr fin sk ((k, u) :: acc) L) : cA P l fr fin k .l o sk acc L := by
 intro ho
 obtain ⟨pl, hpl⟩ := hn
 exact ⟨.val k u pl, .l, sk, o, rfl, ho, .inr (.inl ⟨rfl, kJ hg fun B => h B⟩), hpl⟩
theorem jo {o : Oper} {R : AV → AL → Prop} (hg : iK o acc) (h : ∀ B, AO P o (ci l.toArray acc fr o.after.toList) B L R) (hn : ∀ c L', R c L' → DA P l fr fin sk ((k, c) :: acc) L') : cA P l fr fin k .e o sk acc L := by
 intro ho
 have hn' : ∀ c L', ∃ pl, R c L' → df P l fr fin pl sk ((k, c) :: acc) L' := fun c L' => by
  by_cases hr : R c L'
  ·obtain ⟨pl, hpl⟩ := hn c L' hr
   exact ⟨pl, fun _ => hpl⟩
  ·exact ⟨.fin, fun h => absurd h hr⟩
 exact ⟨.eff k R fun c L' => Classical.choose (hn' c L'), .e, sk, o, .inl rfl, rfl, ho, kJ hg h, fun c L' hr => Classical.choose_spec (hn' c L') hr⟩
theorem AF {o : Oper} (hK : eH fin.gs L) (hg : iK o acc) (h : ∀ B L, eH fin.gs L → AO P o (ci l.toArray acc fr o.after.toList) B L (fun c L' => c = u ∧ L' = L)) (hn : DA P l fr fin sk ((k, u) :: acc) L) : cA P l fr fin k .k o sk acc L := by
 intro ho
 obtain ⟨pl, hpl⟩ := hn
 exact ⟨.val k u pl, .k, sk, o, rfl, ho, .inr (.inr ⟨rfl, hK, fun L hL => kJ hg fun B => h B L hL⟩), hpl⟩
theorem t7 {o : Oper} {R : AV → AL → Prop} (hX : ∀ c L', R c L' → eH fin.gs L → eH fin.gs L') (hg : iK o acc) (h : ∀ B, AO P o (ci l.toArray acc fr o.after.toList) B L R) (hn : ∀ c L', R c L' → DA P l fr fin sk ((k, c) :: acc) L') : cA P l fr fin k .f o sk acc L := by
 intro ho
 have hn' : ∀ c L', ∃ pl, R c L' → df P l fr fin pl sk ((k, c) :: acc) L' := fun c L' => by
  by_cases hr : R c L'
  ·obtain ⟨pl, hpl⟩ := hn c L' hr
   exact ⟨pl, fun _ => hpl⟩
  ·exact ⟨.fin, fun h => absurd h hr⟩
 exact ⟨.eff k R fun c L' => Classical.choose (hn' c L'), .f, sk, o, .inr (.inr ⟨rfl, hX⟩), rfl, ho, kJ hg h, fun c L' hr => Classical.choose_spec (hn' c L') hr⟩
theorem AE {o : Oper} {R : AV → AL → Prop} (hX : ∀ c L', R c L' → ∃ X, L' = X ++ L) (hg : iK o acc) (h : ∀ B, AO P o (ci l.toArray acc fr o.after.toList) B L R) (hn : ∀ c L', R c L' → DA P l fr fin sk ((k, c) :: acc) L') : cA P l fr fin k .a o sk acc L := by
 intro ho
 have hn' : ∀ c L', ∃ pl, R c L' → df P l fr fin pl sk ((k, c) :: acc) L' := fun c L' => by
  by_cases hr : R c L'
  ·obtain ⟨pl, hpl⟩ := hn c L' hr
   exact ⟨pl, fun _ => hpl⟩
  ·exact ⟨.fin, fun h => absurd h hr⟩
 exact ⟨.eff k R fun c L' => Classical.choose (hn' c L'), .a, sk, o, .inr (.inl ⟨rfl, hX⟩), rfl, ho, kJ hg h, fun c L' hr => Classical.choose_spec (hn' c L') hr⟩
theorem t8 {op : Op} (hj : nA acc j = .sc (.bool b)) (hb : (b == want) = false) (hn : DA P l fr fin sk ((k, .sc undef) :: acc) L) : cA P l fr fin k .v ⟨dd, op, ty, pos, af, some (j, want)⟩ sk acc L := by
 intro ho
 obtain ⟨pl, hpl⟩ := hn
 exact ⟨.val k (.sc undef) pl, .v, sk, _, rfl, ho, .inl ⟨rfl, fun L => .inr ⟨⟨_, hj, fun e => by injection e with e; subst e; simp at hb⟩, rfl, rfl⟩⟩, hpl⟩
theorem yU {o : Oper} {fr : bw} (h : Av P o fr u) : ∀ B L, AO P o fr B L (fun c L' => c = u ∧ L' = L) := fun _ _ => h.ao
theorem bh (ok : dg P tt) (h : DA P l fr fin sk ((k, u) :: acc) L) (hu : nm tt (ci l.toArray acc fr af.toList) op = some u := by rfl) (hg : iK ⟨dd, op, ty, pos, af, g⟩ acc := by first | trivial | rfl) : cA P l fr fin k .v ⟨dd, op, ty, pos, af, g⟩ sk acc L := eO hg (yU (jz ok hu)) h
theorem io {bop : BinOp} (h : cA P l fr fin k .v ⟨dd, .binOp bop t x y t', ty, pos, af, g⟩ sk acc L) : cA P l fr fin k .v ⟨dd, .binOp bop t x y t', ty, pos, af, g⟩ sk acc L := h
theorem lx {bop : BinOp} (h : DA P l fr fin sk ((k, u) :: acc) L) (ho : Av P ⟨dd, .binOp bop t x y t', ty, pos, af, g⟩ (ci l.toArray acc fr af.toList) u := by first | exact sR rfl rfl (by omega) | exact sX rfl rfl (by omega) | exact sW rfl rfl (by omega)) (hg : iK ⟨dd, .binOp bop t x y t', ty, pos, af, g⟩ acc := by first | trivial | rfl) : cA P l fr fin k .v ⟨dd, .binOp bop t x y t', ty, pos, af, g⟩ sk acc L := eO hg (yU ho) h
theorem cC (h : cA P l fr fin k .v ⟨dd, .indexAddr t x y, ty, pos, af, g⟩ sk acc L) : cA P l fr fin k .v ⟨dd, .indexAddr t x y, ty, pos, af, g⟩ sk acc L := h
theorem cZ (ok : dg P tt) {e sz by_ s : Nat} {ll : List (List AV)} {ik : IntKind} {i : Int} {es : List AV} (h : DA P l fr fin sk ((k, .iptr es) :: acc) L) (ht : iF tt t = some (e, sz, by_) := by rfl) (hx : aW (ci l.toArray acc fr af.toList) x = some u := by rfl) (hu : hY u = some (s, ll) := by rfl) (hs : Nat.beq s sz = true := by rfl) (hy : aW (ci l.toArray acc fr af.toList) y = some (.sc (.int ik i)) := by rfl) (h0 : 0 ≤ i := by omega) (hl : ll[i.toNat]? = some es := by first | assumption | (simp only [Int.toNat_natCast]; assumption)) (hg : iK ⟨dd, .indexAddr t x y, ty, pos, af, g⟩ acc := by first | trivial | rfl) : cA P l fr fin k .v ⟨dd, .indexAddr t x y, ty, pos, af, g⟩ sk acc L := eO hg (yU (sU (b8 ok ht).1 hx (cN hu) hs hy h0 hl)) h
theorem cK {f : FuncId} {args : Array Operand} {ts : Array TypeId} (h : cA P l fr fin k .v ⟨dd, .call ⟨.value (.func f), args, ts⟩, ty, pos, af, g⟩ sk acc L) : cA P l fr fin k .v ⟨dd, .call ⟨.value (.func f), args, ts⟩, ty, pos, af, g⟩ sk acc L := h
theorem da {f : FuncId} {args : Array Operand} {ts : Array TypeId} {cs ds : List AV} [bi P f] (h : DA P l fr fin sk ((k, u) :: acc) L) (hv : dz (ci l.toArray acc fr af.toList) args.toList = some cs := by rfl) (hi : kZ cs = some ds := by rfl) (hc : AD P f ds u := by infer_instance) (hg : iK ⟨dd, .call ⟨.value (.func f), args, ts⟩, ty, pos, af, g⟩ acc := by first | trivial | rfl) : cA P l fr fin k .v ⟨dd, .call ⟨.value (.func f), args, ts⟩, ty, pos, af, g⟩ sk acc L := eO hg (fun _ _ => vE hv (by rw [fR hi]; exact hc.det)) h
theorem bW (ok : dg P tt) (i : Nat) {b kk : Nat} {cs : List AV} {e : TypeId} (ht : C5 tt t = true) (hx : aW (ci l.toArray acc fr af.toList) x = some (.sc (.pointer (some ⟨b, kk, none⟩)))) (hL : L[i]? = some (b, .box cs e)) (hc : cs[kk]? = some u) (hg : iK ⟨dd, .load t x, ty, pos, af, g⟩ acc) (h : DA P l fr fin sk ((k, u) :: acc) L) : cA P l fr fin k .l ⟨dd, .load t x, ty, pos, af, g⟩ sk acc L := we hg (fun _ => oT i (cg ok ht) hx hL hc) h
theorem t5 (ok : dg P tt) (i : Nat) {b kk n : Nat} {cs : List AV} {e : TypeId} (ht : BE tt t = some n) (hx : aW (ci l.toArray acc fr af.toList) x = some (.sc (.pointer (some ⟨b, kk, none⟩)))) (hL : L[i]? = some (b, .box cs e)) (hc : Nat.ble (kk + n) cs.length = true) (hg : iK ⟨dd, .load t x, ty, pos, af, g⟩ acc) (h : DA P l fr fin sk ((k, .agg ((cs.drop kk).take n)) :: acc) L) : cA P l fr fin k .l ⟨dd, .load t x, ty, pos, af, g⟩ sk acc L := we hg (fun _ => q7 i (dB ok ht) hx hL hc) h
theorem uz {gs : KpL} {i b kk : Nat} {v : AV} (hi : gs[i]? = some (.cell (b, kk, v))) {L : AL} (h : eH gs L) : ∃ (j : Nat) (cs : List AV) (e : TypeId), L[j]? = some (b, .box cs e) ∧ cs[kk]? = some v := by
 obtain ⟨cs, e, h1, h2⟩ := h _ (Dw hi)
 obtain ⟨j, hj⟩ := List.mem_iff_getElem?.1 h1
 exact ⟨j, cs, e, hj, h2⟩
theorem t6 (ok : dg P tt) (i : Nat) {b kk : Nat} (ht : C5 tt t = true) (hx : aW (ci l.toArray acc fr af.toList) x = some (.sc (.pointer (some ⟨b, kk, none⟩)))) (hi : fin.gs[i]? = some (.cell (b, kk, u))) (hK : eH fin.gs L) (hg : iK ⟨dd, .load t x, ty, pos, af, g⟩ acc) (h : DA P l fr fin sk ((k, u) :: acc) L) : cA P l fr fin k .k ⟨dd, .load t x, ty, pos, af, g⟩ sk acc L :=
 AF hK hg (fun _ L' hL' => by
  obtain ⟨j, cs, e, h1, h2⟩ := uz hi hL'
  exact oT j (cg ok ht) hx h1 h2) h
theorem sY {d : Option Tmp} {e sz by_ n : Nat} {parts : Array (Nat × Operand)} {vs : List AV} {xs : List (List AV)} (hc : j9 P t e sz by_) (hsz : 0 < sz) (hv : dz fr (parts.toList.map (·.2)) = some vs) (hxs : gD vs = some xs) (hn : Nat.beq xs.length n = true) (hi : parts.toList.map (·.1) = List.range' 0 n) (hz : xs.all (fun q => Nat.beq q.length sz) = true) (h24 : Nat.ble (n * sz) 16777216 = true) :
  AO P ⟨d, .buildSlice t n parts, ty, pos, af, g⟩ fr B L (fun c L' => c = .imm sz xs ∧ L' = L) := by
 intro σ ρ w hρ hw
 refine (vG hc hsz hv hxs hn hi hz h24 σ ρ w hρ hw).mono fun v w' hh => ?_
 obtain ⟨τ, c, L', h1, h2, h3, b, rfl, rfl⟩ := hh
 exact ⟨τ, _, L, h1, h2.im, h3.sublist (.cons _ (List.Sublist.refl _)), rfl, rfl⟩
theorem ly (ok : dg P tt) {e sz by_ n : Nat} {parts : Array (Nat × Operand)} {vs : List AV} {xs : List (List AV)} (h : DA P l fr fin sk ((k, .imm sz xs) :: acc) L) (ht : iF tt t = some (e, sz, by_) := by rfl) (hv : dz (ci l.toArray acc fr af.toList) (parts.toList.map (·.2)) = some vs := by rfl) (hxs : gD vs = some xs := by rfl) (hn : Nat.beq xs.length n = true := by rfl) (hi : parts.toList.map (·.1) = List.range' 0 n := by rfl) (hz : xs.all (fun q => Nat.beq q.length sz) = true := by rfl) (h24 : Nat.ble (n * sz) 16777216 = true := by rfl) (hg : iK ⟨dd, .buildSlice t n parts, ty, pos, af, g⟩ acc := by first | trivial | rfl) :
  cA P l fr fin k .v ⟨dd, .buildSlice t n parts, ty, pos, af, g⟩ sk acc L := eO hg (fun _ _ => sY (b8 ok ht).1 (b8 ok ht).2 hv hxs hn hi hz h24) h
theorem cj (ok : dg P tt) {r : Option Nat} {ops : Array Oper} {Q : Exit → Act → World → Prop} {nt : Nat} {D : List Deferred} {rest : List Oper} {d e sz by_ n : Nat} {parts : Array (Nat × Operand)} {vs : List AV} {xs : List (List AV)} (h : bf P r ops Q nt D rest ((d, .imm sz xs) :: fr) B L) (ht : iF tt t = some (e, sz, by_) := by rfl) (hv : dz fr (parts.toList.map (·.2)) = some vs := by rfl) (hxs : gD vs = some xs := by rfl) (hn : Nat.beq xs.length n = true := by rfl) (hi : parts.toList.map (·.1) = List.range' 0 n := by rfl) (hz : xs.all (fun q => Nat.beq q.length sz) = true := by rfl) (h24 : Nat.ble (n * sz) 16777216 = true := by rfl) (hd : Nat.ble nt d = false := by rfl) :
  bf P r ops Q nt D (⟨some d, .buildSlice t n parts, ty, pos, af, none⟩ :: rest) fr B L := by
 obtain ⟨h1, h2⟩ := b8 ok ht
 refine c6 hd rfl (sY h1 h2 hv hxs hn hi hz h24) fun c L' hh => ?_
 obtain ⟨h1, h2⟩ := hh
 subst h1; subst h2
 exact h
theorem bv {gs : KpL} {n0 : Nat} {fr0 : bw} {rest : List Oper} (ks : List Nat) (hk : fu (fW l.toArray acc fr n0) ks = some fr0) (hr : l.drop n0 = rest) (h : bf P r l.toArray Q nt D rest fr0 B L) : DA P l fr ⟨yH P r l n0 Q nt D fr B none, gs⟩ [] acc L :=
 ⟨.fin, rfl, by rw [← hr] at h; exact vN (d5 ks hk) (fun _ _ h => h) h⟩
end
end Go.Proofs.YtpmdfoaadejmkaaGreatDoor
namespace Go.Proofs.YtpmdfoaadejmkaaGreatDoor
open Go.RowKit
attribute [local irreducible] AT bf AX AO Av Kt aZ df DA cA
structure aF where
 Glyph : Int
 Cluster : Int
 Form : Int
 Advance : Int
 X : Int
 Y : Int
def bM (x : aF) : List AV := [az x.Glyph, az x.Cluster, az x.Form, az x.Advance, az x.X, az x.Y]
def zO (ms : List Bool) (g : Int) : Bool := decide (0 ≤ g) && ms.getD g.toNat false
def lP (ms : List Bool) (ig : Bool) (x : aF) : Bool := !(ig && zO ms x.Glyph)
def gS (ms : List Bool) (ig : Bool) (run : List aF) (i : Nat) : Bool := match run[i]? with
 | some x => lP ms ig x
 | none => false
def dh (ms : List Bool) (ig : Bool) (run : List aF) (i : Nat) : List Nat := (List.range' i (run.length - i)).filter (gS ms ig run)
def jJ (ms : List Bool) (ig : Bool) (run : List aF) : Nat → List Nat
 | 0 => []
 | i + 1 => if gS ms ig run i = true then i :: jJ ms ig run i else jJ ms ig run i
def ep (run : List aF) (i : Nat) : Int := match run[i]? with
 | some x => x.Glyph
 | none => -1
def dy : List (List Int) → List Int → Bool
 | [], _ => true
 | _ :: _, [] => false
 | s :: ss, g :: gs => s.contains g && dy ss gs
def dP (ms : List Bool) (ig : Bool) (run : List aF) (i : Nat) (r : aT) : Bool :=
 !r.In.isEmpty && (dy (r.In ++ r.Ahead) ((dh ms ig run i).map (ep run)) && dy r.Back ((jJ ms ig run i).map (ep run)))
def jl (ms : List Bool) (ig : Bool) (run : List aF) (i : Nat) (forms : List Int) : Bool := match run[i]? with
 | some x => lP ms ig x && (forms.isEmpty || forms.contains x.Form)
 | none => false
def dp (ms : List Bool) (l : aQ) (run : List aF) (i : Nat) (forms : List Int) : Option aT := if jl ms l.Ignore run i forms = true then l.Rules.find? (dP ms l.Ignore run i) else none
def cM (ms : List Bool) (l : aQ) (run : List aF) (i : Nat) (r : aT) : List Nat := (dh ms l.Ignore run i).take r.In.length
def ey (r : aT) (i : Nat) (run : List aF) : List aF := match run[i]? with
 | none => run
 | some x => match r.Out[(r.In.headD []).idxOf x.Glyph]? with
  | none => run
  | some g => if (r.In.headD []).idxOf x.Glyph < (r.In.headD []).length then run.set i { x with Glyph := g } else run
def fF (r : aT) (i : Nat) (run : List aF) : List aF := match run[i]? with
 | none => run
 | some x => if run.length - 1 + r.Out.length > 500 ∧ 1 < r.Out.length then run else run.take i ++ (r.Out.map fun g => { x with Glyph := g }) ++ run.drop (i + 1)
def dK : List Nat → List aF → List aF
 | [], run => run
 | p :: ps, run => (dK ps run).eraseIdx p
def l4 (run : List aF) (c : Int) (p : Nat) : Int := match run[p]? with
 | some x => min c x.Cluster
 | none => c
def f6 (run : List aF) (ps : List Nat) (c : Int) : Int := ps.foldl (l4 run) c
def k6 (r : aT) (ps : List Nat) (run : List aF) : List aF := match ps, r.Out with
 | p :: q, g :: _ => match run[p]? with
  | some x => dK q (run.set p { x with Glyph := g, Cluster := f6 run (p :: q) x.Cluster })
  | none => run
 | _, _ => run
def ow (r : aT) (i : Nat) (run : List aF) : List aF := match run[i]? with
 | some x => run.set i { x with Advance := IntKind.i64.wrap (x.Advance + r.X) }
 | none => run
def pt (ms : List Bool) (ig : Bool) (run : List aF) (i : Nat) (n : Int) : Option Nat := if 0 ≤ n then (dh ms ig run i)[n.toNat]? else none
def eJ (l : aQ) (r : aT) (ps : List Nat) (run : List aF) : List aF :=
 if l.Kind = 1 ∨ l.Kind = 5 then ey r (ps.headD 0) run
 else if l.Kind = 2 then fF r (ps.headD 0) run
 else if l.Kind = 3 then k6 r ps run
 else if l.Kind = 6 then ow r (ps.headD 0) run
 else run
abbrev Cb := aQ → aT → List Nat → List aF → List aF
def jN (ms : List Bool) (ls : List aQ) (d : Cb) (n : Int) (i : Nat) (run : List aF) : List aF :=
 if n < 0 then run else match ls[n.toNat]? with
 | none => run
 | some l => if l.Kind < 1 ∨ 4 < l.Kind then run else match dp ms l run i [] with
  | none => run
  | some r => d l r (cM ms l run i r) run
def dT (ms : List Bool) (ls : List aQ) (d : Cb) (ig : Bool) (i : Nat) (run : List aF) (c : i6) : List aF := match pt ms ig run i c.At with
 | none => run
 | some p => jN ms ls d c.Lookup p run
def gw (ms : List Bool) (ls : List aQ) : Nat → Cb
 | 0 => fun l r ps run => eJ l r ps run
 | k + 1 => fun l r ps run => if l.Kind = 4 then r.Calls.foldl (dT ms ls (gw ms ls k) l.Ignore (ps.headD 0)) run else eJ l r ps run
def tx (l : aQ) (i last : Nat) (run run' : List aF) : Nat :=
 if l.Kind = 4 then max (run'.length - (run.length - 1 - last)) (i + 1)
 else if l.Kind = 6 ∧ i < last then last
 else run'.length - (run.length - 1 - last)
def tA (ms : List Bool) (ls : List aQ) (l : aQ) (forms : List Int) : Nat → Nat → List aF → List aF
 | 0, _, run => run
 | k + 1, i, run => if i < run.length then match dp ms l run i forms with
   | none => tA ms ls l forms k (i + 1) run
   | some r => tA ms ls l forms k (tx l i ((cM ms l run i r).getLastD i) run (gw ms ls 4 l r (cM ms l run i r) run)) (gw ms ls 4 l r (cM ms l run i r) run)
  else run
def gZ (ms : List Bool) (ls : List aQ) (l : aQ) (forms : List Int) : Nat → List aF → List aF
 | 0, run => run
 | i + 1, run => gZ ms ls l forms i (match dp ms l run i forms with
  | none => run
  | some r => gw ms ls 4 l r (cM ms l run i r) run)
def cT (ms : List Bool) (ls : List aQ) (n : Int) (run : List aF) (forms : List Int) : List aF :=
 if n < 0 then run else match ls[n.toNat]? with
 | none => run
 | some l => if l.Kind < 1 ∨ 6 < l.Kind then run else if l.Kind = 5 then gZ ms ls l forms run.length run else tA ms ls l forms run.length 0 run
def bF (p : Nat → Bool) : Nat → Nat
 | 0 => 0
 | n + 1 => bF p n ||| (if p n = true then 2 ^ n else 0)
theorem bC (p : Nat → Bool) (i : Nat) : ∀ n, (bF p n).testBit i = (decide (i < n) && p i)
 | 0 => by simp [bF]
 | n + 1 => by
  rw [bF, Nat.testBit_or, bC p i n]
  by_cases hi : i = n
  ·subst hi
   cases hp : p i <;> simp [Nat.testBit_two_pow_self]
  ·have h1 : decide (i < n + 1) = decide (i < n) := decide_eq_decide.2 (by omega)
   have h2 : (if p n = true then 2 ^ n else 0).testBit i = false := by
    split
    ·rw [Nat.testBit_two_pow_of_ne (by omega)]
    ·simp
   rw [h1, h2, Bool.or_false]
theorem jK (p : Nat → Bool) (n : Nat) : bF p n < 2 ^ n := Nat.lt_pow_two_of_testBit _ fun i hi => by
 rw [bC, decide_eq_false (by omega), Bool.false_and]
theorem eW {x y : Nat} (h : ∀ i, x.testBit i = y.testBit i) : x = y := Nat.eq_of_testBit_eq h
theorem mv {p : Nat → Bool} {n : Nat} : bF p n = 0 ↔ ∀ i, i < n → p i = false := by
 constructor
 ·intro h i hi
  have := bC p i n
  rw [h, Nat.zero_testBit, decide_eq_true hi, Bool.true_and] at this
  exact this.symm
 ·intro h
  refine eW fun i => ?_
  rw [bC, Nat.zero_testBit]
  by_cases hi : i < n
  ·rw [h i hi, Bool.and_false]
  ·rw [decide_eq_false hi, Bool.false_and]
section
variable (cls : List Int) (rows : List (List (List Int))) (have_ : Nat → Bool)
def dI (c : Nat) (s : List Int) : Bool := s.any fun g => decide (0 ≤ g) && (decide (g < cls.length) && decide (cls.getD g.toNat (-1) = (c : Int)))
def jc (m c : Nat) (n : Nat) : Bool := match rows[n]? with
 | some r => match r[m]? with
  | some s => dI cls c s
  | none => false
 | none => false
def gb (m : Nat) (n : Nat) : Bool := match rows[n]? with
 | some r => decide (r.length = m)
 | none => false
def gj (m c : Nat) : Nat := bF (jc cls rows m c) rows.length
def ta (m : Nat) : Nat := bF (gb rows m) rows.length
def jq : Nat × Nat := (0, bF have_ rows.length)
def bq (p : Nat × Nat) (c : Nat) : Nat × Nat := if p.2 &&& gj cls rows p.1 c = 0 then (0, 0) else (p.1 + 1, p.2 &&& gj cls rows p.1 c)
def gc (p : Nat × Nat) : Nat := if p.2 = 0 then 0 else p.2 &&& ta rows p.1
structure nQ (C : Nat) (tab : List (List Int)) (ends : List Nat) : Prop where
 met : ∃ met : List (Nat × Nat), met[0]? = some (jq rows have_) ∧ met.length = tab.length ∧ met.length = ends.length ∧
  (∀ (i : Nat) p, met[i]? = some p → ends[i]? = some (gc rows p)) ∧
  (∀ (i : Nat) p q, met[i]? = some p → tab[i]? = some q → q.length = C ∧ ∀ (c : Nat) z, q[c]? = some z → ((bq cls rows p c).2 = 0 ∧ z = -1) ∨ ((bq cls rows p c).2 ≠ 0 ∧ 0 ≤ z ∧ met[z.toNat]? = some (bq cls rows p c)))
end
def fb (cls : List Int) (tab : List (List Int)) (s : Int) (g : Int) : Int :=
 if s < 0 ∨ g < 0 then -1 else match tab[s.toNat]?, cls[g.toNat]? with
 | some dl, some c => if c < 0 then -1 else match dl[c.toNat]? with
  | some z => if 0 ≤ z ∧ z < tab.length then z else -1
  | none => -1
 | _, _ => -1
def fQ (ends : List Nat) (s : Int) : Nat := if s < 0 then 0 else ends.getD s.toNat 0
def je (cls : List Int) (tab : List (List Int)) (ends : List Nat) : Int → List Int → Nat → Nat
 | _, [], told => told
 | s, g :: r, told => if fb cls tab s g = -1 then told else je cls tab ends (fb cls tab s g) r (told ||| fQ ends (fb cls tab s g))
def ec (cls : List Int) (tab : List (List Int)) (ends : List Nat) (gl : List Int) : Nat := je cls tab ends 0 gl (fQ ends 0)
structure pT (n : Nat) (C : Nat) (cls : List Int) (sets : List (List Int)) : Prop where
 len : cls.length = n
 dom : ∀ z ∈ cls, 0 ≤ z ∧ z < C
 apart : ∀ s ∈ sets, ∀ (i j : Nat) z, cls[i]? = some z → cls[j]? = some z → ((i : Int) ∈ s ↔ (j : Int) ∈ s)
theorem qO {cls : List Int} {n C : Nat} {sets : List (List Int)} (h : pT n C cls sets) {s : List Int} (hs : s ∈ sets) (hd : ∀ g ∈ s, 0 ≤ g ∧ g < n) {g : Int} (h0 : 0 ≤ g) {c : Nat} (hc : cls[g.toNat]? = some (c : Int)) : dI cls c s = s.contains g := by
 rw [Bool.eq_iff_iff, List.contains_iff_mem]
 unfold dI
 rw [List.any_eq_true]
 constructor
 ·rintro ⟨x, hx, hb⟩
  simp only [Bool.and_eq_true, decide_eq_true_eq] at hb
  obtain ⟨h1, h2, h3⟩ := hb
  have hxc : cls[x.toNat]? = some (c : Int) := by
   rw [Bj (by omega)]
   rw [List.getD_eq_getElem?_getD, Bj (by omega)] at h3
   exact congrArg some h3
  have := (h.apart s hs x.toNat g.toNat c hxc hc).1 (by rw [Int.toNat_of_nonneg h1]; exact hx)
  rwa [Int.toNat_of_nonneg h0] at this
 ·intro hg
  refine ⟨g, hg, ?_⟩
  have hl := h.len
  have := hd g hg
  simp only [Bool.and_eq_true, decide_eq_true_eq]
  refine ⟨h0, by omega, ?_⟩
  rw [List.getD_eq_getElem?_getD, hc]
  rfl
def k8 (rows : List (List (List Int))) (have_ : Nat → Bool) (gl : List Int) (n : Nat) : Bool := match rows[n]? with
 | some r => have_ n && (decide (gl.length ≤ r.length) && dy (r.take gl.length) gl)
 | none => false
theorem kR : ∀ {ss : List (List Int)} {gl : List Int} {s : List Int} {g : Int}, ss.length = gl.length → dy (ss ++ [s]) (gl ++ [g]) = (dy ss gl && s.contains g)
 | [], [], s, g, _ => by simp [dy]
 | [], _ :: _, _, _, h => by simp at h
 | _ :: _, [], _, _, h => by simp at h
 | s' :: ss, g' :: gl, s, g, h => by
  rw [Ds, Ds, dy, kR (by simpa using h), dy, Bool.and_assoc]
theorem gL : ∀ {a : List (List Int)} {b : List Int}, b.length < a.length → dy a b = false
 | [], _, h => by simp at h
 | _ :: _, [], _ => rfl
 | _ :: a, _ :: b, h => by rw [dy, gL (by simpa using h), Bool.and_false]
theorem iT : ∀ {ss : List (List Int)} {gl x : List Int}, ss.length ≤ gl.length → dy ss (gl ++ x) = dy ss gl
 | [], _, _, _ => rfl
 | _ :: _, [], _, h => by simp at h
 | s :: ss, g :: gl, x, h => by rw [Ds, dy, dy, iT (by simpa using h)]
section
variable {cls : List Int} {rows : List (List (List Int))} {have_ : Nat → Bool} {N C : Nat} {sets : List (List Int)}
theorem wO (h : pT N C cls sets) (hs : ∀ r ∈ rows, ∀ s ∈ r, s ∈ sets ∧ ∀ g ∈ s, 0 ≤ g ∧ g < N) {gl : List Int} {g : Int} {c : Nat} (h0 : 0 ≤ g) (hc : cls[g.toNat]? = some (c : Int)) :
  bF (k8 rows have_ gl) rows.length &&& gj cls rows gl.length c = bF (k8 rows have_ (gl ++ [g])) rows.length := by
 refine eW fun n => ?_
 rw [Nat.testBit_and, bC, gj, bC, bC]
 by_cases hn : n < rows.length
 ·simp only [decide_eq_true hn, Bool.true_and]
  unfold k8 jc
  rw [Bj hn]
  dsimp only
  have hm := List.getElem_mem hn
  generalize rows[n] = r at hm
  rw [List.length_append, List.length_singleton]
  by_cases hl : gl.length < r.length
  ·have hs' := hs r hm r[gl.length] (List.getElem_mem hl)
   rw [Bj hl, decide_eq_true (by omega : gl.length ≤ r.length), decide_eq_true (by omega : gl.length + 1 ≤ r.length), List.take_add_one, Bj hl]
   dsimp only [Option.toList]
   rw [kR (by rw [List.length_take]; omega), qO h hs'.1 hs'.2 h0 hc]
   cases have_ n <;> simp
  ·rw [List.getElem?_eq_none (by omega), decide_eq_false (by omega : ¬ gl.length + 1 ≤ r.length)]
   simp
 ·simp [decide_eq_false hn]
def dm (rows : List (List (List Int))) (have_ : Nat → Bool) (gl : List Int) (n : Nat) : Bool := match rows[n]? with
 | some r => have_ n && dy r gl
 | none => false
theorem lM {tab : List (List Int)} {ends : List Nat} (h : pT N C cls sets) (hs : ∀ r ∈ rows, ∀ s ∈ r, s ∈ sets ∧ ∀ g ∈ s, 0 ≤ g ∧ g < N) (ht : nQ cls rows have_ C tab ends) (hC : ∀ z ∈ cls, z.toNat < C) :
  ∀ (gl : List Int), ec cls tab ends gl = bF (dm rows have_ gl) rows.length := by
 obtain ⟨met, h0, hl, hle, he, hn⟩ := ht.met
 have hmt := hl
 have key : ∀ (r gl : List Int) (s : Nat) (told : Nat) (p : Nat × Nat), met[s]? = some p → p.1 = gl.length → p.2 = bF (k8 rows have_ gl) rows.length → told = bF (dm rows have_ gl) rows.length →
   (gl = [] ∨ p.2 ≠ 0) → je cls tab ends s r told = bF (dm rows have_ (gl ++ r)) rows.length := by
  intro r
  induction r with
  | nil => intro gl s told p _ _ _ ht _; rw [je, List.append_nil]; exact ht
  | cons g r ih =>
   intro gl s told p hp hp1 hp2 htold hne
   have hsl : s < met.length := (Dp hp).1
   obtain ⟨q, hq⟩ : ∃ q, tab[s]? = some q := ⟨_, Bj (by omega)⟩
   obtain ⟨hqC, hqn⟩ := hn s p q hp hq
   have stop : (∀ n, k8 rows have_ (gl ++ [g]) n = false) → bF (dm rows have_ gl) rows.length = bF (dm rows have_ (gl ++ g :: r)) rows.length := by
    intro hz
    refine eW fun n => ?_
    rw [bC, bC]
    congr 1
    have hzn := hz n
    unfold k8 at hzn
    unfold dm
    cases hr : rows[n]? with
    | none => rfl
    | some dl =>
     rw [hr] at hzn
     dsimp only at hzn ⊢
     by_cases hh : have_ n = true
     ·rw [hh, Bool.true_and] at hzn ⊢
      rw [Bool.true_and]
      by_cases hrl : dl.length ≤ gl.length
      ·rw [iT hrl]
      ·rw [List.length_append, List.length_singleton, decide_eq_true (by omega), Bool.true_and, List.take_add_one, Bj (by omega)] at hzn
       dsimp only [Option.toList] at hzn
       have e1 : dy dl gl = false := by
        rw [Bool.eq_false_iff]
        intro hf
        rw [gL (by omega)] at hf
        cases hf
       have e2 : dy dl (gl ++ g :: r) = false := by
        have e3 : dl = (dl.take gl.length ++ [dl[gl.length]]) ++ dl.drop (gl.length + 1) := by
         rw [List.append_assoc, List.singleton_append, List.getElem_cons_drop, List.take_append_drop]
        have e4 : ∀ {a b : List (List Int)} {x : List Int}, dy (a ++ b) x = true → dy a x = true := by
         intro a
         induction a with
         | nil => intro b x _; rfl
         | cons y a iha =>
          intro b x hx
          cases x with
          | nil => cases hx
          | cons w x =>
           rw [Ds, dy, Bool.and_eq_true] at hx
           rw [dy, Bool.and_eq_true]
           exact ⟨hx.1, iha hx.2⟩
        rw [Bool.eq_false_iff]
        intro hf
        rw [e3] at hf
        have := e4 hf
        rw [show gl ++ g :: r = (gl ++ [g]) ++ r by simp, iT (by simp; omega)] at this
        rw [this] at hzn
        cases hzn
       rw [e1, e2]
     ·simp [hh]
   rw [je]
   by_cases hg : 0 ≤ g ∧ g.toNat < cls.length
   ·obtain ⟨hg0, hgl⟩ := hg
    obtain ⟨z, hz⟩ : ∃ z, cls[g.toNat]? = some z := ⟨_, Bj hgl⟩
    have hzm := Dw hz
    have hzd := h.dom z hzm
    obtain ⟨c, rfl⟩ := Int.eq_ofNat_of_zero_le hzd.1
    have hcC : c < C := by omega
    obtain ⟨t, htc⟩ : ∃ t, q[c]? = some t := ⟨_, Bj (by omega)⟩
    have hstep := wO (have_ := have_) (gl := gl) h hs hg0 hz
    have hnx : fb cls tab s g = if 0 ≤ t ∧ t < tab.length then t else -1 := by
     unfold fb
     rw [if_neg (by omega), Int.toNat_natCast, hq, hz]
     dsimp only
     rw [if_neg (by omega), Int.toNat_natCast, htc]
    have hbe : bq cls rows p c = if bF (k8 rows have_ (gl ++ [g])) rows.length = 0 then (0, 0) else (gl.length + 1, bF (k8 rows have_ (gl ++ [g])) rows.length) := by
     unfold bq
     rw [hp1, hp2, hstep]
    rcases hqn c t htc with ⟨h1, h2⟩ | ⟨h1, h2, h3⟩
    ·subst h2
     have hno : ¬ ((0 : Int) ≤ -1 ∧ (-1 : Int) < tab.length) := fun e => absurd e.1 (by decide)
     rw [hnx, if_neg hno, if_pos rfl, htold]
     refine stop fun n => ?_
     rw [hbe] at h1
     have hzero : bF (k8 rows have_ (gl ++ [g])) rows.length = 0 := by
      split at h1
      ·assumption
      ·exact h1
     by_cases hnl : n < rows.length
     ·exact mv.1 hzero n hnl
     ·unfold k8; rw [List.getElem?_eq_none (by omega)]
    ·have htl : t.toNat < tab.length := by
      have := (Dp h3).1
      omega
     have htz : ¬ t = -1 := by omega
     have hin : (0 : Int) ≤ t ∧ t < tab.length := ⟨h2, by omega⟩
     rw [if_pos hin] at hnx
     rw [hnx, if_neg htz]
     rw [hbe] at h1 h3
     have hnz : ¬ bF (k8 rows have_ (gl ++ [g])) rows.length = 0 := by
      intro e
      rw [if_pos e] at h1
      exact h1 rfl
     rw [if_neg hnz] at h3
     have := ih (gl ++ [g]) t.toNat (told ||| fQ ends t) _ h3 (by simp) rfl ?_ (.inr hnz)
     ·rw [Int.toNat_of_nonneg h2] at this
      rw [this]
      simp
     ·
      have hen := he _ _ h3
      unfold fQ
      rw [if_neg (by omega), List.getD_eq_getElem?_getD, hen, htold]
      dsimp only [Option.getD]
      unfold gc
      rw [if_neg hnz]
      refine eW fun n => ?_
      rw [Nat.testBit_or, Nat.testBit_and, ta, bC, bC, bC, bC]
      by_cases hnl : n < rows.length
      ·simp only [decide_eq_true hnl, Bool.true_and]
       unfold dm k8 gb
       rw [Bj hnl]
       dsimp only
       generalize rows[n] = dl
       cases have_ n
       ·simp
       ·simp only [Bool.true_and, List.length_append, List.length_singleton]
        by_cases hrl : dl.length ≤ gl.length
        ·rw [iT hrl, decide_eq_false (by omega : ¬ dl.length = gl.length + 1), Bool.and_false, Bool.or_false]
        ·have e1 : dy dl gl = false := gL (by omega)
         rw [e1, Bool.false_or]
         by_cases hre : dl.length = gl.length + 1
         ·rw [decide_eq_true hre, Bool.and_true, decide_eq_true (by omega), Bool.true_and, List.take_of_length_le (by omega)]
         ·rw [decide_eq_false hre, Bool.and_false]
          exact (gL (by simp; omega)).symm
      ·simp [decide_eq_false hnl]
   ·have hnx : fb cls tab s g = -1 := by
     unfold fb
     by_cases hg0 : g < 0
     ·rw [if_pos (.inr hg0)]
     ·rw [if_neg (by omega), Int.toNat_natCast, hq, List.getElem?_eq_none (by omega)]
    rw [hnx, if_pos rfl, htold]
    refine stop fun n => ?_
    unfold k8
    cases hr : rows[n]? with
    | none => rfl
    | some dl =>
     dsimp only
     by_cases hrl : gl.length + 1 ≤ dl.length
     ·have hs' := hs dl (Dw hr) dl[gl.length] (List.getElem_mem (by omega))
      have hng : dl[gl.length].contains g = false := by
       rw [Bool.eq_false_iff]
       intro hm
       rw [List.contains_iff_mem] at hm
       have := hs'.2 g hm
       have hl := h.len
       omega
      rw [List.length_append, List.length_singleton, List.take_add_one, Bj (by omega)]
      dsimp only [Option.toList]
      rw [kR (by rw [List.length_take]; omega), hng]
      simp
     ·rw [List.length_append, List.length_singleton, decide_eq_false hrl]
      simp
 intro gl
 have h00 := key gl [] 0 (fQ ends 0) _ h0 rfl ?_ ?_ (.inl rfl)
 ·rw [Dr] at h00
  exact h00
 ·refine eW fun n => ?_
  unfold jq
  rw [bC, bC]
  by_cases hnl : n < rows.length
  ·simp only [decide_eq_true hnl, Bool.true_and]
   unfold k8
   rw [Bj hnl]
   simp [dy]
  ·simp [decide_eq_false hnl]
 ·have hen := he _ _ h0
  unfold fQ
  rw [if_neg (by omega), List.getD_eq_getElem?_getD]
  rw [show (0 : Int).toNat = 0 from rfl, hen]
  dsimp only [Option.getD]
  refine eW fun n => ?_
  have hb : (gc rows (jq rows have_)) = bF have_ rows.length &&& ta rows 0 := by
   unfold gc jq
   dsimp only
   split
   ·rename_i e
    rw [e, Nat.zero_and]
   ·rfl
  rw [hb, Nat.testBit_and, ta, bC, bC, bC]
  by_cases hnl : n < rows.length
  ·simp only [decide_eq_true hnl, Bool.true_and]
   unfold dm gb
   rw [Bj hnl]
   dsimp only
   generalize rows[n] = dl
   cases dl with
   | nil => simp [dy]
   | cons s dl => simp [dy]
  ·simp [decide_eq_false hnl]
end
end Go.Proofs.YtpmdfoaadejmkaaGreatDoor
namespace Go.Proofs.YtpmdfoaadejmkaaGreatDoor
open Go.RowKit
attribute [local irreducible] AT bf AX AO Av Kt aZ df DA cA
theorem kS : ∀ {ss : List (List Int)} {gl : List Int} {k : Nat}, ss.length ≤ k → dy ss (gl.take k) = dy ss gl
 | [], _, _, _ => rfl
 | _ :: _, [], k, _ => by rw [List.take_nil]
 | _ :: ss, _ :: gl, 0, h => by simp at h
 | s :: ss, g :: gl, k + 1, h => by rw [List.take_succ_cons, dy, dy, kS (by simpa using h)]
theorem wk {α : Type} {q : α → Bool} {l : List α} : l.find? q = (l.findIdx? q).bind fun i => l[i]? := by
  cases h : l.findIdx? q with
  | none => rw [List.find?_eq_none.2]; · rfl
            intro x hx
            rw [List.findIdx?_eq_none_iff] at h
            rw [h x hx]; decide
  | some i =>
    obtain ⟨hi, h1, h2⟩ := List.findIdx?_eq_some_iff_getElem.1 h
    rw [Option.bind_some, Bj hi, List.find?_eq_some_iff_getElem]
    exact ⟨h1, i, hi, rfl, fun j hj => by simpa using h2 j hj⟩
theorem sd {α : Type} {q : α → Bool} {l : List α} {b : Nat} (hb : ∀ n, b.testBit n = (l[n]?).any q) :
  (∀ i, l.findIdx? q = some i → b.testBit i = true ∧ ∀ j, j < i → b.testBit j = false) ∧ (l.findIdx? q = none → b = 0) := by
 constructor
 ·intro i h
  obtain ⟨hi, h1, h2⟩ := List.findIdx?_eq_some_iff_getElem.1 h
  refine ⟨by rw [hb, Bj hi]; exact h1, fun j hj => ?_⟩
  rw [hb, Bj (by omega)]
  simpa using h2 j hj
 ·intro h
  refine eW fun n => ?_
  rw [hb, Nat.zero_testBit]
  cases hn : l[n]? with
  | none => rfl
  | some x => exact List.findIdx?_eq_none_iff.1 h x (Dw hn)
def cL (r : aT) : List (List Int) := if r.In.isEmpty then [] else r.In ++ r.Ahead
def od (rs : List aT) (n : Nat) : Bool := match rs[n]? with
 | some r => !r.In.isEmpty
 | none => false
theorem u6 {rs : List aT} {fg bg : List Int} {n : Nat} : (bF (dm (rs.map aT.Back) (fun _ => true) bg) (rs.map aT.Back).length &&& bF (dm (rs.map cL) (od rs) fg) (rs.map cL).length).testBit n = (rs[n]?).any fun r => !r.In.isEmpty && (dy (r.In ++ r.Ahead) fg && dy r.Back bg) := by
 rw [Nat.testBit_and, bC, bC]
 simp only [Du]
 unfold dm od
 simp only [List.getElem?_map]
 cases h : rs[n]? with
 | none => simp
 | some r =>
  have hn := (Dp h).1
  simp only [Option.map_some, Option.any_some, decide_eq_true hn, Bool.true_and]
  unfold cL
  cases r.In.isEmpty <;> simp [Bool.and_comm]
def e9 (rs : List aT) : Nat := rs.foldl (fun m r => max m (r.In.length + r.Ahead.length)) 0
def fv (rs : List aT) : Nat := rs.foldl (fun m r => max m r.Back.length) 0
theorem jT {α : Type} {g : α → Nat} : ∀ {l : List α} {m : Nat}, m ≤ l.foldl (fun m r => max m (g r)) m ∧ ∀ r ∈ l, g r ≤ l.foldl (fun m r => max m (g r)) m
 | [], m => ⟨Nat.le_refl _, fun r h => by cases h⟩
 | x :: l, m => by
  have ih := jT (g := g) (l := l) (m := max m (g x))
  rw [List.foldl_cons]
  refine ⟨by have := ih.1; omega, fun r hr => ?_⟩
  rcases List.mem_cons.1 hr with rfl | hr
  ·have := ih.1; omega
  ·exact ih.2 r hr
theorem rV {ms : List Bool} {ig : Bool} {run : List aF} {i : Nat} {rs : List aT} {b : Nat}
  (hb : ∀ n, b.testBit n = (rs[n]?).any fun r => !r.In.isEmpty && (dy (r.In ++ r.Ahead) (((dh ms ig run i).take (e9 rs)).map (ep run)) && dy r.Back (((jJ ms ig run i).take (fv rs)).map (ep run)))) (n : Nat) : b.testBit n = (rs[n]?).any (dP ms ig run i) := by
 rw [hb]
 cases h : rs[n]? with
 | none => rfl
 | some r =>
  have hm := Dw h
  have h1 : (r.In ++ r.Ahead).length ≤ e9 rs := by rw [List.length_append]; exact (jT (g := fun r : aT => r.In.length + r.Ahead.length)).2 r hm
  have h2 : r.Back.length ≤ fv rs := (jT (g := fun r : aT => r.Back.length)).2 r hm
  rw [Option.any_some, Option.any_some]
  unfold dP
  rw [List.map_take, List.map_take, kS h1, kS h2]
end Go.Proofs.YtpmdfoaadejmkaaGreatDoor
