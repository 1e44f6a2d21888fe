/-
  Fonts as data, and as abstract values.
-/
import Derived.Test.YtpmdfoaadejmkaaGreatDoorM04
namespace Go.Proofs.YtpmdfoaadejmkaaGreatDoor
open Go.RowKit
abbrev az (z : Int) : AV := .sc (.int .i64 z)
abbrev vt (s : ByteArray) : AV := .sc (.string s)
abbrev dB (b : Bool) : AV := .sc (.bool b)
structure ie where
 X : Int
 Y : Int
 On : Bool
structure cT where
 Glyph : Int
 X : Int
 Y : Int
structure dw where
 Kind : Int
 Class : Int
 X : Int
 Y : Int
structure f6 where
 Region : Int
 Point : Int
 X : Int
 Y : Int
structure gB where
 Op : Int
 A : Int
structure b9 where
 Name : ByteArray
 Advance : Int
 Mark : Bool
 Points : List ie
 Ends : List Int
 Parts : List cT
 Anchors : List dw
 Deltas : List f6
 Hint : List gB
structure hP where
 Rune : Int
 Glyph : Int
structure ic where
 At : Int
 Lookup : Int
structure aU where
 Back : List (List Int)
 In : List (List Int)
 Ahead : List (List Int)
 Out : List Int
 Calls : List ic
 X : Int
structure aQ where
 Kind : Int
 Ignore : Bool
 Rules : List aU
structure bO where
 Name : ByteArray
 Lookups : List Int
structure ee where
 Name : ByteArray
 Min : Int
 Def : Int
 Max : Int
structure fw where
 Start : Int
 Peak : Int
 End : Int
structure aN where
 Unit : Int
 Glyphs : List b9
 Chars : List hP
 Lookups : List aQ
 Features : List bO
 Axes : List ee
 Regions : List (List fw)
 Funcs : List (List gB)
 Cvt : List Int
def b7 (l : List (List Int)) : List (List AV) := l.map fun q => [.imm 1 (aR q)]
def Da (l : List ByteArray) : List (List AV) := l.map fun s => [vt s]
def fA (p : ie) : List AV := [az p.X, az p.Y, dB p.On]
def f3 (p : cT) : List AV := [az p.Glyph, az p.X, az p.Y]
def dV (p : dw) : List AV := [az p.Kind, az p.Class, az p.X, az p.Y]
def f8 (p : f6) : List AV := [az p.Region, az p.Point, az p.X, az p.Y]
def ip (p : gB) : List AV := [az p.Op, az p.A]
def c9 (g : b9) : List AV := [vt g.Name, az g.Advance, dB g.Mark, .imm 3 (g.Points.map fA), .imm 1 (aR g.Ends), .imm 3 (g.Parts.map f3), .imm 4 (g.Anchors.map dV), .imm 4 (g.Deltas.map f8), .imm 2 (g.Hint.map ip)]
def fc (c : hP) : List AV := [az c.Rune, az c.Glyph]
def fb (c : ic) : List AV := [az c.At, az c.Lookup]
def bH (r : aU) : List AV := [.imm 1 (b7 r.Back), .imm 1 (b7 r.In), .imm 1 (b7 r.Ahead), .imm 1 (aR r.Out), .imm 2 (r.Calls.map fb), az r.X]
def bn (l : aQ) : List AV := [az l.Kind, dB l.Ignore, .imm 6 (l.Rules.map bH)]
def cf (t : bO) : List AV := [vt t.Name, .imm 1 (aR t.Lookups)]
def eu (a : ee) : List AV := [vt a.Name, az a.Min, az a.Def, az a.Max]
def qm (t : fw) : List AV := [az t.Start, az t.Peak, az t.End]
def da (r : List fw) : List AV := [.imm 3 (r.map qm)]
def jU (l : List gB) : List AV := [.imm 2 (l.map ip)]
def bU (f : aN) : List AV := [az f.Unit, .imm 9 (f.Glyphs.map c9), .imm 2 (f.Chars.map fc), .imm 3 (f.Lookups.map bn), .imm 2 (f.Features.map cf), .imm 4 (f.Axes.map eu), .imm 1 (f.Regions.map da), .imm 1 (f.Funcs.map jU), .imm 1 (aR f.Cvt)]
abbrev cA (f : aN) : AV := .agg (bU f)
theorem bW {α : Type} {c : α → List AV} {l : List α} {i : Nat} {a : α} (h : l[i]? = some a) : (l.map c)[i]? = some (c a) := by simp [h]
theorem bQ (l : List (List Int)) : (b7 l).length = l.length := by simp [b7]
theorem fv {l : List (List Int)} {i : Nat} {z : List Int} (h : l[i]? = some z) : (b7 l)[i]? = some [.imm 1 (aR z)] := by simp [b7, h]
section
variable {P : Program} {tt : TT} {r : Option Nat} {Q : Exit → Act → World → Prop} {nt : Nat} {D : List Deferred} {fr : bw} {B : Bs} {L : AL} {l : List Oper} {fin : jo}
variable {k j : Nat} {s : Ak} {sk : lw} {acc : bw} {dd : Option Tmp} {op : Op} {ty t t' : TypeId} {pos : String} {af : Array Edge} {g : Option (Nat × Bool)} {x y c : Operand} {u : AV} {want b : Bool}
def cE (P : Program) (l : List Oper) (fr : bw) (fin : jo) (k : Nat) (s : Ak) (o : Oper) (sk : lw) (acc : bw) (L : AL) : Prop := l[k]? = some o → DA P l fr fin ((k, s) :: sk) acc L
theorem aC {o : Oper} (h : cE P l fr fin k s o sk acc L) (ho : l[k]? = some o := by rfl) : DA P l fr fin ((k, s) :: sk) acc L := h ho
def iP (o : Oper) (acc : bw) : Prop := match o.guard with
 | none => True
 | some (j, want) => nI acc j = .sc (.bool want)
theorem kR {o : Oper} {R : AV → AL → Prop} (hg : iP o acc) (h : ∀ B, AO P o (cl l.toArray acc fr o.after.toList) B L R) : tT P l fr o acc L R := by
 unfold tT
 unfold iP at hg
 split
 ·exact h
 ·rename_i j want hq
  rw [hq] at hg
  exact .inl ⟨hg, h⟩
theorem eS {o : Oper} (hg : iP o acc) (h : ∀ B L, AO P o (cl l.toArray acc fr o.after.toList) B L (fun c L' => c = u ∧ L' = L)) (hn : DA P l fr fin sk ((k, u) :: acc) L) : cE P l fr fin k .v o sk acc L := by
 intro ho
 obtain ⟨pl, hpl⟩ := hn
 exact ⟨.val k u pl, .v, sk, o, rfl, ho, .inl ⟨rfl, fun L => kR hg fun B => h B L⟩, hpl⟩
theorem we {o : Oper} (hg : iP o acc) (h : ∀ B, AO P o (cl l.toArray acc fr o.after.toList) B L (fun c L' => c = u ∧ L' = L)) (hn : DA P l fr fin sk ((k, u) :: acc) L) : cE P l fr fin k .l o sk acc L := by
 intro ho
 obtain ⟨pl, hpl⟩ := hn
 exact ⟨.val k u pl, .l, sk, o, rfl, ho, .inr (.inl ⟨rfl, kR hg fun B => h B⟩), hpl⟩
theorem jv {o : Oper} {R : AV → AL → Prop} (hg : iP o acc) (h : ∀ B, AO P o (cl l.toArray acc fr o.after.toList) B L R) (hn : ∀ c L', R c L' → DA P l fr fin sk ((k, c) :: acc) L') : cE P l fr fin k .e o sk acc L := by
 intro ho
 have hn' : ∀ c L', ∃ pl, R c L' → dh P l fr fin pl sk ((k, c) :: acc) L' := fun c L' => by
  by_cases hr : R c L'
  ·obtain ⟨pl, hpl⟩ := hn c L' hr
   exact ⟨pl, fun _ => hpl⟩
  ·exact ⟨.fin, fun h => absurd h hr⟩
 exact ⟨.eff k R fun c L' => Classical.choose (hn' c L'), .e, sk, o, .inl rfl, rfl, ho, kR hg h, fun c L' hr => Classical.choose_spec (hn' c L') hr⟩
theorem Az {o : Oper} (hK : eM fin.gs L) (hg : iP o acc) (h : ∀ B L, eM fin.gs L → AO P o (cl l.toArray acc fr o.after.toList) B L (fun c L' => c = u ∧ L' = L)) (hn : DA P l fr fin sk ((k, u) :: acc) L) : cE P l fr fin k .k o sk acc L := by
 intro ho
 obtain ⟨pl, hpl⟩ := hn
 exact ⟨.val k u pl, .k, sk, o, rfl, ho, .inr (.inr ⟨rfl, hK, fun L hL => kR hg fun B => h B L hL⟩), hpl⟩
theorem t8 {o : Oper} {R : AV → AL → Prop} (hX : ∀ c L', R c L' → eM fin.gs L → eM fin.gs L') (hg : iP o acc) (h : ∀ B, AO P o (cl l.toArray acc fr o.after.toList) B L R) (hn : ∀ c L', R c L' → DA P l fr fin sk ((k, c) :: acc) L') : cE P l fr fin k .f o sk acc L := by
 intro ho
 have hn' : ∀ c L', ∃ pl, R c L' → dh P l fr fin pl sk ((k, c) :: acc) L' := fun c L' => by
  by_cases hr : R c L'
  ·obtain ⟨pl, hpl⟩ := hn c L' hr
   exact ⟨pl, fun _ => hpl⟩
  ·exact ⟨.fin, fun h => absurd h hr⟩
 exact ⟨.eff k R fun c L' => Classical.choose (hn' c L'), .f, sk, o, .inr (.inr ⟨rfl, hX⟩), rfl, ho, kR hg h, fun c L' hr => Classical.choose_spec (hn' c L') hr⟩
theorem Ay {o : Oper} {R : AV → AL → Prop} (hX : ∀ c L', R c L' → ∃ X, L' = X ++ L) (hg : iP o acc) (h : ∀ B, AO P o (cl l.toArray acc fr o.after.toList) B L R) (hn : ∀ c L', R c L' → DA P l fr fin sk ((k, c) :: acc) L') : cE P l fr fin k .a o sk acc L := by
 intro ho
 have hn' : ∀ c L', ∃ pl, R c L' → dh P l fr fin pl sk ((k, c) :: acc) L' := fun c L' => by
  by_cases hr : R c L'
  ·obtain ⟨pl, hpl⟩ := hn c L' hr
   exact ⟨pl, fun _ => hpl⟩
  ·exact ⟨.fin, fun h => absurd h hr⟩
 exact ⟨.eff k R fun c L' => Classical.choose (hn' c L'), .a, sk, o, .inr (.inl ⟨rfl, hX⟩), rfl, ho, kR hg h, fun c L' hr => Classical.choose_spec (hn' c L') hr⟩
theorem t9 {op : Op} (hj : nI acc j = .sc (.bool b)) (hb : (b == want) = false) (hn : DA P l fr fin sk ((k, .sc undef) :: acc) L) : cE P l fr fin k .v ⟨dd, op, ty, pos, af, some (j, want)⟩ sk acc L := by
 intro ho
 obtain ⟨pl, hpl⟩ := hn
 exact ⟨.val k (.sc undef) pl, .v, sk, _, rfl, ho, .inl ⟨rfl, fun L => .inr ⟨⟨_, hj, fun e => by injection e with e; subst e; simp at hb⟩, rfl, rfl⟩⟩, hpl⟩
theorem yV {o : Oper} {fr : bw} (h : Av P o fr u) : ∀ B L, AO P o fr B L (fun c L' => c = u ∧ L' = L) := fun _ _ => h.ao
theorem bf (ok : di P tt) (h : DA P l fr fin sk ((k, u) :: acc) L) (hu : nz tt (cl l.toArray acc fr af.toList) op = some u := by rfl) (hg : iP ⟨dd, op, ty, pos, af, g⟩ acc := by first | trivial | rfl) : cE P l fr fin k .v ⟨dd, op, ty, pos, af, g⟩ sk acc L := eS hg (yV (jH ok hu)) h
theorem ir {bop : BinOp} (h : cE P l fr fin k .v ⟨dd, .binOp bop t x y t', ty, pos, af, g⟩ sk acc L) : cE P l fr fin k .v ⟨dd, .binOp bop t x y t', ty, pos, af, g⟩ sk acc L := h
theorem lK {bop : BinOp} (h : DA P l fr fin sk ((k, u) :: acc) L) (ho : Av P ⟨dd, .binOp bop t x y t', ty, pos, af, g⟩ (cl l.toArray acc fr af.toList) u := by first | exact sS rfl rfl (by omega) | exact sY rfl rfl (by omega) | exact sX rfl rfl (by omega)) (hg : iP ⟨dd, .binOp bop t x y t', ty, pos, af, g⟩ acc := by first | trivial | rfl) : cE P l fr fin k .v ⟨dd, .binOp bop t x y t', ty, pos, af, g⟩ sk acc L := eS hg (yV ho) h
theorem cC (h : cE P l fr fin k .v ⟨dd, .indexAddr t x y, ty, pos, af, g⟩ sk acc L) : cE P l fr fin k .v ⟨dd, .indexAddr t x y, ty, pos, af, g⟩ sk acc L := h
theorem d4 (ok : di P tt) {e sz by_ s : Nat} {ll : List (List AV)} {ik : IntKind} {i : Int} {es : List AV} (h : DA P l fr fin sk ((k, .iptr es) :: acc) L) (ht : iJ tt t = some (e, sz, by_) := by rfl) (hx : aW (cl l.toArray acc fr af.toList) x = some u := by rfl) (hu : i6 u = some (s, ll) := by rfl) (hs : Nat.beq s sz = true := by rfl) (hy : aW (cl l.toArray acc fr af.toList) y = some (.sc (.int ik i)) := by rfl) (h0 : 0 ≤ i := by omega) (hl : ll[i.toNat]? = some es := by first | assumption | (simp only [Int.toNat_natCast]; assumption)) (hg : iP ⟨dd, .indexAddr t x y, ty, pos, af, g⟩ acc := by first | trivial | rfl) : cE P l fr fin k .v ⟨dd, .indexAddr t x y, ty, pos, af, g⟩ sk acc L := eS hg (yV (sV (b8 ok ht).1 hx (cO hu) hs hy h0 hl)) h
theorem cL {f : FuncId} {args : Array Operand} {ts : Array TypeId} (h : cE P l fr fin k .v ⟨dd, .call ⟨.value (.func f), args, ts⟩, ty, pos, af, g⟩ sk acc L) : cE P l fr fin k .v ⟨dd, .call ⟨.value (.func f), args, ts⟩, ty, pos, af, g⟩ sk acc L := h
theorem de {f : FuncId} {args : Array Operand} {ts : Array TypeId} {cs ds : List AV} [bi P f] (h : DA P l fr fin sk ((k, u) :: acc) L) (hv : dD (cl l.toArray acc fr af.toList) args.toList = some cs := by rfl) (hi : lc cs = some ds := by rfl) (hc : AD P f ds u := by infer_instance) (hg : iP ⟨dd, .call ⟨.value (.func f), args, ts⟩, ty, pos, af, g⟩ acc := by first | trivial | rfl) : cE P l fr fin k .v ⟨dd, .call ⟨.value (.func f), args, ts⟩, ty, pos, af, g⟩ sk acc L := eS hg (fun _ _ => vG hv (by rw [fV hi]; exact hc.det)) h
theorem bX (ok : di P tt) (i : Nat) {b kk : Nat} {cs : List AV} {e : TypeId} (ht : C4 tt t = true) (hx : aW (cl l.toArray acc fr af.toList) x = some (.sc (.pointer (some ⟨b, kk, none⟩)))) (hL : L[i]? = some (b, .box cs e)) (hc : cs[kk]? = some u) (hg : iP ⟨dd, .load t x, ty, pos, af, g⟩ acc) (h : DA P l fr fin sk ((k, u) :: acc) L) : cE P l fr fin k .l ⟨dd, .load t x, ty, pos, af, g⟩ sk acc L := we hg (fun _ => p6 i (ck ok ht) hx hL hc) h
theorem t6 (ok : di P tt) (i : Nat) {b kk n : Nat} {cs : List AV} {e : TypeId} (ht : BC tt t = some n) (hx : aW (cl l.toArray acc fr af.toList) x = some (.sc (.pointer (some ⟨b, kk, none⟩)))) (hL : L[i]? = some (b, .box cs e)) (hc : Nat.ble (kk + n) cs.length = true) (hg : iP ⟨dd, .load t x, ty, pos, af, g⟩ acc) (h : DA P l fr fin sk ((k, .agg ((cs.drop kk).take n)) :: acc) L) : cE P l fr fin k .l ⟨dd, .load t x, ty, pos, af, g⟩ sk acc L := we hg (fun _ => qd i (dG ok ht) hx hL hc) h
theorem uA {gs : KpL} {i b kk : Nat} {v : AV} (hi : gs[i]? = some (.cell (b, kk, v))) {L : AL} (h : eM gs L) : ∃ (j : Nat) (cs : List AV) (e : TypeId), L[j]? = some (b, .box cs e) ∧ cs[kk]? = some v := by
 obtain ⟨cs, e, h1, h2⟩ := h _ (Dw hi)
 obtain ⟨j, hj⟩ := List.mem_iff_getElem?.1 h1
 exact ⟨j, cs, e, hj, h2⟩
theorem t7 (ok : di P tt) (i : Nat) {b kk : Nat} (ht : C4 tt t = true) (hx : aW (cl l.toArray acc fr af.toList) x = some (.sc (.pointer (some ⟨b, kk, none⟩)))) (hi : fin.gs[i]? = some (.cell (b, kk, u))) (hK : eM fin.gs L) (hg : iP ⟨dd, .load t x, ty, pos, af, g⟩ acc) (h : DA P l fr fin sk ((k, u) :: acc) L) : cE P l fr fin k .k ⟨dd, .load t x, ty, pos, af, g⟩ sk acc L :=
 Az hK hg (fun _ L' hL' => by
  obtain ⟨j, cs, e, h1, h2⟩ := uA hi hL'
  exact p6 j (ck ok ht) hx h1 h2) h
theorem sZ {d : Option Tmp} {e sz by_ n : Nat} {parts : Array (Nat × Operand)} {vs : List AV} {xs : List (List AV)} (hc : jf P t e sz by_) (hsz : 0 < sz) (hv : dD fr (parts.toList.map (·.2)) = some vs) (hxs : gG vs = some xs) (hn : Nat.beq xs.length n = true) (hi : parts.toList.map (·.1) = List.range' 0 n) (hz : xs.all (fun q => Nat.beq q.length sz) = true) (h24 : Nat.ble (n * sz) 16777216 = true) :
  AO P ⟨d, .buildSlice t n parts, ty, pos, af, g⟩ fr B L (fun c L' => c = .imm sz xs ∧ L' = L) := by
 intro σ ρ w hρ hw
 refine (vI hc hsz hv hxs hn hi hz h24 σ ρ w hρ hw).mono fun v w' hh => ?_
 obtain ⟨τ, c, L', h1, h2, h3, b, rfl, rfl⟩ := hh
 exact ⟨τ, _, L, h1, h2.im, h3.sublist (.cons _ (List.Sublist.refl _)), rfl, rfl⟩
theorem lL (ok : di P tt) {e sz by_ n : Nat} {parts : Array (Nat × Operand)} {vs : List AV} {xs : List (List AV)} (h : DA P l fr fin sk ((k, .imm sz xs) :: acc) L) (ht : iJ tt t = some (e, sz, by_) := by rfl) (hv : dD (cl l.toArray acc fr af.toList) (parts.toList.map (·.2)) = some vs := by rfl) (hxs : gG vs = some xs := by rfl) (hn : Nat.beq xs.length n = true := by rfl) (hi : parts.toList.map (·.1) = List.range' 0 n := by rfl) (hz : xs.all (fun q => Nat.beq q.length sz) = true := by rfl) (h24 : Nat.ble (n * sz) 16777216 = true := by rfl) (hg : iP ⟨dd, .buildSlice t n parts, ty, pos, af, g⟩ acc := by first | trivial | rfl) :
  cE P l fr fin k .v ⟨dd, .buildSlice t n parts, ty, pos, af, g⟩ sk acc L := eS hg (fun _ _ => sZ (b8 ok ht).1 (b8 ok ht).2 hv hxs hn hi hz h24) h
theorem c6 (ok : di P tt) {r : Option Nat} {ops : Array Oper} {Q : Exit → Act → World → Prop} {nt : Nat} {D : List Deferred} {rest : List Oper} {d e sz by_ n : Nat} {parts : Array (Nat × Operand)} {vs : List AV} {xs : List (List AV)} (h : bh P r ops Q nt D rest ((d, .imm sz xs) :: fr) B L) (ht : iJ tt t = some (e, sz, by_) := by rfl) (hv : dD fr (parts.toList.map (·.2)) = some vs := by rfl) (hxs : gG vs = some xs := by rfl) (hn : Nat.beq xs.length n = true := by rfl) (hi : parts.toList.map (·.1) = List.range' 0 n := by rfl) (hz : xs.all (fun q => Nat.beq q.length sz) = true := by rfl) (h24 : Nat.ble (n * sz) 16777216 = true := by rfl) (hd : Nat.ble nt d = false := by rfl) :
  bh P r ops Q nt D (⟨some d, .buildSlice t n parts, ty, pos, af, none⟩ :: rest) fr B L := by
 obtain ⟨h1, h2⟩ := b8 ok ht
 refine c8 hd rfl (sZ h1 h2 hv hxs hn hi hz h24) fun c L' hh => ?_
 obtain ⟨h1, h2⟩ := hh
 subst h1; subst h2
 exact h
theorem bv {gs : KpL} {n0 : Nat} {fr0 : bw} {rest : List Oper} (ks : List Nat) (hk : fy (g7 l.toArray acc fr n0) ks = some fr0) (hr : l.drop n0 = rest) (h : bh P r l.toArray Q nt D rest fr0 B L) : DA P l fr ⟨yI P r l n0 Q nt D fr B none, gs⟩ [] acc L :=
 ⟨.fin, rfl, by rw [← hr] at h; exact vP (d7 ks hk) (fun _ _ h => h) h⟩
end
end Go.Proofs.YtpmdfoaadejmkaaGreatDoor
namespace Go.Proofs.YtpmdfoaadejmkaaGreatDoor
open Go.RowKit
attribute [local irreducible] AT bh AX AO Av Kt b6 dh DA cE
structure aF where
 Glyph : Int
 Cluster : Int
 Form : Int
 Advance : Int
 X : Int
 Y : Int
def bM (x : aF) : List AV := [az x.Glyph, az x.Cluster, az x.Form, az x.Advance, az x.X, az x.Y]
def zM (ms : List Bool) (g : Int) : Bool := decide (0 ≤ g) && ms.getD g.toNat false
def m6 (ms : List Bool) (ig : Bool) (x : aF) : Bool := !(ig && zM ms x.Glyph)
def gX (ms : List Bool) (ig : Bool) (run : List aF) (i : Nat) : Bool := match run[i]? with
 | some x => m6 ms ig x
 | none => false
def dk (ms : List Bool) (ig : Bool) (run : List aF) (i : Nat) : List Nat := (List.range' i (run.length - i)).filter (gX ms ig run)
def jR (ms : List Bool) (ig : Bool) (run : List aF) : Nat → List Nat
 | 0 => []
 | i + 1 => if gX ms ig run i = true then i :: jR ms ig run i else jR ms ig run i
def ey (run : List aF) (i : Nat) : Int := match run[i]? with
 | some x => x.Glyph
 | none => -1
def dC : List (List Int) → List Int → Bool
 | [], _ => true
 | _ :: _, [] => false
 | s :: ss, g :: gs => s.contains g && dC ss gs
def dT (ms : List Bool) (ig : Bool) (run : List aF) (i : Nat) (r : aU) : Bool :=
 !r.In.isEmpty && (dC (r.In ++ r.Ahead) ((dk ms ig run i).map (ey run)) && dC r.Back ((jR ms ig run i).map (ey run)))
def js (ms : List Bool) (ig : Bool) (run : List aF) (i : Nat) (forms : List Int) : Bool := match run[i]? with
 | some x => m6 ms ig x && (forms.isEmpty || forms.contains x.Form)
 | none => false
def dt (ms : List Bool) (l : aQ) (run : List aF) (i : Nat) (forms : List Int) : Option aU := if js ms l.Ignore run i forms = true then l.Rules.find? (dT ms l.Ignore run i) else none
def cN (ms : List Bool) (l : aQ) (run : List aF) (i : Nat) (r : aU) : List Nat := (dk ms l.Ignore run i).take r.In.length
def eD (r : aU) (i : Nat) (run : List aF) : List aF := match run[i]? with
 | none => run
 | some x => match r.Out[(r.In.headD []).idxOf x.Glyph]? with
  | none => run
  | some g => if (r.In.headD []).idxOf x.Glyph < (r.In.headD []).length then run.set i { x with Glyph := g } else run
def fK (r : aU) (i : Nat) (run : List aF) : List aF := match run[i]? with
 | none => run
 | some x => if run.length - 1 + r.Out.length > 500 ∧ 1 < r.Out.length then run else run.take i ++ (r.Out.map fun g => { x with Glyph := g }) ++ run.drop (i + 1)
def dO : List Nat → List aF → List aF
 | [], run => run
 | p :: ps, run => (dO ps run).eraseIdx p
def lf (run : List aF) (c : Int) (p : Nat) : Int := match run[p]? with
 | some x => min c x.Cluster
 | none => c
def fa (run : List aF) (ps : List Nat) (c : Int) : Int := ps.foldl (lf run) c
def kg (r : aU) (ps : List Nat) (run : List aF) : List aF := match ps, r.Out with
 | p :: q, g :: _ => match run[p]? with
  | some x => dO q (run.set p { x with Glyph := g, Cluster := fa run (p :: q) x.Cluster })
  | none => run
 | _, _ => run
def oD (r : aU) (i : Nat) (run : List aF) : List aF := match run[i]? with
 | some x => run.set i { x with Advance := IntKind.i64.wrap (x.Advance + r.X) }
 | none => run
def pz (ms : List Bool) (ig : Bool) (run : List aF) (i : Nat) (n : Int) : Option Nat := if 0 ≤ n then (dk ms ig run i)[n.toNat]? else none
def eO (l : aQ) (r : aU) (ps : List Nat) (run : List aF) : List aF :=
 if l.Kind = 1 ∨ l.Kind = 5 then eD r (ps.headD 0) run
 else if l.Kind = 2 then fK r (ps.headD 0) run
 else if l.Kind = 3 then kg r ps run
 else if l.Kind = 6 then oD r (ps.headD 0) run
 else run
abbrev Cb := aQ → aU → List Nat → List aF → List aF
def jV (ms : List Bool) (ls : List aQ) (d : Cb) (n : Int) (i : Nat) (run : List aF) : List aF :=
 if n < 0 then run else match ls[n.toNat]? with
 | none => run
 | some l => if l.Kind < 1 ∨ 4 < l.Kind then run else match dt ms l run i [] with
  | none => run
  | some r => d l r (cN ms l run i r) run
def dX (ms : List Bool) (ls : List aQ) (d : Cb) (ig : Bool) (i : Nat) (run : List aF) (c : ic) : List aF := match pz ms ig run i c.At with
 | none => run
 | some p => jV ms ls d c.Lookup p run
def gz (ms : List Bool) (ls : List aQ) : Nat → Cb
 | 0 => fun l r ps run => eO l r ps run
 | k + 1 => fun l r ps run => if l.Kind = 4 then r.Calls.foldl (dX ms ls (gz ms ls k) l.Ignore (ps.headD 0)) run else eO l r ps run
def tA (l : aQ) (i last : Nat) (run run' : List aF) : Nat :=
 if l.Kind = 4 then max (run'.length - (run.length - 1 - last)) (i + 1)
 else if l.Kind = 6 ∧ i < last then last
 else run'.length - (run.length - 1 - last)
def tC (ms : List Bool) (ls : List aQ) (l : aQ) (forms : List Int) : Nat → Nat → List aF → List aF
 | 0, _, run => run
 | k + 1, i, run => if i < run.length then match dt ms l run i forms with
   | none => tC ms ls l forms k (i + 1) run
   | some r => tC ms ls l forms k (tA l i ((cN ms l run i r).getLastD i) run (gz ms ls 4 l r (cN ms l run i r) run)) (gz ms ls 4 l r (cN ms l run i r) run)
  else run
def hZ (ms : List Bool) (ls : List aQ) (l : aQ) (forms : List Int) : Nat → List aF → List aF
 | 0, run => run
 | i + 1, run => hZ ms ls l forms i (match dt ms l run i forms with
  | none => run
  | some r => gz ms ls 4 l r (cN ms l run i r) run)
def dq (ms : List Bool) (ls : List aQ) (n : Int) (run : List aF) (forms : List Int) : List aF :=
 if n < 0 then run else match ls[n.toNat]? with
 | none => run
 | some l => if l.Kind < 1 ∨ 6 < l.Kind then run else if l.Kind = 5 then hZ ms ls l forms run.length run else tC ms ls l forms run.length 0 run
def bF (p : Nat → Bool) : Nat → Nat
 | 0 => 0
 | n + 1 => bF p n ||| (if p n = true then 2 ^ n else 0)
theorem bC (p : Nat → Bool) (i : Nat) : ∀ n, (bF p n).testBit i = (decide (i < n) && p i)
 | 0 => by simp [bF]
 | n + 1 => by
  rw [bF, Nat.testBit_or, bC p i n]
  by_cases hi : i = n
  ·subst hi
   cases hp : p i <;> simp [Nat.testBit_two_pow_self]
  ·have h1 : decide (i < n + 1) = decide (i < n) := decide_eq_decide.2 (by omega)
   have h2 : (if p n = true then 2 ^ n else 0).testBit i = false := by
    split
    ·rw [Nat.testBit_two_pow_of_ne (by omega)]
    ·simp
   rw [h1, h2, Bool.or_false]
theorem jS (p : Nat → Bool) (n : Nat) : bF p n < 2 ^ n := Nat.lt_pow_two_of_testBit _ fun i hi => by
 rw [bC, decide_eq_false (by omega), Bool.false_and]
theorem f0 {x y : Nat} (h : ∀ i, x.testBit i = y.testBit i) : x = y := Nat.eq_of_testBit_eq h
theorem mI {p : Nat → Bool} {n : Nat} : bF p n = 0 ↔ ∀ i, i < n → p i = false := by
 constructor
 ·intro h i hi
  have := bC p i n
  rw [h, Nat.zero_testBit, decide_eq_true hi, Bool.true_and] at this
  exact this.symm
 ·intro h
  refine f0 fun i => ?_
  rw [bC, Nat.zero_testBit]
  by_cases hi : i < n
  ·rw [h i hi, Bool.and_false]
  ·rw [decide_eq_false hi, Bool.false_and]
section
variable (cls : List Int) (rows : List (List (List Int))) (have_ : Nat → Bool)
def dM (c : Nat) (s : List Int) : Bool := s.any fun g => decide (0 ≤ g) && (decide (g < cls.length) && decide (cls.getD g.toNat (-1) = (c : Int)))
def ji (m c : Nat) (n : Nat) : Bool := match rows[n]? with
 | some r => match r[m]? with
  | some s => dM cls c s
  | none => false
 | none => false
def gh (m : Nat) (n : Nat) : Bool := match rows[n]? with
 | some r => decide (r.length = m)
 | none => false
def gp (m c : Nat) : Nat := bF (ji cls rows m c) rows.length
def tc (m : Nat) : Nat := bF (gh rows m) rows.length
def jx : Nat × Nat := (0, bF have_ rows.length)
def bq (p : Nat × Nat) (c : Nat) : Nat × Nat := if p.2 &&& gp cls rows p.1 c = 0 then (0, 0) else (p.1 + 1, p.2 &&& gp cls rows p.1 c)
def gi (p : Nat × Nat) : Nat := if p.2 = 0 then 0 else p.2 &&& tc rows p.1
structure nZ (C : Nat) (tab : List (List Int)) (ends : List Nat) : Prop where
 met : ∃ met : List (Nat × Nat), met[0]? = some (jx rows have_) ∧ met.length = tab.length ∧ met.length = ends.length ∧
  (∀ (i : Nat) p, met[i]? = some p → ends[i]? = some (gi rows p)) ∧
  (∀ (i : Nat) p q, met[i]? = some p → tab[i]? = some q → q.length = C ∧ ∀ (c : Nat) z, q[c]? = some z → ((bq cls rows p c).2 = 0 ∧ z = -1) ∨ ((bq cls rows p c).2 ≠ 0 ∧ 0 ≤ z ∧ met[z.toNat]? = some (bq cls rows p c)))
end
def fi (cls : List Int) (tab : List (List Int)) (s : Int) (g : Int) : Int :=
 if s < 0 ∨ g < 0 then -1 else match tab[s.toNat]?, cls[g.toNat]? with
 | some dp, some c => if c < 0 then -1 else match dp[c.toNat]? with
  | some z => if 0 ≤ z ∧ z < tab.length then z else -1
  | none => -1
 | _, _ => -1
def fU (ends : List Nat) (s : Int) : Nat := if s < 0 then 0 else ends.getD s.toNat 0
def jk (cls : List Int) (tab : List (List Int)) (ends : List Nat) : Int → List Int → Nat → Nat
 | _, [], told => told
 | s, g :: r, told => if fi cls tab s g = -1 then told else jk cls tab ends (fi cls tab s g) r (told ||| fU ends (fi cls tab s g))
def ej (cls : List Int) (tab : List (List Int)) (ends : List Nat) (gl : List Int) : Nat := jk cls tab ends 0 gl (fU ends 0)
structure pY (n : Nat) (C : Nat) (cls : List Int) (sets : List (List Int)) : Prop where
 len : cls.length = n
 dom : ∀ z ∈ cls, 0 ≤ z ∧ z < C
 apart : ∀ s ∈ sets, ∀ (i j : Nat) z, cls[i]? = some z → cls[j]? = some z → ((i : Int) ∈ s ↔ (j : Int) ∈ s)
theorem qS {cls : List Int} {n C : Nat} {sets : List (List Int)} (h : pY n C cls sets) {s : List Int} (hs : s ∈ sets) (hd : ∀ g ∈ s, 0 ≤ g ∧ g < n) {g : Int} (h0 : 0 ≤ g) {c : Nat} (hc : cls[g.toNat]? = some (c : Int)) : dM cls c s = s.contains g := by
 rw [Bool.eq_iff_iff, List.contains_iff_mem]
 unfold dM
 rw [List.any_eq_true]
 constructor
 ·rintro ⟨x, hx, hb⟩
  simp only [Bool.and_eq_true, decide_eq_true_eq] at hb
  obtain ⟨h1, h2, h3⟩ := hb
  have hxc : cls[x.toNat]? = some (c : Int) := by
   rw [Bg (by omega)]
   rw [List.getD_eq_getElem?_getD, Bg (by omega)] at h3
   exact congrArg some h3
  have := (h.apart s hs x.toNat g.toNat c hxc hc).1 (by rw [Int.toNat_of_nonneg h1]; exact hx)
  rwa [Int.toNat_of_nonneg h0] at this
 ·intro hg
  refine ⟨g, hg, ?_⟩
  have hl := h.len
  have := hd g hg
  simp only [Bool.and_eq_true, decide_eq_true_eq]
  refine ⟨h0, by omega, ?_⟩
  rw [List.getD_eq_getElem?_getD, hc]
  rfl
def kj (rows : List (List (List Int))) (have_ : Nat → Bool) (gl : List Int) (n : Nat) : Bool := match rows[n]? with
 | some r => have_ n && (decide (gl.length ≤ r.length) && dC (r.take gl.length) gl)
 | none => false
theorem kZ : ∀ {ss : List (List Int)} {gl : List Int} {s : List Int} {g : Int}, ss.length = gl.length → dC (ss ++ [s]) (gl ++ [g]) = (dC ss gl && s.contains g)
 | [], [], s, g, _ => by simp [dC]
 | [], _ :: _, _, _, h => by simp at h
 | _ :: _, [], _, _, h => by simp at h
 | s' :: ss, g' :: gl, s, g, h => by
  rw [Ds, Ds, dC, kZ (by simpa using h), dC, Bool.and_assoc]
theorem gO : ∀ {a : List (List Int)} {b : List Int}, b.length < a.length → dC a b = false
 | [], _, h => by simp at h
 | _ :: _, [], _ => rfl
 | _ :: a, _ :: b, h => by rw [dC, gO (by simpa using h), Bool.and_false]
theorem iY : ∀ {ss : List (List Int)} {gl x : List Int}, ss.length ≤ gl.length → dC ss (gl ++ x) = dC ss gl
 | [], _, _, _ => rfl
 | _ :: _, [], _, h => by simp at h
 | s :: ss, g :: gl, x, h => by rw [Ds, dC, dC, iY (by simpa using h)]
section
variable {cls : List Int} {rows : List (List (List Int))} {have_ : Nat → Bool} {N C : Nat} {sets : List (List Int)}
theorem wO (h : pY N C cls sets) (hs : ∀ r ∈ rows, ∀ s ∈ r, s ∈ sets ∧ ∀ g ∈ s, 0 ≤ g ∧ g < N) {gl : List Int} {g : Int} {c : Nat} (h0 : 0 ≤ g) (hc : cls[g.toNat]? = some (c : Int)) :
  bF (kj rows have_ gl) rows.length &&& gp cls rows gl.length c = bF (kj rows have_ (gl ++ [g])) rows.length := by
 refine f0 fun n => ?_
 rw [Nat.testBit_and, bC, gp, bC, bC]
 by_cases hn : n < rows.length
 ·simp only [decide_eq_true hn, Bool.true_and]
  unfold kj ji
  rw [Bg hn]
  dsimp only
  have hm := List.getElem_mem hn
  generalize rows[n] = r at hm
  rw [List.length_append, List.length_singleton]
  by_cases hl : gl.length < r.length
  ·have hs' := hs r hm r[gl.length] (List.getElem_mem hl)
   rw [Bg hl, decide_eq_true (by omega : gl.length ≤ r.length), decide_eq_true (by omega : gl.length + 1 ≤ r.length), List.take_add_one, Bg hl]
   dsimp only [Option.toList]
   rw [kZ (by rw [List.length_take]; omega), qS h hs'.1 hs'.2 h0 hc]
   cases have_ n <;> simp
  ·rw [List.getElem?_eq_none (by omega), decide_eq_false (by omega : ¬ gl.length + 1 ≤ r.length)]
   simp
 ·simp [decide_eq_false hn]
def dr (rows : List (List (List Int))) (have_ : Nat → Bool) (gl : List Int) (n : Nat) : Bool := match rows[n]? with
 | some r => have_ n && dC r gl
 | none => false
theorem lZ {tab : List (List Int)} {ends : List Nat} (h : pY N C cls sets) (hs : ∀ r ∈ rows, ∀ s ∈ r, s ∈ sets ∧ ∀ g ∈ s, 0 ≤ g ∧ g < N) (ht : nZ cls rows have_ C tab ends) (hC : ∀ z ∈ cls, z.toNat < C) :
  ∀ (gl : List Int), ej cls tab ends gl = bF (dr rows have_ gl) rows.length := by
 obtain ⟨met, h0, hl, hle, he, hn⟩ := ht.met
 have hmt := hl
 have key : ∀ (r gl : List Int) (s : Nat) (told : Nat) (p : Nat × Nat), met[s]? = some p → p.1 = gl.length → p.2 = bF (kj rows have_ gl) rows.length → told = bF (dr rows have_ gl) rows.length →
   (gl = [] ∨ p.2 ≠ 0) → jk cls tab ends s r told = bF (dr rows have_ (gl ++ r)) rows.length := by
  intro r
  induction r with
  | nil => intro gl s told p _ _ _ ht _; rw [jk, List.append_nil]; exact ht
  | cons g r ih =>
   intro gl s told p hp hp1 hp2 htold hne
   have hsl : s < met.length := (Dp hp).1
   obtain ⟨q, hq⟩ : ∃ q, tab[s]? = some q := ⟨_, Bg (by omega)⟩
   obtain ⟨hqC, hqn⟩ := hn s p q hp hq
   have stop : (∀ n, kj rows have_ (gl ++ [g]) n = false) → bF (dr rows have_ gl) rows.length = bF (dr rows have_ (gl ++ g :: r)) rows.length := by
    intro hz
    refine f0 fun n => ?_
    rw [bC, bC]
    congr 1
    have hzn := hz n
    unfold kj at hzn
    unfold dr
    cases hr : rows[n]? with
    | none => rfl
    | some dp =>
     rw [hr] at hzn
     dsimp only at hzn ⊢
     by_cases hh : have_ n = true
     ·rw [hh, Bool.true_and] at hzn ⊢
      rw [Bool.true_and]
      by_cases hrl : dp.length ≤ gl.length
      ·rw [iY hrl]
      ·rw [List.length_append, List.length_singleton, decide_eq_true (by omega), Bool.true_and, List.take_add_one, Bg (by omega)] at hzn
       dsimp only [Option.toList] at hzn
       have e1 : dC dp gl = false := by
        rw [Bool.eq_false_iff]
        intro hf
        rw [gO (by omega)] at hf
        cases hf
       have e2 : dC dp (gl ++ g :: r) = false := by
        have e3 : dp = (dp.take gl.length ++ [dp[gl.length]]) ++ dp.drop (gl.length + 1) := by
         rw [List.append_assoc, List.singleton_append, List.getElem_cons_drop, List.take_append_drop]
        have e4 : ∀ {a b : List (List Int)} {x : List Int}, dC (a ++ b) x = true → dC a x = true := by
         intro a
         induction a with
         | nil => intro b x _; rfl
         | cons y a iha =>
          intro b x hx
          cases x with
          | nil => cases hx
          | cons w x =>
           rw [Ds, dC, Bool.and_eq_true] at hx
           rw [dC, Bool.and_eq_true]
           exact ⟨hx.1, iha hx.2⟩
        rw [Bool.eq_false_iff]
        intro hf
        rw [e3] at hf
        have := e4 hf
        rw [show gl ++ g :: r = (gl ++ [g]) ++ r by simp, iY (by simp; omega)] at this
        rw [this] at hzn
        cases hzn
       rw [e1, e2]
     ·simp [hh]
   rw [jk]
   by_cases hg : 0 ≤ g ∧ g.toNat < cls.length
   ·obtain ⟨hg0, hgl⟩ := hg
    obtain ⟨z, hz⟩ : ∃ z, cls[g.toNat]? = some z := ⟨_, Bg hgl⟩
    have hzm := Dw hz
    have hzd := h.dom z hzm
    obtain ⟨c, rfl⟩ := Int.eq_ofNat_of_zero_le hzd.1
    have hcC : c < C := by omega
    obtain ⟨t, htc⟩ : ∃ t, q[c]? = some t := ⟨_, Bg (by omega)⟩
    have hstep := wO (have_ := have_) (gl := gl) h hs hg0 hz
    have hnx : fi cls tab s g = if 0 ≤ t ∧ t < tab.length then t else -1 := by
     unfold fi
     rw [if_neg (by omega), Int.toNat_natCast, hq, hz]
     dsimp only
     rw [if_neg (by omega), Int.toNat_natCast, htc]
    have hbe : bq cls rows p c = if bF (kj rows have_ (gl ++ [g])) rows.length = 0 then (0, 0) else (gl.length + 1, bF (kj rows have_ (gl ++ [g])) rows.length) := by
     unfold bq
     rw [hp1, hp2, hstep]
    rcases hqn c t htc with ⟨h1, h2⟩ | ⟨h1, h2, h3⟩
    ·subst h2
     have hno : ¬ ((0 : Int) ≤ -1 ∧ (-1 : Int) < tab.length) := fun e => absurd e.1 (by decide)
     rw [hnx, if_neg hno, if_pos rfl, htold]
     refine stop fun n => ?_
     rw [hbe] at h1
     have hzero : bF (kj rows have_ (gl ++ [g])) rows.length = 0 := by
      split at h1
      ·assumption
      ·exact h1
     by_cases hnl : n < rows.length
     ·exact mI.1 hzero n hnl
     ·unfold kj; rw [List.getElem?_eq_none (by omega)]
    ·have htl : t.toNat < tab.length := by
      have := (Dp h3).1
      omega
     have htz : ¬ t = -1 := by omega
     have hin : (0 : Int) ≤ t ∧ t < tab.length := ⟨h2, by omega⟩
     rw [if_pos hin] at hnx
     rw [hnx, if_neg htz]
     rw [hbe] at h1 h3
     have hnz : ¬ bF (kj rows have_ (gl ++ [g])) rows.length = 0 := by
      intro e
      rw [if_pos e] at h1
      exact h1 rfl
     rw [if_neg hnz] at h3
     have := ih (gl ++ [g]) t.toNat (told ||| fU ends t) _ h3 (by simp) rfl ?_ (.inr hnz)
     ·rw [Int.toNat_of_nonneg h2] at this
      rw [this]
      simp
     ·
      have hen := he _ _ h3
      unfold fU
      rw [if_neg (by omega), List.getD_eq_getElem?_getD, hen, htold]
      dsimp only [Option.getD]
      unfold gi
      rw [if_neg hnz]
      refine f0 fun n => ?_
      rw [Nat.testBit_or, Nat.testBit_and, tc, bC, bC, bC, bC]
      by_cases hnl : n < rows.length
      ·simp only [decide_eq_true hnl, Bool.true_and]
       unfold dr kj gh
       rw [Bg hnl]
       dsimp only
       generalize rows[n] = dp
       cases have_ n
       ·simp
       ·simp only [Bool.true_and, List.length_append, List.length_singleton]
        by_cases hrl : dp.length ≤ gl.length
        ·rw [iY hrl, decide_eq_false (by omega : ¬ dp.length = gl.length + 1), Bool.and_false, Bool.or_false]
        ·have e1 : dC dp gl = false := gO (by omega)
         rw [e1, Bool.false_or]
         by_cases hre : dp.length = gl.length + 1
         ·rw [decide_eq_true hre, Bool.and_true, decide_eq_true (by omega), Bool.true_and, List.take_of_length_le (by omega)]
         ·rw [decide_eq_false hre, Bool.and_false]
          exact (gO (by simp; omega)).symm
      ·simp [decide_eq_false hnl]
   ·have hnx : fi cls tab s g = -1 := by
     unfold fi
     by_cases hg0 : g < 0
     ·rw [if_pos (.inr hg0)]
     ·rw [if_neg (by omega), Int.toNat_natCast, hq, List.getElem?_eq_none (by omega)]
    rw [hnx, if_pos rfl, htold]
    refine stop fun n => ?_
    unfold kj
    cases hr : rows[n]? with
    | none => rfl
    | some dp =>
     dsimp only
     by_cases hrl : gl.length + 1 ≤ dp.length
     ·have hs' := hs dp (Dw hr) dp[gl.length] (List.getElem_mem (by omega))
      have hng : dp[gl.length].contains g = false := by
       rw [Bool.eq_false_iff]
       intro hm
       rw [List.contains_iff_mem] at hm
       have := hs'.2 g hm
       have hl := h.len
       omega
      rw [List.length_append, List.length_singleton, List.take_add_one, Bg (by omega)]
      dsimp only [Option.toList]
      rw [kZ (by rw [List.length_take]; omega), hng]
      simp
     ·rw [List.length_append, List.length_singleton, decide_eq_false hrl]
      simp
 intro gl
 have h00 := key gl [] 0 (fU ends 0) _ h0 rfl ?_ ?_ (.inl rfl)
 ·rw [Dr] at h00
  exact h00
 ·refine f0 fun n => ?_
  unfold jx
  rw [bC, bC]
  by_cases hnl : n < rows.length
  ·simp only [decide_eq_true hnl, Bool.true_and]
   unfold kj
   rw [Bg hnl]
   simp [dC]
  ·simp [decide_eq_false hnl]
 ·have hen := he _ _ h0
  unfold fU
  rw [if_neg (by omega), List.getD_eq_getElem?_getD]
  rw [show (0 : Int).toNat = 0 from rfl, hen]
  dsimp only [Option.getD]
  refine f0 fun n => ?_
  have hb : (gi rows (jx rows have_)) = bF have_ rows.length &&& tc rows 0 := by
   unfold gi jx
   dsimp only
   split
   ·rename_i e
    rw [e, Nat.zero_and]
   ·rfl
  rw [hb, Nat.testBit_and, tc, bC, bC, bC]
  by_cases hnl : n < rows.length
  ·simp only [decide_eq_true hnl, Bool.true_and]
   unfold dr gh
   rw [Bg hnl]
   dsimp only
   generalize rows[n] = dp
   cases dp with
   | nil => simp [dC]
   | cons s dp => simp [dC]
  ·simp [decide_eq_false hnl]
end
end Go.Proofs.YtpmdfoaadejmkaaGreatDoor
namespace Go.Proofs.YtpmdfoaadejmkaaGreatDoor
open Go.RowKit
attribute [local irreducible] AT bh AX AO Av Kt b6 dh DA cE
theorem l4 : ∀ {ss : List (List Int)} {gl : List Int} {k : Nat}, ss.length ≤ k → dC ss (gl.take k) = dC ss gl
 | [], _, _, _ => rfl
 | _ :: _, [], k, _ => by rw [List.take_nil]
 | _ :: ss, _ :: gl, 0, h => by simp at h
 | s :: ss, g :: gl, k + 1, h => by rw [List.take_succ_cons, dC, dC, l4 (by simpa using h)]
theorem wk {α : Type} {q : α → Bool} {l : List α} : l.find? q = (l.findIdx? q).bind fun i => l[i]? := by
  cases h : l.findIdx? q with
  | none => rw [List.find?_eq_none.2]; · rfl
            intro x hx
            rw [List.findIdx?_eq_none_iff] at h
            rw [h x hx]; decide
  | some i =>
    obtain ⟨hi, h1, h2⟩ := List.findIdx?_eq_some_iff_getElem.1 h
    rw [Option.bind_some, Bg hi, List.find?_eq_some_iff_getElem]
    exact ⟨h1, i, hi, rfl, fun j hj => by simpa using h2 j hj⟩
theorem se {α : Type} {q : α → Bool} {l : List α} {b : Nat} (hb : ∀ n, b.testBit n = (l[n]?).any q) :
  (∀ i, l.findIdx? q = some i → b.testBit i = true ∧ ∀ j, j < i → b.testBit j = false) ∧ (l.findIdx? q = none → b = 0) := by
 constructor
 ·intro i h
  obtain ⟨hi, h1, h2⟩ := List.findIdx?_eq_some_iff_getElem.1 h
  refine ⟨by rw [hb, Bg hi]; exact h1, fun j hj => ?_⟩
  rw [hb, Bg (by omega)]
  simpa using h2 j hj
 ·intro h
  refine f0 fun n => ?_
  rw [hb, Nat.zero_testBit]
  cases hn : l[n]? with
  | none => rfl
  | some x => exact List.findIdx?_eq_none_iff.1 h x (Dw hn)
def cM (r : aU) : List (List Int) := if r.In.isEmpty then [] else r.In ++ r.Ahead
def oq (rs : List aU) (n : Nat) : Bool := match rs[n]? with
 | some r => !r.In.isEmpty
 | none => false
theorem u9 {rs : List aU} {fg bg : List Int} {n : Nat} : (bF (dr (rs.map aU.Back) (fun _ => true) bg) (rs.map aU.Back).length &&& bF (dr (rs.map cM) (oq rs) fg) (rs.map cM).length).testBit n = (rs[n]?).any fun r => !r.In.isEmpty && (dC (r.In ++ r.Ahead) fg && dC r.Back bg) := by
 rw [Nat.testBit_and, bC, bC]
 simp only [Du]
 unfold dr oq
 simp only [List.getElem?_map]
 cases h : rs[n]? with
 | none => simp
 | some r =>
  have hn := (Dp h).1
  simp only [Option.map_some, Option.any_some, decide_eq_true hn, Bool.true_and]
  unfold cM
  cases r.In.isEmpty <;> simp [Bool.and_comm]
def eh (rs : List aU) : Nat := rs.foldl (fun m r => max m (r.In.length + r.Ahead.length)) 0
def fz (rs : List aU) : Nat := rs.foldl (fun m r => max m r.Back.length) 0
theorem k6 {α : Type} {g : α → Nat} : ∀ {l : List α} {m : Nat}, m ≤ l.foldl (fun m r => max m (g r)) m ∧ ∀ r ∈ l, g r ≤ l.foldl (fun m r => max m (g r)) m
 | [], m => ⟨Nat.le_refl _, fun r h => by cases h⟩
 | x :: l, m => by
  have ih := k6 (g := g) (l := l) (m := max m (g x))
  rw [List.foldl_cons]
  refine ⟨by have := ih.1; omega, fun r hr => ?_⟩
  rcases List.mem_cons.1 hr with rfl | hr
  ·have := ih.1; omega
  ·exact ih.2 r hr
theorem rW {ms : List Bool} {ig : Bool} {run : List aF} {i : Nat} {rs : List aU} {b : Nat}
  (hb : ∀ n, b.testBit n = (rs[n]?).any fun r => !r.In.isEmpty && (dC (r.In ++ r.Ahead) (((dk ms ig run i).take (eh rs)).map (ey run)) && dC r.Back (((jR ms ig run i).take (fz rs)).map (ey run)))) (n : Nat) : b.testBit n = (rs[n]?).any (dT ms ig run i) := by
 rw [hb]
 cases h : rs[n]? with
 | none => rfl
 | some r =>
  have hm := Dw h
  have h1 : (r.In ++ r.Ahead).length ≤ eh rs := by rw [List.length_append]; exact (k6 (g := fun r : aU => r.In.length + r.Ahead.length)).2 r hm
  have h2 : r.Back.length ≤ fz rs := (k6 (g := fun r : aU => r.Back.length)).2 r hm
  rw [Option.any_some, Option.any_some]
  unfold dT
  rw [List.map_take, List.map_take, l4 h1, l4 h2]
end Go.Proofs.YtpmdfoaadejmkaaGreatDoor
