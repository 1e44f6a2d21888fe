/-
  Maps of numbers; which glyphs are marks.
-/
import Derived.Test.YtjjpkibjffmceaaGreatM08
import Derived.Test.YtjjpkibjffmceaaGreatM06
import Derived.Test.YtjjpkibjffmceaaGreatM12
import Derived.Test.YtjjpkibjffmceaaGreatM10
namespace Go.Proofs.YtjjpkibjffmceaaGreat
open Go.RowKit
attribute [local irreducible] AT bT AX AO Av Kt bk ej DA cX
open Go.MapKept
abbrev KJ : TypeDesc := .int .i64
def ea (l : List Int) : Value → Option AV
 | .int .i64 z => if z ∈ l then some (cF true) else none
 | _ => none
theorem p9 : (fun _ => none) = ea [] := by
 funext v
 unfold ea
 split <;> simp
theorem p8 {l : List Int} {i : Nat} {z : Int} (h : l[i]? = some z) : ea (l.take (i + 1)) (.int .i64 z) = some (cF true) := by
 unfold ea
 simp only
 rw [if_pos (by rw [List.take_add_one, h]; simp)]
theorem nv {l : List Int} {i : Nat} {z : Int} (h : l[i]? = some z) (q : Value) (hq : q ≠ .int .i64 z) : ea (l.take (i + 1)) q = ea (l.take i) q := by
 unfold ea
 split
 ·rename_i t
  have hne : t ≠ z := fun e => hq (by rw [e])
  rw [List.take_add_one, h]
  simp [hne]
 ·rfl
def ql (f : aJ) (n : Int) : Bool := match f.Glyphs[n.toNat]? with | some g => g.Mark | none => false
def ec (l : List Int) (z : Int) : Option Int := if z ∈ l then some (l.idxOf z : Int) else none
def jW (l : List Int) : Value → Option AV
 | .int .i64 z => (ec l z).map fun n => aM n
 | _ => none
theorem qo (l : List Int) (y z : Int) (hy : y ∉ l) : ec (l ++ [y]) z = if z = y then some (l.length : Int) else ec l z := by
 unfold ec
 by_cases e : z = y
 ·subst e
  rw [if_pos rfl, if_pos (by simp), List.idxOf_append, if_neg hy]
  simp
 ·rw [if_neg e]
  by_cases hz : z ∈ l
  ·rw [if_pos (by simp [hz]), if_pos hz, List.idxOf_append, if_pos hz]
  ·rw [if_neg (by simp [hz, e]), if_neg hz]
theorem yY (l : List Int) (y : Int) (hy : y ∉ l) : jW (l ++ [y]) (.int .i64 y) = some (aM l.length) := by
 unfold jW
 simp only [qo l y y hy, if_true, Option.map_some]
theorem wM (l : List Int) (y : Int) (hy : y ∉ l) (q : Value) (hq : q ≠ .int .i64 y) : jW (l ++ [y]) q = jW l q := by
 unfold jW
 split
 ·rename_i z
  have hz : z ≠ y := fun e => hq (by rw [e])
  rw [qo l y z hy, if_neg hz]
 ·rfl
theorem yX : (fun _ => none) = jW [] := by
 funext v
 unfold jW ec
 split <;> simp
theorem D1 {l : List Int} (h : l.Nodup) {i : Nat} {y : Int} (hy : l[i]? = some y) : y ∉ l.take i := fun hm => by
 obtain ⟨k, hk⟩ := List.mem_iff_getElem?.1 hm
 rw [List.getElem?_take] at hk
 split at hk
 ·rename_i hlt
  obtain ⟨k1, k2⟩ := Gn hk
  obtain ⟨i1, i2⟩ := Gn hy
  have e1 := h.idxOf_getElem k k1
  have e2 := h.idxOf_getElem i i1
  rw [k2] at e1
  rw [i2] at e2
  omega
 ·cases hk
theorem nl (l : List Int) (h : l.Nodup) : AC Tryz.prog 24 [.imm 1 (aU l)] [] fun c L => ∃ m, c = .sc (.map (some m)) ∧ L = [(m, cj KJ (jW l))] := by
 refine aP Tryz.func24 rfl Tryz.ntmps24 rfl fun B => ?_
 have hil := aQ l
 refine cz 0 rfl rfl fun hlen => ?_
 repeat' (first|refine ah ?_|refine a7 ?_|refine a8 ?_|refine aa ?_|refine ae a6 rfl rfl ?_)
 refine eN KJ fun m => ?_
 rw [yX]
 repeat' (first|refine ah ?_|refine a7 ?_|refine aq ?_|refine a8 ?_|refine aa ?_|refine ae a6 rfl rfl ?_)
 refine aN [3, 7, 8] (α := Nat) (fun i => [(9, aM i)]) (fun i => i ≤ l.length) (fun i => [(m, cj KJ (jW (l.take i)))]) (fun i => l.length - i) 0 rfl ⟨rfl, trivial⟩ (Nat.zero_le _) (fun _ _ h => h) ?_
 rintro i hi
 try dsimp only [Gr, Gq, Gp, Gj]
 repeat' (first|refine ah ?_|refine a7 ?_|refine a8 ?_|refine aa ?_|refine ae a6 rfl rfl ?_)
 refine aw rfl (fun hh => ?_) (fun hh => ?_)
 ·have hil : i < l.length := by have := Gz hh; omega
  obtain ⟨y, hy⟩ : ∃ z, l[i]? = some z := ⟨_, Ds hil⟩
  have hyi := bN hy
  have hn := D1 h hy
  have ht : l.take (i + 1) = l.take i ++ [y] := by rw [List.take_add_one, hy]; rfl
  have hp := yY (l.take i) y hn
  rw [List.length_take, Nat.min_eq_left (by omega)] at hp
  repeat' (first|refine ah ?_|refine a7 ?_|refine aq ?_|refine au ?_|refine a8 ?_|refine aa ?_|refine ae a6 rfl rfl ?_|(apply aY; first|refine aX a6 ?_|refine aS a6 ?_)|fail)
  refine dD 0 (jW (l.take i ++ [y])) Tryz.underlying99 Tryz.underlying3 rfl rfl rfl rfl rfl hp (wM (l.take i) y hn) ?_
  repeat' (first|refine a7 ?_|refine a8 ?_|refine aI ?_|refine aa ?_|refine ae a6 rfl rfl ?_|(apply aW; refine aV ?_)|fail)
  exact aC (i + 1) rfl ⟨by rw [Gw]; rfl, trivial⟩ (by omega) (by omega) (fun _ _ h => by rw [ht]; exact h)
 have hil : i = l.length := by have := Gy hh; omega
 subst hil
 rw [List.take_length]
 repeat' (first|refine ah ?_|refine a7 ?_|refine ar ?_|refine aR ?_|refine a8 ?_|refine av ?_|refine aB ?_|refine ay ?_|refine aa ?_|refine ae a6 rfl rfl ?_)
 exact aA rfl rfl ⟨m, rfl, rfl⟩
def cK (f : aJ) (mg ml : Nat) : List AV := bZ f ++ [.sc (.map (some mg)), .sc (.map (some ml))]
def kL (mg ml : Nat) (G K : List Int) : AL := [(mg, cj KJ (jW G)), (ml, cj KJ (jW K))]
theorem sL (l : List Int) (z : Int) : (jW l (.int .i64 z)).getD (.sc (.int .i64 0)) = aM ((ec l z).getD 0) ∧ (jW l (.int .i64 z)).isSome = (ec l z).isSome := by
 unfold jW
 simp only
 cases ec l z <;> exact ⟨rfl, rfl⟩
theorem iu (f : aJ) (mg ml : Nat) (G K : List Int) (z : Int) : AC Tryz.prog 70 [.agg (cK f mg ml), aM z] (kL mg ml G K) fun c L => c = .tup [aM ((ec G z).getD 0), cF (ec G z).isSome] ∧ L = kL mg ml G K := by
 refine aP Tryz.func70 rfl Tryz.ntmps70 rfl fun B => ?_
 have hM := sL G z
 unfold kL cK bZ
 dsimp only [Gr, Gq]
 repeat' (first|refine ah ?_|refine a7 ?_|refine a8 ?_|refine aa ?_|refine ae a6 rfl rfl ?_|refine be ?_|fail)
 refine iM 0 (.int .i64 0) Tryz.underlying99 Tryz.underlying3 rfl rfl rfl rfl (by kernel_rfl) rfl ?_
 rw [hM.1, hM.2]
 repeat' (first|refine ah ?_|refine a7 ?_|refine ar ?_|refine a8 ?_|refine aa ?_|refine ae a6 rfl rfl ?_)
 exact b6 rfl rfl rfl ⟨rfl, rfl⟩
theorem lS (f : aJ) (mg ml : Nat) (G K : List Int) (z : Int) : AC Tryz.prog 81 [.agg (cK f mg ml), aM z] (kL mg ml G K) fun c L => c = .tup [aM ((ec K z).getD 0), cF (ec K z).isSome] ∧ L = kL mg ml G K := by
 refine aP Tryz.func81 rfl Tryz.ntmps81 rfl fun B => ?_
 have hM := sL K z
 unfold kL cK bZ
 dsimp only [Gr, Gq]
 repeat' (first|refine ah ?_|refine a7 ?_|refine a8 ?_|refine aa ?_|refine ae a6 rfl rfl ?_|refine be ?_|fail)
 refine iM 1 (.int .i64 0) Tryz.underlying99 Tryz.underlying3 rfl rfl rfl rfl (by kernel_rfl) rfl ?_
 rw [hM.1, hM.2]
 repeat' (first|refine ah ?_|refine a7 ?_|refine ar ?_|refine a8 ?_|refine aa ?_|refine ae a6 rfl rfl ?_)
 exact b6 rfl rfl rfl ⟨rfl, rfl⟩
def iq (G : List Int) (p : cB) : Option cB := (ec G p.Glyph).map fun n => { p with Glyph := n }
theorem Bg (f : aJ) (mg ml : Nat) (G K : List Int) (p : cB) : AC Tryz.prog 69 [.agg (cn p), .iptr (cK f mg ml)] (kL mg ml G K) fun c L => (∃ y b, c = .tup [.agg (cn y), cF b] ∧ iq G p = if b = true then some y else none) ∧ L = kL mg ml G K := by
 refine aP Tryz.func69 rfl Tryz.ntmps69 rfl fun B => ?_
 repeat' (first|refine ah ?_|refine a7 ?_|refine a8 ?_|refine aa ?_|refine ae a6 rfl rfl ?_|refine be ?_|refine b5 a6 fun _=>?_|fail)
 refine b7 (kL mg ml G K) _ (iu f mg ml G K p.Glyph) rfl rfl (List.perm_append_singleton _ _).symm rfl fun c L1 ⟨hc, hL⟩ => ?_
 subst hc; subst hL
 repeat' (first|refine ah ?_|refine a7 ?_|refine ar ?_|refine a8 ?_|refine aa ?_|refine ae a6 rfl rfl ?_|(apply aH; first|refine aj a6 0 rfl rfl rfl rfl rfl rfl rfl ?_|refine aj a6 1 rfl rfl rfl rfl rfl rfl rfl ?_|refine aj a6 2 rfl rfl rfl rfl rfl rfl rfl ?_|refine aj a6 3 rfl rfl rfl rfl rfl rfl rfl ?_|fail))
 refine eC (cs := [.agg (cn { p with Glyph := (ec G p.Glyph).getD 0 }), cF (ec G p.Glyph).isSome]) (kL mg ml G K) ⟨⟨_, 2, _, _, rfl, rfl, .inr ⟨cY a6 rfl, rfl⟩⟩, rfl, trivial⟩ (List.sublist_append_left ..) ⟨⟨{ p with Glyph := (ec G p.Glyph).getD 0 }, _, rfl, ?_⟩, rfl⟩
 unfold iq
 cases ec G p.Glyph <;> rfl
def dC (G : List Int) (g : bf) : bf := { g with Parts := g.Parts.filterMap (iq G) }
structure Dz (g : bf) : Prop where
 points : g.Points.length ≤ 1000000
 ends : g.Ends.length ≤ 1000000
 parts : g.Parts.length ≤ 1000000
 anchors : g.Anchors.length ≤ 1000000
 deltas : g.Deltas.length ≤ 1000000
 hint : g.Hint.length ≤ 1000000
set_option maxHeartbeats 4000000 in
theorem s9 (f : aJ) (mg ml : Nat) (G K : List Int) (g : bf) (hg : Dz g) : AC Tryz.prog 27 [.agg (cK f mg ml), .agg (bb g)] (kL mg ml G K) fun c L => c = .agg (bb (dC G g)) ∧ L = kL mg ml G K := by
 refine aP Tryz.func27 rfl Tryz.ntmps27 rfl fun B => ?_
 have h1 := Aj g.Points hg.points
 have h2 := uZ g.Ends hg.ends
 have h3 := Al g.Anchors hg.anchors
 have h4 := Am g.Deltas hg.deltas
 have h5 := uY g.Hint hg.hint
 haveI := AD.mk h1
 haveI : AD Tryz.prog 39 [.imm 1 (aU g.Ends)] (.imm 1 (aU g.Ends)) := AD.mk h2
 haveI := AD.mk h3
 haveI := AD.mk h4
 haveI := AD.mk h5
 have he := CE (u := .fn 69 [.iptr (cK f mg ml)]) rfl g.Parts hg.parts (iq G) (kL mg ml G K) fun p _ => .fn (Bg f mg ml G K p)
 repeat' (first|refine ah ?_|refine a7 ?_|refine a8 ?_|refine aa ?_|refine ae a6 rfl rfl ?_|(apply bB; first|refine ak a6 0 rfl rfl rfl rfl rfl ?_|refine ak a6 1 rfl rfl rfl rfl rfl ?_|refine ak a6 2 rfl rfl rfl rfl rfl ?_|refine ak a6 3 rfl rfl rfl rfl rfl ?_|refine aD a6 0 rfl rfl rfl rfl rfl ?_|refine aD a6 1 rfl rfl rfl rfl rfl ?_|refine aD a6 2 rfl rfl rfl rfl rfl ?_|refine ak a6 1 rfl rfl rfl (by assumption) rfl ?_|refine ak a6 0 rfl rfl rfl (by assumption) rfl ?_|fail)|(apply aH; first|refine aj a6 0 rfl rfl rfl rfl rfl rfl rfl ?_|refine aj a6 1 rfl rfl rfl rfl rfl rfl rfl ?_|refine aj a6 2 rfl rfl rfl rfl rfl rfl rfl ?_|refine aj a6 3 rfl rfl rfl rfl rfl rfl rfl ?_|fail)|refine sD (d := 3) fun _=>?_|refine be ?_|refine b5 a6 fun _=>?_|(apply bA;refine bh ?_)|fail)
 refine b7 (kL mg ml G K) _ he rfl rfl (List.perm_append_comm (l₁ := [_, _])) rfl fun c L1 ⟨hc, hL⟩ => ?_
 subst hc; subst hL
 repeat' (first|refine ah ?_|refine a7 ?_|refine a8 ?_|refine aa ?_|refine ae a6 rfl rfl ?_|(apply bB; first|refine ak a6 0 rfl rfl rfl rfl rfl ?_|refine ak a6 1 rfl rfl rfl rfl rfl ?_|refine ak a6 2 rfl rfl rfl rfl rfl ?_|refine ak a6 3 rfl rfl rfl rfl rfl ?_|refine aD a6 0 rfl rfl rfl rfl rfl ?_|refine aD a6 1 rfl rfl rfl rfl rfl ?_|refine aD a6 2 rfl rfl rfl rfl rfl ?_|refine ak a6 1 rfl rfl rfl (by assumption) rfl ?_|refine ak a6 0 rfl rfl rfl (by assumption) rfl ?_|fail)|(apply aH; first|refine aj a6 0 rfl rfl rfl rfl rfl rfl rfl ?_|refine aj a6 1 rfl rfl rfl rfl rfl rfl rfl ?_|refine aj a6 2 rfl rfl rfl rfl rfl rfl rfl ?_|refine aj a6 3 rfl rfl rfl rfl rfl rfl rfl ?_|fail)|(apply bA;refine bh ?_)|fail)
 refine aD a6 3 rfl rfl rfl rfl rfl ?_
 repeat' (first|refine ar ?_|refine a8 ?_|refine aa ?_|(apply aH; first|refine aj a6 0 rfl rfl rfl rfl rfl rfl rfl ?_|refine aj a6 1 rfl rfl rfl rfl rfl rfl rfl ?_|refine aj a6 2 rfl rfl rfl rfl rfl rfl rfl ?_|refine aj a6 3 rfl rfl rfl rfl rfl rfl rfl ?_|fail))
 exact eC (cs := [.agg (bb (dC G g))]) (kL mg ml G K) ⟨⟨_, 2, _, _, rfl, rfl, .inr ⟨cY a6 rfl, rfl⟩⟩, trivial⟩ (List.sublist_append_left ..) ⟨rfl, rfl⟩
end Go.Proofs.YtjjpkibjffmceaaGreat
namespace Go.Proofs.YtjjpkibjffmceaaGreat
open Go.RowKit
attribute [local irreducible] AT bT AX AO Av Kt bk ej DA cX
def dL (f : aJ) (G : List Int) (ig : Bool) (z : Int) : Option Int := if (ig && ql f z) = true then none else ec G z
def qO (f : aJ) (G : List Int) (ig : Bool) (s : List Int) : List Int := s.filterMap (dL f G ig)
def cR (f : aJ) (G : List Int) (ig : Bool) (l : List (List Int)) : List (List Int) := l.map (qO f G ig)
def fq (f : aJ) (G : List Int) (l : b9) (r : bV) : List Int := if l.Kind = 1 ∨ l.Kind = 5 then ((r.Out.zip (r.In.headD [])).filter fun x => (dL f G l.Ignore x.2).isSome).map (·.1) else r.Out
def ki (K : List Int) (c : fF) : Option fF := (ec K c.Lookup).map fun n => { c with Lookup := n }
def iz (l : List (List Int)) : Bool := l.any fun s => decide (s.length = 0)
def fI (f : aJ) (G K : List Int) (l : b9) (r : bV) : Option bV :=
 if (iz (cR f G l.Ignore r.Back) = true ∨ iz (cR f G l.Ignore r.In) = true ∨ iz (cR f G l.Ignore r.Ahead) = true) ∨ r.In = [] then none
 else some { Back := cR f G l.Ignore r.Back, In := cR f G l.Ignore r.In, Ahead := cR f G l.Ignore r.Ahead, Out := (fq f G l r).filterMap (ec G), Calls := r.Calls.filterMap (ki K), X := r.X }
def g8 (f : aJ) (G K : List Int) (l : b9) : b9 := { l with Rules := l.Rules.filterMap (fI f G K l) }
def dG (G rs : List Int) (c : dO) : Option dO := if c.Rune ∈ rs then (ec G c.Glyph).map fun n => { c with Glyph := n } else none
def g7 (K : List Int) (fs : List ByteArray) (t : bL) : Option bL := if gc fs t.Name = true then some { t with Lookups := t.Lookups.filterMap (ec K) } else none
def pC (f : aJ) (rs : List Int) (fs : List ByteArray) (G K : List Int) : aJ :=
 { f with
  Glyphs := G.filterMap fun n => f.Glyphs[n.toNat]?.map (dC G)
  Chars := f.Chars.filterMap (dG G rs)
  Lookups := K.filterMap fun n => f.Lookups[n.toNat]?.map (g8 f G K)
  Features := f.Features.filterMap (g7 K fs) }
end Go.Proofs.YtjjpkibjffmceaaGreat
namespace Go.Proofs.YtjjpkibjffmceaaGreat
open Go.RowKit Go.MapKept
theorem jk {L : AL} : eh [] L := fun q hq => by cases hq
theorem i6 {b : Nat} {x : AB} {gs : KpL} {L : AL} (i : Nat) (hL : L[i]? = some (b, x)) (h : eh gs L) : eh (.blk b x :: gs) L := fun p hp => by
 rcases List.mem_cons.1 hp with rfl | hp
 ·exact show (b, x) ∈ L from Gx hL
 ·exact h p hp
section
variable {P : Program} {tt : TT} {l : List Oper} {fr : ca} {fin : jz} {sk : lm} {acc : ca} {L : AL} {k : Nat} {dd : Option Tmp} {ty t t' : TypeId} {pos : String} {af : Array Edge} {g : Option (Nat × Bool)} {x y z : Operand} {u : AV}
theorem pX (i : Nat) (v0 : Value) (a : AV) {b kt et : Nat} {kd : TypeDesc} {q : Value} {m : Value → Option AV} (ht : P.underlying t = some (.map kt et)) (hkt : P.underlying kt = some kd) (hx : bH (cM l.toArray acc fr af.toList) x = some (.sc (.map (some b)))) (hy : bH (cM l.toArray acc fr af.toList) y = some (.sc q)) (hk : IsKey kd q) (hi : fin.gs[i]? = some (.blk b (cj kd m))) (hK : eh fin.gs L) (hz : ju P et v0 = true) (ha : ∀ σ v, VR σ ((m q).getD (.sc v0)) v → VR σ a v) (hg : iC ⟨dd, .lookup t x y false, ty, pos, af, g⟩ acc) (h : DA P l fr fin sk ((k, a) :: acc) L) :
  cX P l fr fin k .k ⟨dd, .lookup t x y false, ty, pos, af, g⟩ sk acc L :=
 y0 hK hg (fun B L' hL' => by
  have hm : (b, cj kd m) ∈ L' := hL' _ (Gx hi)
  obtain ⟨j, hj⟩ := List.mem_iff_getElem?.1 hm
  exact (iF j ht hkt hx hy hk hj (fa hz) fun _ => .sc _).as ha) h
theorem ot (ok : eW P tt) (i : Nat) {b q n : Nat} {cs ys : List AV} {e : TypeId} (ht : Dv tt t = some n) (hx : bH (cM l.toArray acc fr af.toList) x = some (.sc (.pointer (some ⟨b, q, none⟩)))) (hy : bH (cM l.toArray acc fr af.toList) y = some u) (hu : u.cells = some ys) (hL : L[i]? = some (b, .box cs e)) (hn : Nat.beq ys.length n = true) (hk : Nat.ble (q + n) cs.length = true) (hK : eh fin.gs (fS L i (.box (gg cs q ys) e))) (hg : iC ⟨dd, .store t x y, ty, pos, af, g⟩ acc) (h : ∀ c, DA P l fr fin sk ((k, c) :: acc) (fS L i (.box (gg cs q ys) e))) :
  cX P l fr fin k .f ⟨dd, .store t x y, ty, pos, af, g⟩ sk acc L :=
 qS (fun c L' h1 _ => by subst h1; exact hK) hg (fun _ => lx i (md ok ht) hx hy hu hL hn hk) fun c L' h1 => by subst h1; exact h c
end
section
variable {P : Program} {l : List Oper} {fr : ca} {fin : jz} {sk : lm} {acc : ca} {L : AL} {k j : Nat} {dd : Option Tmp} {op : Op} {ty : TypeId} {pos : String} {af : Array Edge} {b want : Bool}
theorem Cz (hj : nF acc j = .sc (.bool b)) (hb : (b == want) = false) (hK : eh fin.gs L) (hn : DA P l fr fin sk ((k, .sc undef) :: acc) L) : cX P l fr fin k .k ⟨dd, op, ty, pos, af, some (j, want)⟩ sk acc L := by
 intro ho
 obtain ⟨pl, hpl⟩ := hn
 exact ⟨.val k (.sc undef) pl, .k, sk, _, rfl, ho, .inr (.inr ⟨rfl, hK, fun L _ => .inr ⟨⟨_, hj, fun e => by injection e with e; subst e; simp at hb⟩, rfl, rfl⟩⟩), hpl⟩
end
end Go.Proofs.YtjjpkibjffmceaaGreat
namespace Go.Proofs.YtjjpkibjffmceaaGreat
open Go.RowKit
attribute [local irreducible] AT bT AX AO Av Kt bk ej DA cX
open Go.MapKept
theorem Eo (S : List Int) (z : Int) : ((ea S (.int .i64 z)).getD (.sc (.bool false))) = cF (decide (z ∈ S)) := by
 unfold ea
 simp only
 by_cases h : z ∈ S
 ·rw [if_pos (by simpa using h), decide_eq_true h]; rfl
 ·rw [if_neg (by simpa using h), decide_eq_false h]; rfl
set_option maxHeartbeats 2000000 in
theorem xS (f : aJ) (mg ml ma : Nat) (G K rs : List Int) (c : dO) : AC Tryz.prog 74 [.agg (ci c), .iptr (cK f mg ml), .iptr [.sc (.map (some ma))]] (kL mg ml G K ++ [(ma, cj KJ (ea rs))]) fun r L => (∃ y b, r = .tup [.agg (ci y), cF b] ∧ dG G rs c = if b = true then some y else none) ∧ L = kL mg ml G K ++ [(ma, cj KJ (ea rs))] := by
 refine aP Tryz.func74 rfl Tryz.ntmps74 rfl fun B => ?_
 repeat' (first|refine ah ?_|refine a7 ?_|refine a8 ?_|refine aa ?_|refine ae a6 rfl rfl ?_|refine be ?_|refine b5 a6 fun _=>?_|fail)
 rename_i b
 refine b7 (kL mg ml G K) [(ma, cj KJ (ea rs)), (b, _)] (iu f mg ml G K c.Glyph) rfl rfl (List.perm_append_singleton _ _).symm rfl fun r L1 ⟨hc, hL⟩ => ?_
 subst hc; subst hL
 have hR : ∀ (σ : cw) (v : Value), VR σ ((ea rs (.int .i64 c.Rune)).getD (.sc (.bool false))) v → VR σ (cF (decide (c.Rune ∈ rs))) v := fun σ v h => by rw [Eo] at h; exact h
 cases hp : ec G c.Glyph with
 | none =>
  dsimp only [Option.getD_none, Option.isSome_none]
  repeat' (first|refine ah ?_|refine a8 ?_|refine aa ?_|refine ae a6 rfl rfl ?_)
  refine dg [.blk ma (cj KJ (ea rs))] 12 [(0, .v), (1, .v), (2, .v), (3, .v), (4, .v), (5, .v), (6, .v), (7, .v), (8, .v), (9, .k), (10, .v), (11, .f)] none ?_ trivial rfl (by kernel_rfl) (by kernel_rfl) (by kernel_rfl) mixed (by kernel_rfl) rfl
  repeat' (first|refine aE ?_|refine aZ a6 ?_|refine kD rfl rfl ?_)
  refine Cz rfl rfl (i6 2 rfl jk) ?_
  repeat' (first|refine aE ?_|refine aZ a6 ?_|fail)
  refine ot a6 3 rfl rfl rfl rfl rfl rfl rfl (i6 2 rfl jk) (by first | trivial | rfl) fun _ => ?_
  repeat' (first|fail)
  refine br [4, 25] rfl rfl ?_
  repeat' (first|refine ar ?_|refine a8 ?_|refine aa ?_|refine ae a6 rfl rfl ?_)
  refine eC (cs := [.agg (ci { c with Glyph := 0 }), cF false]) (kL mg ml G K ++ [(ma, cj KJ (ea rs))]) ⟨⟨_, 3, _, _, rfl, rfl, .inr ⟨cY a6 rfl, rfl⟩⟩, rfl, trivial⟩ (List.sublist_append_left (kL mg ml G K ++ [(ma, cj KJ (ea rs))]) [_]) ⟨⟨{ c with Glyph := 0 }, _, rfl, ?_⟩, rfl⟩
  unfold dG
  rw [hp]
  by_cases hr : c.Rune ∈ rs <;> simp [hr]
 | some n =>
  dsimp only [Option.getD_some, Option.isSome_some]
  repeat' (first|refine ah ?_|refine a8 ?_|refine aa ?_|refine ae a6 rfl rfl ?_)
  refine dg [.blk ma (cj KJ (ea rs))] 12 [(0, .v), (1, .v), (2, .v), (3, .v), (4, .v), (5, .v), (6, .v), (7, .v), (8, .v), (9, .k), (10, .v), (11, .f)] none ?_ trivial rfl (by kernel_rfl) (by kernel_rfl) (by kernel_rfl) mixed (by kernel_rfl) rfl
  repeat' (first|refine aE ?_|refine aZ a6 ?_|fail)
  refine pX 0 (.bool false) (cF (decide (c.Rune ∈ rs))) Tryz.underlying120 Tryz.underlying3 rfl rfl rfl rfl (i6 2 rfl jk) (by kernel_rfl) hR rfl ?_
  repeat' (first|refine aE ?_|refine aZ a6 ?_|fail)
  refine ot a6 3 rfl rfl rfl rfl rfl rfl rfl (i6 2 rfl jk) (by first | trivial | rfl) fun _ => ?_
  repeat' (first|fail)
  refine br [4, 25] rfl rfl ?_
  repeat' (first|refine ar ?_|refine a8 ?_|refine aa ?_|refine ae a6 rfl rfl ?_)
  refine eC (cs := [.agg (ci { c with Glyph := n }), cF (decide (c.Rune ∈ rs))]) (kL mg ml G K ++ [(ma, cj KJ (ea rs))]) ⟨⟨_, 3, _, _, rfl, rfl, .inr ⟨cY a6 rfl, rfl⟩⟩, rfl, trivial⟩ (List.sublist_append_left (kL mg ml G K ++ [(ma, cj KJ (ea rs))]) [_]) ⟨⟨{ c with Glyph := n }, _, rfl, ?_⟩, rfl⟩
  unfold dG
  rw [hp]
  by_cases hr : c.Rune ∈ rs <;> simp [hr]
set_option maxHeartbeats 2000000 in
theorem xU (f : aJ) (hc : f.Chars.length ≤ 1000000) (mg ml : Nat) (G K rs : List Int) : AC Tryz.prog 28 [.agg (cK f mg ml), .imm 1 (aU rs)] (kL mg ml G K) fun c L => c = .imm 2 ((f.Chars.filterMap (dG G rs)).map ci) ∧ L = kL mg ml G K := by
 refine aP Tryz.func28 rfl Tryz.ntmps28 rfl fun B => ?_
 have hil := aQ rs
 refine cz 1 rfl rfl fun hlen => ?_
 repeat' (first|refine ah ?_|refine a7 ?_|refine a8 ?_|refine aa ?_|refine ae a6 rfl rfl ?_|refine be ?_|fail)
 refine eN KJ fun ma => ?_
 rw [p9]
 repeat' (first|refine ah ?_|refine a7 ?_|refine aq ?_|refine a8 ?_|refine aa ?_|refine ae a6 rfl rfl ?_|(apply aH; first|refine ai 5 a6 0 rfl rfl rfl rfl rfl rfl rfl rfl ?_|refine ai 5 a6 1 rfl rfl rfl rfl rfl rfl rfl rfl ?_|refine ai 5 a6 2 rfl rfl rfl rfl rfl rfl rfl rfl ?_|refine aj a6 0 rfl rfl rfl rfl rfl rfl rfl ?_|refine aj a6 1 rfl rfl rfl rfl rfl rfl rfl ?_|refine aj a6 2 rfl rfl rfl rfl rfl rfl rfl ?_|refine aj a6 3 rfl rfl rfl rfl rfl rfl rfl ?_|fail)|refine b5 a6 fun _=>?_|fail)
 refine aN [2, 5, 9, 10] (α := Nat) (fun i => [(11, aM i)]) (fun i => i ≤ rs.length) (fun i => (ma, cj KJ (ea (rs.take i))) :: kL mg ml G K) (fun i => rs.length - i) 0 rfl ⟨rfl, trivial⟩ (Nat.zero_le _) (fun _ _ h => h) ?_
 intro i hi
 try dsimp only [Gr, Gq, Gp, Gj]
 repeat' (first|refine ah ?_|refine a7 ?_|refine a8 ?_|refine aa ?_|refine ae a6 rfl rfl ?_)
 refine aw rfl (fun h => ?_) (fun h => ?_)
 ·have hil : i < rs.length := by have := Gz h; simp [aQ] at this; omega
  obtain ⟨z, hz⟩ : ∃ z, rs[i]? = some z := ⟨_, Ds hil⟩
  have hzg := bN hz
  repeat' (first|refine ah ?_|refine a7 ?_|refine aq ?_|refine au ?_|refine a8 ?_|refine aa ?_|refine ae a6 rfl rfl ?_|(apply aY; first|refine aX a6 ?_|refine aS a6 ?_)|fail)
  refine dD 0 (ea (rs.take (i + 1))) Tryz.underlying120 Tryz.underlying3 rfl rfl rfl rfl rfl (p8 hz) (nv hz) ?_
  repeat' (first|refine a7 ?_|refine a8 ?_|refine aI ?_|refine aa ?_|refine ae a6 rfl rfl ?_|(apply aW; refine aV ?_)|fail)
  exact aC (i + 1) rfl ⟨by rw [Gw]; rfl, trivial⟩ (by omega) (by omega) (fun _ _ h => h)
 have hil : i = rs.length := by have := Gy h; simp [aQ] at this; omega
 subst hil
 rw [List.take_length]
 clear h hi hlen
 refine bK (aK (List.perm_append_comm (l₁ := [_]))) ?_
 repeat' (first|refine ah ?_|refine a7 ?_|refine aR ?_|refine a8 ?_|refine av ?_|refine aB ?_|refine ay ?_|refine ae a6 rfl rfl ?_)
 have he := CF (u := .fn 74 [.iptr (cK f mg ml), .iptr [.sc (.map (some ma))]]) rfl f.Chars hc (dG G rs) (kL mg ml G K ++ [(ma, cj KJ (ea rs))]) fun c _ => .fn (xS f mg ml ma G K rs c)
 refine b7 (kL mg ml G K ++ [(ma, cj KJ (ea rs))]) [] he rfl rfl (by rw [List.append_nil]; exact Gm _) rfl fun c L1 ⟨hc, hL⟩ => ?_
 subst hc; subst hL
 repeat' (first|refine ar ?_|refine a8 ?_|refine aa ?_|refine ae a6 rfl rfl ?_)
 refine cO (L' := kL mg ml G K) (by rw [List.append_nil]; exact List.sublist_append_left ..) ?_
 exact aA rfl rfl ⟨rfl, rfl⟩
def iG (l : List ByteArray) : Value → Option AV
 | .string s => if gc l s = true then some (cF true) else none
 | _ => none
theorem vQ : (fun _ => none) = iG [] := by
 funext v
 unfold iG
 split <;> simp [gc]
theorem vP {l : List ByteArray} {i : Nat} {z : ByteArray} (h : l[i]? = some z) : iG (l.take (i + 1)) (.string z) = some (cF true) := by
 unfold iG
 simp only
 rw [if_pos (by unfold gc; rw [List.take_add_one, h]; simp)]
theorem tF {l : List ByteArray} {i : Nat} {z : ByteArray} (h : l[i]? = some z) (q : Value) (hq : q ≠ .string z) : iG (l.take (i + 1)) q = iG (l.take i) q := by
 unfold iG
 split
 ·rename_i t
  have hne : z ≠ t := fun e => hq (by rw [e])
  unfold gc
  rw [List.take_add_one, h, Option.toList_some, List.any_append]
  have hd : decide (z = t) = false := decide_eq_false hne
  rw [List.any_cons, List.any_nil, hd, Bool.or_false, Bool.or_false]
 ·rfl
theorem EM (S : List ByteArray) (z : ByteArray) : ((iG S (.string z)).getD (.sc (.bool false))) = cF (gc S z) := by
 unfold iG
 simp only
 cases h : gc S z <;> rfl
set_option maxHeartbeats 2000000 in
theorem y6 (f : aJ) (mg ml ma : Nat) (G K : List Int) (fs : List ByteArray) (t : bL) (ht : t.Lookups.length ≤ 1000000) : AC Tryz.prog 79 [.agg (bw t), .iptr (cK f mg ml), .iptr [.sc (.map (some ma))]] (kL mg ml G K ++ [(ma, cj .string (iG fs))]) fun r L => (∃ y b, r = .tup [.agg (bw y), cF b] ∧ g7 K fs t = if b = true then some y else none) ∧ L = kL mg ml G K ++ [(ma, cj .string (iG fs))] := by
 refine aP Tryz.func79 rfl Tryz.ntmps79 rfl fun B => ?_
 have hR : ∀ (σ : cw) (v : Value), VR σ ((iG fs (.string t.Name)).getD (.sc (.bool false))) v → VR σ (cF (gc fs t.Name)) v := fun σ v h => by rw [EM] at h; exact h
 repeat' (first|refine ah ?_|refine a7 ?_|refine a8 ?_|refine aa ?_|refine ae a6 rfl rfl ?_|refine be ?_|refine b5 a6 fun _=>?_|fail)
 rename_i b
 refine dg [.blk ma (cj .string (iG fs))] 13 [(0, .v), (1, .v), (2, .v), (3, .v), (4, .v), (5, .v), (8, .v), (9, .v), (10, .v), (11, .k), (6, .f), (7, .v), (12, .f)] none ?_ trivial rfl (by kernel_rfl) (by kernel_rfl) (by kernel_rfl) mixed (by kernel_rfl) rfl
 repeat' (first|refine aE ?_|refine aZ a6 ?_|fail)
 refine pX 0 (.bool false) (cF (gc fs t.Name)) Tryz.underlying132 Tryz.underlying9 rfl rfl trivial rfl (i6 3 rfl jk) (by kernel_rfl) hR trivial ?_
 repeat' (first|refine aE ?_|fail)
 have he := tU (u := .fnB 81 [.agg (cK f mg ml)] []) rfl t.Lookups ht (ec K) (kL mg ml G K) fun z _ => .fnB ((lS f mg ml G K z).mono fun c L ⟨h1, h2⟩ => ⟨⟨(ec K z).getD 0, (ec K z).isSome, h1, by cases ec K z <;> rfl⟩, h2⟩)
 refine v7 (kL mg ml G K) [(b, .box [.sc (.string ⟨#[]⟩), .sc (.slice none 0 0)] 83), (ma, cj .string (iG fs))] he rfl rfl (List.perm_middle (l₁ := kL mg ml G K) (l₂ := [(ma, cj .string (iG fs))])).symm (by first | trivial | rfl) (fun c L1 ⟨_, hL⟩ _ => by subst hL; exact i6 3 rfl jk) fun c L1 ⟨hc, hL⟩ => ?_
 subst hc; subst hL
 repeat' (first|refine aE ?_|refine aZ a6 ?_|fail)
 refine ot a6 2 rfl rfl rfl rfl rfl rfl rfl (i6 3 rfl jk) (by first | trivial | rfl) fun _ => ?_
 repeat' (first|fail)
 refine br [4, 17] rfl rfl ?_
 repeat' (first|refine ar ?_|refine a8 ?_|refine aa ?_|refine ae a6 rfl rfl ?_)
 refine eC (cs := [.agg (bw { t with Lookups := t.Lookups.filterMap (ec K) }), cF (gc fs t.Name)]) (kL mg ml G K ++ [(ma, cj .string (iG fs))]) ⟨⟨_, 2, _, _, rfl, rfl, .inr ⟨cY a6 rfl, rfl⟩⟩, rfl, trivial⟩ ?_ ⟨⟨{ t with Lookups := t.Lookups.filterMap (ec K) }, _, rfl, ?_⟩, rfl⟩
 ·exact List.Sublist.cons_cons _ (List.Sublist.cons_cons _ (List.Sublist.cons _ (List.Sublist.refl _)))
 ·unfold g7
  cases gc fs t.Name <;> rfl
set_option maxHeartbeats 2000000 in
theorem sj (f : aJ) (hc : f.Features.length ≤ 1000000) (ht : ∀ t ∈ f.Features, t.Lookups.length ≤ 1000000) (mg ml : Nat) (G K : List Int) (fs : List ByteArray) : AC Tryz.prog 40 [.agg (cK f mg ml), .imm 1 (gi fs)] (kL mg ml G K) fun c L => c = .imm 2 ((f.Features.filterMap (g7 K fs)).map bw) ∧ L = kL mg ml G K := by
 refine aP Tryz.func40 rfl Tryz.ntmps40 rfl fun B => ?_
 have hil := fR fs
 refine cz 1 rfl rfl fun hlen => ?_
 repeat' (first|refine ah ?_|refine a7 ?_|refine a8 ?_|refine aa ?_|refine ae a6 rfl rfl ?_|refine be ?_|fail)
 refine eN .string fun ma => ?_
 rw [vQ]
 repeat' (first|refine ah ?_|refine a7 ?_|refine aq ?_|refine a8 ?_|refine aa ?_|refine ae a6 rfl rfl ?_|(apply aH; first|refine ai 5 a6 0 rfl rfl rfl rfl rfl rfl rfl rfl ?_|refine ai 5 a6 1 rfl rfl rfl rfl rfl rfl rfl rfl ?_|refine ai 5 a6 2 rfl rfl rfl rfl rfl rfl rfl rfl ?_|refine aj a6 0 rfl rfl rfl rfl rfl rfl rfl ?_|refine aj a6 1 rfl rfl rfl rfl rfl rfl rfl ?_|refine aj a6 2 rfl rfl rfl rfl rfl rfl rfl ?_|refine aj a6 3 rfl rfl rfl rfl rfl rfl rfl ?_|fail)|refine b5 a6 fun _=>?_|fail)
 refine aN [2, 5, 9, 10] (α := Nat) (fun i => [(11, aM i)]) (fun i => i ≤ fs.length) (fun i => (ma, cj .string (iG (fs.take i))) :: kL mg ml G K) (fun i => fs.length - i) 0 rfl ⟨rfl, trivial⟩ (Nat.zero_le _) (fun _ _ h => h) ?_
 intro i hi
 try dsimp only [Gr, Gq, Gp, Gj]
 repeat' (first|refine ah ?_|refine a7 ?_|refine a8 ?_|refine aa ?_|refine ae a6 rfl rfl ?_)
 refine aw rfl (fun h => ?_) (fun h => ?_)
 ·have hil : i < fs.length := by have := Gz h; simp [fR] at this; omega
  obtain ⟨z, hz⟩ : ∃ z, fs[i]? = some z := ⟨_, Ds hil⟩
  have hzg : (gi fs)[i]? = some [kf z] := by unfold gi; rw [List.getElem?_map, hz]; rfl
  repeat' (first|refine ah ?_|refine a7 ?_|refine aq ?_|refine au ?_|refine a8 ?_|refine aa ?_|refine ae a6 rfl rfl ?_|(apply aY; first|refine aX a6 ?_|refine aS a6 ?_)|fail)
  refine dD 0 (iG (fs.take (i + 1))) Tryz.underlying132 Tryz.underlying9 rfl rfl trivial rfl rfl (vP hz) (tF hz) ?_
  repeat' (first|refine a7 ?_|refine a8 ?_|refine aI ?_|refine aa ?_|refine ae a6 rfl rfl ?_|(apply aW; refine aV ?_)|fail)
  exact aC (i + 1) rfl ⟨by rw [Gw]; rfl, trivial⟩ (by omega) (by omega) (fun _ _ h => h)
 have hil : i = fs.length := by have := Gy h; simp [fR] at this; omega
 subst hil
 rw [List.take_length]
 clear h hi hlen
 refine bK (aK (List.perm_append_comm (l₁ := [_]))) ?_
 repeat' (first|refine ah ?_|refine a7 ?_|refine aR ?_|refine a8 ?_|refine av ?_|refine aB ?_|refine ay ?_|refine ae a6 rfl rfl ?_)
 have he := CH (u := .fn 79 [.iptr (cK f mg ml), .iptr [.sc (.map (some ma))]]) rfl f.Features hc (g7 K fs) (kL mg ml G K ++ [(ma, cj .string (iG fs))]) fun t htm => .fn (y6 f mg ml ma G K fs t (ht t htm))
 refine b7 (kL mg ml G K ++ [(ma, cj .string (iG fs))]) [] he rfl rfl (by rw [List.append_nil]; exact Gm _) rfl fun c L1 ⟨hc, hL⟩ => ?_
 subst hc; subst hL
 repeat' (first|refine ar ?_|refine a8 ?_|refine aa ?_|refine ae a6 rfl rfl ?_)
 refine cO (L' := kL mg ml G K) (by rw [List.append_nil]; exact List.sublist_append_left ..) ?_
 exact aA rfl rfl ⟨rfl, rfl⟩
section
variable {P : Program} {r : Option Nat} {ops : Array Oper} {Q : Exit → Act → World → Prop} {nt : Nat} {D : List Deferred} {fr : ca} {B : Bs} {L : AL} {rest : List Oper} {d : Nat} {ty t : TypeId} {pos : String} {af : Array Edge} {x y z : Operand} {u : AV} {cd : Code}
theorem iL {f : FuncId} {args : Array Operand} {ts : Array TypeId} {cs caps : List AV} {v : AV} [bD P f] (hc : bO P f (cs ++ caps) v) (hx : bH fr x = some u) (hu : iU u = some (f, caps)) (hv : ek fr args.toList = some cs) (hn : Oper.noDefer ⟨some d, .call ⟨.value x, args, ts⟩, ty, pos, af, none⟩ = true) (hd : Nat.ble nt d = false) (h : bT P r ops Q nt D rest ((d, v) :: fr) B L) :
  bT P r ops Q nt D (⟨some d, .call ⟨.value x, args, ts⟩, ty, pos, af, none⟩ :: rest) fr B L :=
 cV [] L hc hx hu hv (Gm _) hn hd fun c L1 hc => by
  have hc' : c = v := hc
  subst hc'
  exact aO (bY (List.sublist_append_right ..)) h
theorem Ac (t : Nat) {u : AV} {s : Nat} {l : List (List AV)} (hl : cb fr t = some u) (hu : il u = some (s, l)) (h : l.length ≤ 9223372036854775807 → bT P r ops Q nt D rest fr B L) : bT P r ops Q nt D rest fr B L :=
 Ab (fun σ a w ha _ => (yn (ha.look t u hl) hu).1) h
end
def sx (t : bL) (i : Nat) (l : Int) : Bool := match i with | 0 => false | j + 1 => match t.Lookups[j]? with | some b => decide (l ≤ b) | none => false
def nM (f : aJ) (t : bL) (i : Nat) (l : Int) : Int := dX (decide (l < 0 ∨ l ≥ f.Lookups.length) || sx t i l) 43
set_option maxHeartbeats 1000000 in
theorem wl (f : aJ) (t : bL) (i : Nat) (l : Int) (hl : t.Lookups[i]? = some l) (hn : t.Lookups.length ≤ 9223372036854775807) : bO Tryz.prog 189 [aM i, aM l, .iptr (bZ f), .iptr (bw t)] (aM (nM f t i l)) := by
 refine aP Tryz.func189 rfl Tryz.ntmps189 rfl fun B => ?_
 have hil := (Gn hl).1
 unfold nM
 cases i with
 | zero =>
  repeat' (first|refine ah ?_|refine a7 ?_|refine a8 ?_|refine aa ?_|refine ae a6 rfl rfl ?_)
  refine cZ (t := 7) [] (l < 0 ∨ l ≥ f.Lookups.length) rfl (fun Q' K => ?_) ?_
  ·repeat' (first|refine aa ?_|refine ae a6 rfl rfl ?_|refine aG rfl rfl ?_|refine aL rfl rfl rfl rfl ?_|refine dm rfl rfl rfl ?_|refine bc rfl rfl rfl (fun _ => ?_) (fun _ => ?_))
   all_goals exact K _ _ rfl rfl (by clear K; simp_all <;> omega)
  repeat' (first|refine ah ?_|refine a7 ?_|refine ar ?_|refine a8 ?_|refine aa ?_|refine ae a6 rfl rfl ?_|(apply bA;refine bh ?_)|fail)
  refine aA rfl rfl ?_
  simp [sx]
 | succ j =>
  obtain ⟨b, hb⟩ : ∃ b, t.Lookups[j]? = some b := ⟨_, Ds (by omega)⟩
  have hbg : (aU t.Lookups)[(((j + 1 : Nat) : Int) - 1).toNat]? = some [aM b] := by rw [show (((j + 1 : Nat) : Int) - 1).toNat = j by omega]; exact bN hb
  have hlt : sx t (j + 1) l = decide (l ≤ b) := by simp [sx, hb]
  have hpos : decide (0 < ((j + 1 : Nat) : Int)) = true := decide_eq_true (by omega)
  rw [hlt]
  repeat' (first|refine ah ?_|refine a7 ?_|refine a8 ?_|refine aa ?_|refine ae a6 rfl rfl ?_)
  refine cZ (t := 7) [] ((l < 0 ∨ l ≥ f.Lookups.length) ∨ l ≤ b) rfl (fun Q' K => ?_) ?_
  ·repeat' (first|refine aa ?_|refine ae a6 rfl rfl ?_|refine aG rfl rfl ?_|refine aL rfl rfl rfl rfl ?_|refine dm rfl rfl rfl ?_|(apply aW; refine aV ?_)|(apply aY; first|refine aX a6 ?_|refine aS a6 ?_)|refine bc rfl rfl rfl (fun _ => ?_) (fun _ => ?_))
   all_goals exact K _ _ rfl rfl (by clear K; simp_all <;> omega)
  repeat' (first|refine ah ?_|refine a7 ?_|refine ar ?_|refine a8 ?_|refine aa ?_|refine ae a6 rfl rfl ?_|(apply bA;refine bh ?_)|fail)
  refine aA rfl rfl ?_
  rw [Bool.decide_or]
def sg (f : aJ) (t : bL) (name : Int) : Int := if name ≠ 0 then name else (da t.Lookups (nM f t)).1
theorem sh (f : aJ) (t : bL) (name : Int) : bO Tryz.prog 131 [cr f, .agg (bw t), aM name] (aM (sg f t name)) := by
 refine aP Tryz.func131 rfl Tryz.ntmps131 rfl fun B => ?_
 unfold sg
 repeat' (first|refine ah ?_|refine a7 ?_|refine a8 ?_|refine aa ?_|refine ae a6 rfl rfl ?_|refine be ?_|fail)
 refine aw rfl (fun h => ?_) (fun h => ?_)
 ·rw [if_pos (Gz h)]
  repeat' (first|refine ah ?_|refine a7 ?_|refine ar ?_|refine a8 ?_|refine aF ?_|refine aa ?_|refine ae a6 rfl rfl ?_)
  exact aA rfl rfl rfl
 rw [if_neg (Gy h)]
 repeat' (first|refine ah ?_|refine a7 ?_|refine au ?_|refine a8 ?_|refine ae a6 rfl rfl ?_)
 refine Ac 14 rfl rfl fun hlen => ?_
 rw [aQ] at hlen
 refine b7 [] [] (lE (u := .fn 189 [.iptr (bZ f), .iptr (bw t)]) (g := 189) rfl t.Lookups _ (fun _ _ => True) [] trivial (dk (fun i x hx => wl f t i x hx (by omega)))) rfl rfl (Gm _) rfl fun c L1 hc => ?_
 have hc : c = cq (da t.Lookups (nM f t)) := hc
 subst hc
 unfold cq
 repeat' (first|refine ah ?_|refine a7 ?_|refine ar ?_|refine a8 ?_|refine aa ?_|refine ae a6 rfl rfl ?_)
 exact aA rfl rfl rfl
instance (f : aJ) (t : bL) (name : Int) : AD Tryz.prog 131 [cr f, .agg (bw t), aM name] (aM (sg f t name)) := ⟨sh f t name⟩
def d9 (names : List ByteArray) (s : ByteArray) : Option Nat := names.findIdx? (fun x => decide (x = s))
def cL (names : List ByteArray) (v : Value) : Option AV := match v with
 | .string s => (d9 names s).map fun (n : Nat) => aM (n : Int)
 | _ => none
theorem jd {names : List ByteArray} {i : Nat} {s : ByteArray} (h : names[i]? = some s) (q : ByteArray) : d9 (names.take (i + 1)) q = match d9 (names.take i) q with | some n => some n | none => if s = q then some i else none := by
 unfold d9
 have hlt := (Gn h).1
 have hlen : (names.take i).length = i := by rw [List.length_take]; omega
 rw [List.take_add_one, h, Option.toList_some, List.findIdx?_append, hlen]
 cases List.findIdx? (fun x => decide (x = q)) (names.take i) with
 | some n => rfl
 | none =>
  by_cases e : s = q
  ·simp [e]
  ·simp [e]
theorem kY : cL [] = fun _ => none := by
 funext v
 cases v <;> rfl
theorem jK {names : List ByteArray} {s : ByteArray} : (cL names (.string s)).isSome = (d9 names s).isSome := by
 show (Option.map (fun n : Nat => aM (n : Int)) (d9 names s)).isSome = _
 cases d9 names s <;> rfl
theorem je {names : List ByteArray} {i : Nat} {s : ByteArray} (h : names[i]? = some s) (hk : (d9 (names.take i) s).isSome = true) : cL (names.take (i + 1)) = cL (names.take i) := by
 funext v
 cases v with
 | string q =>
  simp only [cL]
  rw [jd h]
  cases hq : d9 (names.take i) q with
  | some n => rfl
  | none =>
   by_cases e : s = q
   ·subst e; rw [hq] at hk; cases hk
   ·simp [e]
 | _ => rfl
theorem jJ {names : List ByteArray} {i : Nat} {s : ByteArray} (h : names[i]? = some s) (hk : (d9 (names.take i) s).isSome = false) : cL (names.take (i + 1)) (.string s) = some (aM i) := by
 simp only [cL]
 rw [jd h]
 cases hq : d9 (names.take i) s with
 | some n => rw [hq] at hk; cases hk
 | none => simp
theorem jh {names : List ByteArray} {i : Nat} {s : ByteArray} (h : names[i]? = some s) (q : Value) (hne : q ≠ .string s) : cL (names.take (i + 1)) q = cL (names.take i) q := by
 cases q with
 | string q =>
  have hne' : s ≠ q := fun e => hne (by rw [e])
  simp only [cL]
  rw [jd h]
  cases hq : d9 (names.take i) q with
  | some n => rfl
  | none => simp [hne']
 | _ => rfl
theorem oS (g : bf) : bO Tryz.prog 108 [.agg (bb g)] (kf g.Name) := by
 refine aP Tryz.func108 rfl Tryz.ntmps108 rfl fun B => ?_
 repeat' (first|refine ah ?_|refine a7 ?_|refine ar ?_|refine a8 ?_|refine aa ?_|refine ae a6 rfl rfl ?_|refine be ?_|fail)
 exact aA rfl rfl rfl
theorem oT (g : bL) : bO Tryz.prog 110 [.agg (bw g)] (kf g.Name) := by
 refine aP Tryz.func110 rfl Tryz.ntmps110 rfl fun B => ?_
 repeat' (first|refine ah ?_|refine a7 ?_|refine ar ?_|refine a8 ?_|refine aa ?_|refine ae a6 rfl rfl ?_|refine be ?_|fail)
 exact aA rfl rfl rfl
theorem oV (g : dY) : bO Tryz.prog 112 [.agg (cC g)] (kf g.Name) := by
 refine aP Tryz.func112 rfl Tryz.ntmps112 rfl fun B => ?_
 repeat' (first|refine ah ?_|refine a7 ?_|refine ar ?_|refine a8 ?_|refine aa ?_|refine ae a6 rfl rfl ?_|refine be ?_|fail)
 exact aA rfl rfl rfl
set_option maxHeartbeats 1000000 in
theorem yc (l : List bf) : AC Tryz.prog 107 [.imm 9 (l.map bb), .sc (.func (.func 108) #[] #[])] [] fun c L => ∃ m, c = .sc (.map (some m)) ∧ L = [(m, cj .string (cL (l.map bf.Name)))] := by
 refine aP Tryz.func107 rfl Tryz.ntmps107 rfl fun B => ?_
 refine cz 0 rfl rfl fun hlen => ?_
 rw [Gu] at hlen
 repeat' (first|refine ah ?_|refine a7 ?_|refine a8 ?_|refine aa ?_|refine ae a6 rfl rfl ?_)
 refine eN .string fun m => ?_
 repeat' (first|refine ah ?_|refine a7 ?_|refine aq ?_|refine a8 ?_|refine aa ?_|refine ae a6 rfl rfl ?_)
 refine aN [1, 5, 11, 12] (α := Nat) (fun i => [(13, aM i)]) (fun i => i ≤ l.length) (fun i => [(m, cj .string (cL ((l.map bf.Name).take i)))]) (fun i => l.length - i) 0 rfl ⟨rfl, trivial⟩ (Nat.zero_le _) (fun _ _ h => by rw [List.take_zero, kY]; exact h) fun i hi => ?_
 try dsimp only [Gr, Gq, Gp, Gj]
 repeat' (first|refine ah ?_|refine a7 ?_|refine a8 ?_|refine aa ?_|refine ae a6 rfl rfl ?_)
 refine aw rfl (fun h => ?_) (fun h => ?_)
 ·have hil : i < l.length := by have := Gz h; simp at this; omega
  obtain ⟨z, hz⟩ : ∃ z, l[i]? = some z := ⟨_, Ds hil⟩
  have hzg := bj (c := bb) hz
  have hzn : (l.map bf.Name)[i]? = some z.Name := by rw [List.getElem?_map, hz]; rfl
  repeat' (first|refine ah ?_|refine a7 ?_|refine aq ?_|refine au ?_|refine a8 ?_|refine aa ?_|refine ae a6 rfl rfl ?_|(apply aY; first|refine aX a6 ?_|refine aS a6 ?_)|(apply aH; first|refine ai 7 a6 0 rfl rfl rfl rfl rfl rfl rfl rfl ?_|refine ai 7 a6 1 rfl rfl rfl rfl rfl rfl rfl rfl ?_|refine ai 7 a6 2 rfl rfl rfl rfl rfl rfl rfl rfl ?_|refine aj a6 0 rfl rfl rfl rfl rfl rfl rfl ?_|refine aj a6 1 rfl rfl rfl rfl rfl rfl rfl ?_|refine aj a6 2 rfl rfl rfl rfl rfl rfl rfl ?_|refine aj a6 3 rfl rfl rfl rfl rfl rfl rfl ?_|fail)|refine b5 a6 fun _=>?_|fail)
  refine iL (cs := [.agg (bb z)]) (caps := []) (oS z) rfl rfl rfl rfl rfl ?_
  repeat' (first|fail)
  refine iM 0 (.int .i64 0) Tryz.underlying218 Tryz.underlying9 rfl rfl trivial rfl (by kernel_rfl) rfl ?_
  rw [jK]
  repeat' (first|refine ah ?_|refine a7 ?_|refine a8 ?_|refine aa ?_|refine ae a6 rfl rfl ?_)
  refine aw rfl (fun h2 => ?_) (fun h2 => ?_)
  ·have h2' : (d9 ((l.map bf.Name).take i) z.Name).isSome = false := by simpa using h2
   repeat' (first|refine a7 ?_|refine ae a6 rfl rfl ?_)
   refine iL (cs := [.agg (bb z)]) (caps := []) (oS z) rfl rfl rfl rfl rfl ?_
   repeat' (first|refine ae a6 rfl rfl ?_)
   refine dD 0 (cL ((l.map bf.Name).take (i + 1))) Tryz.underlying218 Tryz.underlying9 rfl rfl trivial rfl rfl (jJ hzn h2') (jh hzn) ?_
   repeat' (first|refine a7 ?_|refine a8 ?_|refine aI ?_|refine aa ?_|refine ae a6 rfl rfl ?_|(apply aW; refine aV ?_)|fail)
   exact aC (i + 1) rfl ⟨by rw [Gw]; rfl, trivial⟩ (by omega) (by omega) (fun _ _ h => h)
  ·have h2' : (d9 ((l.map bf.Name).take i) z.Name).isSome = true := by simpa using h2
   repeat' (first|refine a7 ?_|refine au ?_|refine a8 ?_|refine aI ?_|refine aa ?_|refine ae a6 rfl rfl ?_|(apply aW; refine aV ?_)|fail)
   exact aC (i + 1) rfl ⟨by rw [Gw]; rfl, trivial⟩ (by omega) (by omega) (fun _ _ h => by rw [je hzn h2']; exact h)
 ·have hil : i = l.length := by have := Gy h; simp at this; omega
  subst hil
  rw [List.take_of_length_le (by simp)]
  repeat' (first|refine ah ?_|refine a7 ?_|refine ar ?_|refine aR ?_|refine a8 ?_|refine av ?_|refine aB ?_|refine ay ?_|refine aa ?_|refine ae a6 rfl rfl ?_)
  exact aA rfl rfl ⟨_, rfl, rfl⟩
set_option maxHeartbeats 1000000 in
theorem yd (l : List bL) : AC Tryz.prog 109 [.imm 2 (l.map bw), .sc (.func (.func 110) #[] #[])] [] fun c L => ∃ m, c = .sc (.map (some m)) ∧ L = [(m, cj .string (cL (l.map bL.Name)))] := by
 refine aP Tryz.func109 rfl Tryz.ntmps109 rfl fun B => ?_
 refine cz 0 rfl rfl fun hlen => ?_
 rw [Gu] at hlen
 repeat' (first|refine ah ?_|refine a7 ?_|refine a8 ?_|refine aa ?_|refine ae a6 rfl rfl ?_)
 refine eN .string fun m => ?_
 repeat' (first|refine ah ?_|refine a7 ?_|refine aq ?_|refine a8 ?_|refine aa ?_|refine ae a6 rfl rfl ?_)
 refine aN [1, 5, 11, 12] (α := Nat) (fun i => [(13, aM i)]) (fun i => i ≤ l.length) (fun i => [(m, cj .string (cL ((l.map bL.Name).take i)))]) (fun i => l.length - i) 0 rfl ⟨rfl, trivial⟩ (Nat.zero_le _) (fun _ _ h => by rw [List.take_zero, kY]; exact h) fun i hi => ?_
 try dsimp only [Gr, Gq, Gp, Gj]
 repeat' (first|refine ah ?_|refine a7 ?_|refine a8 ?_|refine aa ?_|refine ae a6 rfl rfl ?_)
 refine aw rfl (fun h => ?_) (fun h => ?_)
 ·have hil : i < l.length := by have := Gz h; simp at this; omega
  obtain ⟨z, hz⟩ : ∃ z, l[i]? = some z := ⟨_, Ds hil⟩
  have hzg := bj (c := bw) hz
  have hzn : (l.map bL.Name)[i]? = some z.Name := by rw [List.getElem?_map, hz]; rfl
  repeat' (first|refine ah ?_|refine a7 ?_|refine aq ?_|refine au ?_|refine a8 ?_|refine aa ?_|refine ae a6 rfl rfl ?_|(apply aY; first|refine aX a6 ?_|refine aS a6 ?_)|(apply aH; first|refine ai 7 a6 0 rfl rfl rfl rfl rfl rfl rfl rfl ?_|refine ai 7 a6 1 rfl rfl rfl rfl rfl rfl rfl rfl ?_|refine ai 7 a6 2 rfl rfl rfl rfl rfl rfl rfl rfl ?_|refine aj a6 0 rfl rfl rfl rfl rfl rfl rfl ?_|refine aj a6 1 rfl rfl rfl rfl rfl rfl rfl ?_|refine aj a6 2 rfl rfl rfl rfl rfl rfl rfl ?_|refine aj a6 3 rfl rfl rfl rfl rfl rfl rfl ?_|fail)|refine b5 a6 fun _=>?_|fail)
  refine iL (cs := [.agg (bw z)]) (caps := []) (oT z) rfl rfl rfl rfl rfl ?_
  repeat' (first|fail)
  refine iM 0 (.int .i64 0) Tryz.underlying218 Tryz.underlying9 rfl rfl trivial rfl (by kernel_rfl) rfl ?_
  rw [jK]
  repeat' (first|refine ah ?_|refine a7 ?_|refine a8 ?_|refine aa ?_|refine ae a6 rfl rfl ?_)
  refine aw rfl (fun h2 => ?_) (fun h2 => ?_)
  ·have h2' : (d9 ((l.map bL.Name).take i) z.Name).isSome = false := by simpa using h2
   repeat' (first|refine a7 ?_|refine ae a6 rfl rfl ?_)
   refine iL (cs := [.agg (bw z)]) (caps := []) (oT z) rfl rfl rfl rfl rfl ?_
   repeat' (first|refine ae a6 rfl rfl ?_)
   refine dD 0 (cL ((l.map bL.Name).take (i + 1))) Tryz.underlying218 Tryz.underlying9 rfl rfl trivial rfl rfl (jJ hzn h2') (jh hzn) ?_
   repeat' (first|refine a7 ?_|refine a8 ?_|refine aI ?_|refine aa ?_|refine ae a6 rfl rfl ?_|(apply aW; refine aV ?_)|fail)
   exact aC (i + 1) rfl ⟨by rw [Gw]; rfl, trivial⟩ (by omega) (by omega) (fun _ _ h => h)
  ·have h2' : (d9 ((l.map bL.Name).take i) z.Name).isSome = true := by simpa using h2
   repeat' (first|refine a7 ?_|refine au ?_|refine a8 ?_|refine aI ?_|refine aa ?_|refine ae a6 rfl rfl ?_|(apply aW; refine aV ?_)|fail)
   exact aC (i + 1) rfl ⟨by rw [Gw]; rfl, trivial⟩ (by omega) (by omega) (fun _ _ h => by rw [je hzn h2']; exact h)
 ·have hil : i = l.length := by have := Gy h; simp at this; omega
  subst hil
  rw [List.take_of_length_le (by simp)]
  repeat' (first|refine ah ?_|refine a7 ?_|refine ar ?_|refine aR ?_|refine a8 ?_|refine av ?_|refine aB ?_|refine ay ?_|refine aa ?_|refine ae a6 rfl rfl ?_)
  exact aA rfl rfl ⟨_, rfl, rfl⟩
set_option maxHeartbeats 1000000 in
theorem ye (l : List dY) : AC Tryz.prog 111 [.imm 4 (l.map cC), .sc (.func (.func 112) #[] #[])] [] fun c L => ∃ m, c = .sc (.map (some m)) ∧ L = [(m, cj .string (cL (l.map dY.Name)))] := by
 refine aP Tryz.func111 rfl Tryz.ntmps111 rfl fun B => ?_
 refine cz 0 rfl rfl fun hlen => ?_
 rw [Gu] at hlen
 repeat' (first|refine ah ?_|refine a7 ?_|refine a8 ?_|refine aa ?_|refine ae a6 rfl rfl ?_)
 refine eN .string fun m => ?_
 repeat' (first|refine ah ?_|refine a7 ?_|refine aq ?_|refine a8 ?_|refine aa ?_|refine ae a6 rfl rfl ?_)
 refine aN [1, 5, 11, 12] (α := Nat) (fun i => [(13, aM i)]) (fun i => i ≤ l.length) (fun i => [(m, cj .string (cL ((l.map dY.Name).take i)))]) (fun i => l.length - i) 0 rfl ⟨rfl, trivial⟩ (Nat.zero_le _) (fun _ _ h => by rw [List.take_zero, kY]; exact h) fun i hi => ?_
 try dsimp only [Gr, Gq, Gp, Gj]
 repeat' (first|refine ah ?_|refine a7 ?_|refine a8 ?_|refine aa ?_|refine ae a6 rfl rfl ?_)
 refine aw rfl (fun h => ?_) (fun h => ?_)
 ·have hil : i < l.length := by have := Gz h; simp at this; omega
  obtain ⟨z, hz⟩ : ∃ z, l[i]? = some z := ⟨_, Ds hil⟩
  have hzg := bj (c := cC) hz
  have hzn : (l.map dY.Name)[i]? = some z.Name := by rw [List.getElem?_map, hz]; rfl
  repeat' (first|refine ah ?_|refine a7 ?_|refine aq ?_|refine au ?_|refine a8 ?_|refine aa ?_|refine ae a6 rfl rfl ?_|(apply aY; first|refine aX a6 ?_|refine aS a6 ?_)|(apply aH; first|refine ai 7 a6 0 rfl rfl rfl rfl rfl rfl rfl rfl ?_|refine ai 7 a6 1 rfl rfl rfl rfl rfl rfl rfl rfl ?_|refine ai 7 a6 2 rfl rfl rfl rfl rfl rfl rfl rfl ?_|refine aj a6 0 rfl rfl rfl rfl rfl rfl rfl ?_|refine aj a6 1 rfl rfl rfl rfl rfl rfl rfl ?_|refine aj a6 2 rfl rfl rfl rfl rfl rfl rfl ?_|refine aj a6 3 rfl rfl rfl rfl rfl rfl rfl ?_|fail)|refine b5 a6 fun _=>?_|fail)
  refine iL (cs := [.agg (cC z)]) (caps := []) (oV z) rfl rfl rfl rfl rfl ?_
  repeat' (first|fail)
  refine iM 0 (.int .i64 0) Tryz.underlying218 Tryz.underlying9 rfl rfl trivial rfl (by kernel_rfl) rfl ?_
  rw [jK]
  repeat' (first|refine ah ?_|refine a7 ?_|refine a8 ?_|refine aa ?_|refine ae a6 rfl rfl ?_)
  refine aw rfl (fun h2 => ?_) (fun h2 => ?_)
  ·have h2' : (d9 ((l.map dY.Name).take i) z.Name).isSome = false := by simpa using h2
   repeat' (first|refine a7 ?_|refine ae a6 rfl rfl ?_)
   refine iL (cs := [.agg (cC z)]) (caps := []) (oV z) rfl rfl rfl rfl rfl ?_
   repeat' (first|refine ae a6 rfl rfl ?_)
   refine dD 0 (cL ((l.map dY.Name).take (i + 1))) Tryz.underlying218 Tryz.underlying9 rfl rfl trivial rfl rfl (jJ hzn h2') (jh hzn) ?_
   repeat' (first|refine a7 ?_|refine a8 ?_|refine aI ?_|refine aa ?_|refine ae a6 rfl rfl ?_|(apply aW; refine aV ?_)|fail)
   exact aC (i + 1) rfl ⟨by rw [Gw]; rfl, trivial⟩ (by omega) (by omega) (fun _ _ h => h)
  ·have h2' : (d9 ((l.map dY.Name).take i) z.Name).isSome = true := by simpa using h2
   repeat' (first|refine a7 ?_|refine au ?_|refine a8 ?_|refine aI ?_|refine aa ?_|refine ae a6 rfl rfl ?_|(apply aW; refine aV ?_)|fail)
   exact aC (i + 1) rfl ⟨by rw [Gw]; rfl, trivial⟩ (by omega) (by omega) (fun _ _ h => by rw [je hzn h2']; exact h)
 ·have hil : i = l.length := by have := Gy h; simp at this; omega
  subst hil
  rw [List.take_of_length_le (by simp)]
  repeat' (first|refine ah ?_|refine a7 ?_|refine ar ?_|refine aR ?_|refine a8 ?_|refine av ?_|refine aB ?_|refine ay ?_|refine aa ?_|refine ae a6 rfl rfl ?_)
  exact aA rfl rfl ⟨_, rfl, rfl⟩
end Go.Proofs.YtjjpkibjffmceaaGreat
