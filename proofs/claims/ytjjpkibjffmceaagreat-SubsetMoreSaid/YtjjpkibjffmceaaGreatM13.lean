/-
  Maps of numbers; which glyphs are marks.
-/
import Derived.Test.YtjjpkibjffmceaaGreatM08
import Derived.Test.YtjjpkibjffmceaaGreatM06
import Derived.Test.YtjjpkibjffmceaaGreatM12
import Derived.Test.YtjjpkibjffmceaaGreatM10
namespace Go.Proofs.YtjjpkibjffmceaaGreat
open Go.RowKit
attribute [local irreducible] AT bV AX AO Av Kt bC eH DA dl
open Go.MapKept
abbrev KJ : TypeDesc := .int .i64
def ev (l : List Int) : Value → Option AV
 | .int .i64 z => if z ∈ l then some (cO true) else none
 | _ => none
theorem pJ : (fun _ => none) = ev [] := by
 funext v
 unfold ev
 split <;> simp
theorem pI {l : List Int} {i : Nat} {z : Int} (h : l[i]? = some z) : ev (l.take (i + 1)) (.int .i64 z) = some (cO true) := by
 unfold ev
 simp only
 rw [if_pos (by rw [List.take_add_one, h]; simp)]
theorem nY {l : List Int} {i : Nat} {z : Int} (h : l[i]? = some z) (q : Value) (hq : q ≠ .int .i64 z) : ev (l.take (i + 1)) q = ev (l.take i) q := by
 unfold ev
 split
 ·rename_i t
  have hne : t ≠ z := fun e => hq (by rw [e])
  rw [List.take_add_one, h]
  simp [hne]
 ·rfl
def qU (f : aI) (n : Int) : Bool := match f.Glyphs[n.toNat]? with | some g => g.Mark | none => false
def eG (l : List Int) (z : Int) : Option Int := if z ∈ l then some (l.idxOf z : Int) else none
def kr (l : List Int) : Value → Option AV
 | .int .i64 z => (eG l z).map fun n => aM n
 | _ => none
theorem qX (l : List Int) (y z : Int) (hy : y ∉ l) : eG (l ++ [y]) z = if z = y then some (l.length : Int) else eG l z := by
 unfold eG
 by_cases e : z = y
 ·subst e
  rw [if_pos rfl, if_pos (by simp), List.idxOf_append, if_neg hy]
  simp
 ·rw [if_neg e]
  by_cases hz : z ∈ l
  ·rw [if_pos (by simp [hz]), if_pos hz, List.idxOf_append, if_pos hz]
  ·rw [if_neg (by simp [hz, e]), if_neg hz]
theorem zU (l : List Int) (y : Int) (hy : y ∉ l) : kr (l ++ [y]) (.int .i64 y) = some (aM l.length) := by
 unfold kr
 simp only [qX l y y hy, if_true, Option.map_some]
theorem xu (l : List Int) (y : Int) (hy : y ∉ l) (q : Value) (hq : q ≠ .int .i64 y) : kr (l ++ [y]) q = kr l q := by
 unfold kr
 split
 ·rename_i z
  have hz : z ≠ y := fun e => hq (by rw [e])
  rw [qX l y z hy, if_neg hz]
 ·rfl
theorem zT : (fun _ => none) = kr [] := by
 funext v
 unfold kr eG
 split <;> simp
theorem DU {l : List Int} (h : l.Nodup) {i : Nat} {y : Int} (hy : l[i]? = some y) : y ∉ l.take i := fun hm => by
 obtain ⟨k, hk⟩ := List.mem_iff_getElem?.1 hm
 rw [List.getElem?_take] at hk
 split at hk
 ·rename_i hlt
  obtain ⟨k1, k2⟩ := Gn hk
  obtain ⟨i1, i2⟩ := Gn hy
  have e1 := h.idxOf_getElem k k1
  have e2 := h.idxOf_getElem i i1
  rw [k2] at e1
  rw [i2] at e2
  omega
 ·cases hk
theorem nT (l : List Int) (h : l.Nodup) : AC Tryz.prog 24 [.imm 1 (aT l)] [] fun c L => ∃ m, c = .sc (.map (some m)) ∧ L = [(m, cq KJ (kr l))] := by
 refine aQ Tryz.func24 rfl Tryz.ntmps24 rfl fun B => ?_
 have hil := aR l
 refine cG 0 rfl rfl fun hlen => ?_
 repeat' (first|refine ae ?_|refine a6 ?_|refine a7 ?_|refine a8 ?_|refine aa a2 rfl rfl ?_)
 refine eZ KJ fun m => ?_
 rw [zT]
 repeat' (first|refine ae ?_|refine a6 ?_|refine ak ?_|refine a7 ?_|refine a8 ?_|refine aa a2 rfl rfl ?_)
 refine aJ [3, 7, 8] (α := Nat) (fun i => [(9, aM i)]) (fun i => i ≤ l.length) (fun i => [(m, cq KJ (kr (l.take i)))]) (fun i => l.length - i) 0 rfl ⟨rfl, trivial⟩ (Nat.zero_le _) (fun _ _ h => h) ?_
 rintro i hi
 try dsimp only [Gr, Gq, Gp, Gj]
 repeat' (first|refine ae ?_|refine a6 ?_|refine a7 ?_|refine a8 ?_|refine aa a2 rfl rfl ?_)
 refine aw rfl (fun hh => ?_) (fun hh => ?_)
 ·have hil : i < l.length := by have := Gz hh; omega
  obtain ⟨y, hy⟩ : ∃ z, l[i]? = some z := ⟨_, Ee hil⟩
  have hyi := bW hy
  have hn := DU h hy
  have ht : l.take (i + 1) = l.take i ++ [y] := by rw [List.take_add_one, hy]; rfl
  have hp := zU (l.take i) y hn
  rw [List.length_take, Nat.min_eq_left (by omega)] at hp
  repeat' (first|refine ae ?_|refine a6 ?_|refine ak ?_|refine ar ?_|refine a7 ?_|refine a8 ?_|refine aa a2 rfl rfl ?_|(apply aX; first|refine aW a2 ?_|refine aP a2 ?_)|fail)
  refine dP 0 (kr (l.take i ++ [y])) Tryz.underlying99 Tryz.underlying3 rfl rfl rfl rfl rfl hp (xu (l.take i) y hn) ?_
  repeat' (first|refine a6 ?_|refine a7 ?_|refine aH ?_|refine a8 ?_|refine aa a2 rfl rfl ?_|(apply aV; refine aU ?_)|fail)
  exact aB (i + 1) rfl ⟨by rw [Gw]; rfl, trivial⟩ (by omega) (by omega) (fun _ _ h => by rw [ht]; exact h)
 have hil : i = l.length := by have := Gy hh; omega
 subst hil
 rw [List.take_length]
 repeat' (first|refine ae ?_|refine a6 ?_|refine aq ?_|refine aO ?_|refine a7 ?_|refine au ?_|refine ay ?_|refine av ?_|refine a8 ?_|refine aa a2 rfl rfl ?_)
 exact aA rfl rfl ⟨m, rfl, rfl⟩
def cK (f : aI) (mg ml : Nat) : List AV := ce f ++ [.sc (.map (some mg)), .sc (.map (some ml))]
def kL (mg ml : Nat) (G K : List Int) : AL := [(mg, cq KJ (kr G)), (ml, cq KJ (kr K))]
theorem tC (l : List Int) (z : Int) : (kr l (.int .i64 z)).getD (.sc (.int .i64 0)) = aM ((eG l z).getD 0) ∧ (kr l (.int .i64 z)).isSome = (eG l z).isSome := by
 unfold kr
 simp only
 cases eG l z <;> exact ⟨rfl, rfl⟩
theorem iJ (f : aI) (mg ml : Nat) (G K : List Int) (z : Int) : AC Tryz.prog 70 [.agg (cK f mg ml), aM z] (kL mg ml G K) fun c L => c = .tup [aM ((eG G z).getD 0), cO (eG G z).isSome] ∧ L = kL mg ml G K := by
 refine aQ Tryz.func70 rfl Tryz.ntmps70 rfl fun B => ?_
 have hM := tC G z
 unfold kL cK ce
 dsimp only [Gr, Gq]
 repeat' (first|refine ae ?_|refine a6 ?_|refine a7 ?_|refine a8 ?_|refine aa a2 rfl rfl ?_|refine bg ?_|fail)
 refine j6 0 (.int .i64 0) Tryz.underlying99 Tryz.underlying3 rfl rfl rfl rfl (by kernel_rfl) rfl ?_
 rw [hM.1, hM.2]
 repeat' (first|refine ae ?_|refine a6 ?_|refine aq ?_|refine a7 ?_|refine a8 ?_|refine aa a2 rfl rfl ?_)
 exact b9 rfl rfl rfl ⟨rfl, rfl⟩
theorem mf (f : aI) (mg ml : Nat) (G K : List Int) (z : Int) : AC Tryz.prog 81 [.agg (cK f mg ml), aM z] (kL mg ml G K) fun c L => c = .tup [aM ((eG K z).getD 0), cO (eG K z).isSome] ∧ L = kL mg ml G K := by
 refine aQ Tryz.func81 rfl Tryz.ntmps81 rfl fun B => ?_
 have hM := tC K z
 unfold kL cK ce
 dsimp only [Gr, Gq]
 repeat' (first|refine ae ?_|refine a6 ?_|refine a7 ?_|refine a8 ?_|refine aa a2 rfl rfl ?_|refine bg ?_|fail)
 refine j6 1 (.int .i64 0) Tryz.underlying99 Tryz.underlying3 rfl rfl rfl rfl (by kernel_rfl) rfl ?_
 rw [hM.1, hM.2]
 repeat' (first|refine ae ?_|refine a6 ?_|refine aq ?_|refine a7 ?_|refine a8 ?_|refine aa a2 rfl rfl ?_)
 exact b9 rfl rfl rfl ⟨rfl, rfl⟩
def lP (G : List Int) (p : cR) : Option cR := (eG G p.Glyph).map fun n => { p with Glyph := n }
theorem C5 (f : aI) (mg ml : Nat) (G K : List Int) (p : cR) : AC Tryz.prog 69 [.agg (cN p), .iptr (cK f mg ml)] (kL mg ml G K) fun c L => (∃ y b, c = .tup [.agg (cN y), cO b] ∧ lP G p = if b = true then some y else none) ∧ L = kL mg ml G K := by
 refine aQ Tryz.func69 rfl Tryz.ntmps69 rfl fun B => ?_
 repeat' (first|refine ae ?_|refine a6 ?_|refine a7 ?_|refine a8 ?_|refine aa a2 rfl rfl ?_|refine bg ?_|refine b7 a2 fun _=>?_|fail)
 refine bb (kL mg ml G K) _ (iJ f mg ml G K p.Glyph) rfl rfl (List.perm_append_singleton _ _).symm rfl fun c L1 ⟨hc, hL⟩ => ?_
 subst hc; subst hL
 repeat' (first|refine ae ?_|refine a6 ?_|refine aq ?_|refine a7 ?_|refine a8 ?_|refine aa a2 rfl rfl ?_|(apply aG; first|refine ai a2 0 rfl rfl rfl rfl rfl rfl rfl ?_|refine ai a2 1 rfl rfl rfl rfl rfl rfl rfl ?_|refine ai a2 2 rfl rfl rfl rfl rfl rfl rfl ?_|refine ai a2 3 rfl rfl rfl rfl rfl rfl rfl ?_|fail))
 refine eP (cs := [.agg (cN { p with Glyph := (eG G p.Glyph).getD 0 }), cO (eG G p.Glyph).isSome]) (kL mg ml G K) ⟨⟨_, 2, _, _, rfl, rfl, .inr ⟨dm a2 rfl, rfl⟩⟩, rfl, trivial⟩ (List.sublist_append_left ..) ⟨⟨{ p with Glyph := (eG G p.Glyph).getD 0 }, _, rfl, ?_⟩, rfl⟩
 unfold lP
 cases eG G p.Glyph <;> rfl
def ij (G : List Int) (g : bo) : bo := { g with Parts := g.Parts.filterMap (lP G) }
structure El (g : bo) : Prop where
 points : g.Points.length ≤ 1000000
 ends : g.Ends.length ≤ 1000000
 parts : g.Parts.length ≤ 1000000
 anchors : g.Anchors.length ≤ 1000000
 deltas : g.Deltas.length ≤ 1000000
 hint : g.Hint.length ≤ 1000000
set_option maxHeartbeats 4000000 in
theorem sO (f : aI) (mg ml : Nat) (G K : List Int) (g : bo) (hg : El g) : AC Tryz.prog 27 [.agg (cK f mg ml), .agg (bA g)] (kL mg ml G K) fun c L => c = .agg (bA (ij G g)) ∧ L = kL mg ml G K := by
 refine aQ Tryz.func27 rfl Tryz.ntmps27 rfl fun B => ?_
 have h1 := Bh g.Points hg.points
 have h2 := vH g.Ends hg.ends
 have h3 := Bi g.Anchors hg.anchors
 have h4 := Bj g.Deltas hg.deltas
 have h5 := vG g.Hint hg.hint
 haveI := AD.mk h1
 haveI : AD Tryz.prog 39 [.imm 1 (aT g.Ends)] (.imm 1 (aT g.Ends)) := AD.mk h2
 haveI := AD.mk h3
 haveI := AD.mk h4
 haveI := AD.mk h5
 have he := Du (u := .fn 69 [.iptr (cK f mg ml)]) rfl g.Parts hg.parts (lP G) (kL mg ml G K) fun p _ => .fn (C5 f mg ml G K p)
 repeat' (first|refine ae ?_|refine a6 ?_|refine a7 ?_|refine a8 ?_|refine aa a2 rfl rfl ?_|(apply bK; first|refine aj a2 0 rfl rfl rfl rfl rfl ?_|refine aj a2 1 rfl rfl rfl rfl rfl ?_|refine aj a2 2 rfl rfl rfl rfl rfl ?_|refine aj a2 3 rfl rfl rfl rfl rfl ?_|refine aD a2 0 rfl rfl rfl rfl rfl ?_|refine aD a2 1 rfl rfl rfl rfl rfl ?_|refine aD a2 2 rfl rfl rfl rfl rfl ?_|refine aj a2 1 rfl rfl rfl (by assumption) rfl ?_|refine aj a2 0 rfl rfl rfl (by assumption) rfl ?_|fail)|(apply aG; first|refine ai a2 0 rfl rfl rfl rfl rfl rfl rfl ?_|refine ai a2 1 rfl rfl rfl rfl rfl rfl rfl ?_|refine ai a2 2 rfl rfl rfl rfl rfl rfl rfl ?_|refine ai a2 3 rfl rfl rfl rfl rfl rfl rfl ?_|fail)|refine tq (d := 3) fun _=>?_|refine bg ?_|refine b7 a2 fun _=>?_|(apply bh;refine bc ?_)|fail)
 refine bb (kL mg ml G K) _ he rfl rfl (List.perm_append_comm (l₁ := [_, _])) rfl fun c L1 ⟨hc, hL⟩ => ?_
 subst hc; subst hL
 repeat' (first|refine ae ?_|refine a6 ?_|refine a7 ?_|refine a8 ?_|refine aa a2 rfl rfl ?_|(apply bK; first|refine aj a2 0 rfl rfl rfl rfl rfl ?_|refine aj a2 1 rfl rfl rfl rfl rfl ?_|refine aj a2 2 rfl rfl rfl rfl rfl ?_|refine aj a2 3 rfl rfl rfl rfl rfl ?_|refine aD a2 0 rfl rfl rfl rfl rfl ?_|refine aD a2 1 rfl rfl rfl rfl rfl ?_|refine aD a2 2 rfl rfl rfl rfl rfl ?_|refine aj a2 1 rfl rfl rfl (by assumption) rfl ?_|refine aj a2 0 rfl rfl rfl (by assumption) rfl ?_|fail)|(apply aG; first|refine ai a2 0 rfl rfl rfl rfl rfl rfl rfl ?_|refine ai a2 1 rfl rfl rfl rfl rfl rfl rfl ?_|refine ai a2 2 rfl rfl rfl rfl rfl rfl rfl ?_|refine ai a2 3 rfl rfl rfl rfl rfl rfl rfl ?_|fail)|(apply bh;refine bc ?_)|fail)
 refine aD a2 3 rfl rfl rfl rfl rfl ?_
 repeat' (first|refine aq ?_|refine a7 ?_|refine a8 ?_|(apply aG; first|refine ai a2 0 rfl rfl rfl rfl rfl rfl rfl ?_|refine ai a2 1 rfl rfl rfl rfl rfl rfl rfl ?_|refine ai a2 2 rfl rfl rfl rfl rfl rfl rfl ?_|refine ai a2 3 rfl rfl rfl rfl rfl rfl rfl ?_|fail))
 exact eP (cs := [.agg (bA (ij G g))]) (kL mg ml G K) ⟨⟨_, 2, _, _, rfl, rfl, .inr ⟨dm a2 rfl, rfl⟩⟩, trivial⟩ (List.sublist_append_left ..) ⟨rfl, rfl⟩
end Go.Proofs.YtjjpkibjffmceaaGreat
namespace Go.Proofs.YtjjpkibjffmceaaGreat
open Go.RowKit
attribute [local irreducible] AT bV AX AO Av Kt bC eH DA dl
def dX (f : aI) (G : List Int) (ig : Bool) (z : Int) : Option Int := if (ig && qU f z) = true then none else eG G z
def rm (f : aI) (G : List Int) (ig : Bool) (s : List Int) : List Int := s.filterMap (dX f G ig)
def cZ (f : aI) (G : List Int) (ig : Bool) (l : List (List Int)) : List (List Int) := l.map (rm f G ig)
def fK (f : aI) (G : List Int) (l : ba) (r : bX) : List Int := if l.Kind = 1 ∨ l.Kind = 5 then ((r.Out.zip (r.In.headD [])).filter fun x => (dX f G l.Ignore x.2).isSome).map (·.1) else r.Out
def kF (K : List Int) (c : fT) : Option fT := (eG K c.Lookup).map fun n => { c with Lookup := n }
def iQ (l : List (List Int)) : Bool := l.any fun s => decide (s.length = 0)
def fX (f : aI) (G K : List Int) (l : ba) (r : bX) : Option bX :=
 if (iQ (cZ f G l.Ignore r.Back) = true ∨ iQ (cZ f G l.Ignore r.In) = true ∨ iQ (cZ f G l.Ignore r.Ahead) = true) ∨ r.In = [] then none
 else some { Back := cZ f G l.Ignore r.Back, In := cZ f G l.Ignore r.In, Ahead := cZ f G l.Ignore r.Ahead, Out := (fK f G l r).filterMap (eG G), Calls := r.Calls.filterMap (kF K), X := r.X }
def gr (f : aI) (G K : List Int) (l : ba) : ba := { l with Rules := l.Rules.filterMap (fX f G K l) }
def gA (G rs : List Int) (c : ep) : Option ep := if c.Rune ∈ rs then (eG G c.Glyph).map fun n => { c with Glyph := n } else none
def eQ (K : List Int) (fs : List ByteArray) (t : bO) : Option bO := if fE fs t.Name = true then some { t with Lookups := t.Lookups.filterMap (eG K) } else none
def oY (f : aI) (rs : List Int) (fs : List ByteArray) (G K : List Int) : aI :=
 { f with
  Glyphs := G.filterMap fun n => f.Glyphs[n.toNat]?.map (ij G)
  Chars := f.Chars.filterMap (gA G rs)
  Lookups := K.filterMap fun n => f.Lookups[n.toNat]?.map (gr f G K)
  Features := f.Features.filterMap (eQ K fs) }
end Go.Proofs.YtjjpkibjffmceaaGreat
namespace Go.Proofs.YtjjpkibjffmceaaGreat
open Go.RowKit Go.MapKept
theorem jG {L : AL} : eA [] L := fun q hq => by cases hq
theorem iu {b : Nat} {x : AB} {gs : KpL} {L : AL} (i : Nat) (hL : L[i]? = some (b, x)) (h : eA gs L) : eA (.blk b x :: gs) L := fun p hp => by
 rcases List.mem_cons.1 hp with rfl | hp
 ·exact show (b, x) ∈ L from Gx hL
 ·exact h p hp
section
variable {P : Program} {tt : TT} {l : List Oper} {fr : cg} {fin : jm} {sk : lB} {acc : cg} {L : AL} {k : Nat} {dd : Option Tmp} {ty t t' : TypeId} {pos : String} {af : Array Edge} {g : Option (Nat × Bool)} {x y z : Operand} {u : AV}
theorem qE (i : Nat) (v0 : Value) (a : AV) {b kt et : Nat} {kd : TypeDesc} {q : Value} {m : Value → Option AV} (ht : P.underlying t = some (.map kt et)) (hkt : P.underlying kt = some kd) (hx : bH (cV l.toArray acc fr af.toList) x = some (.sc (.map (some b)))) (hy : bH (cV l.toArray acc fr af.toList) y = some (.sc q)) (hk : IsKey kd q) (hi : fin.gs[i]? = some (.blk b (cq kd m))) (hK : eA fin.gs L) (hz : jP P et v0 = true) (ha : ∀ σ v, VR σ ((m q).getD (.sc v0)) v → VR σ a v) (hg : iM ⟨dd, .lookup t x y false, ty, pos, af, g⟩ acc) (h : DA P l fr fin sk ((k, a) :: acc) L) :
  dl P l fr fin k .k ⟨dd, .lookup t x y false, ty, pos, af, g⟩ sk acc L :=
 yP hK hg (fun B L' hL' => by
  have hm : (b, cq kd m) ∈ L' := hL' _ (Gx hi)
  obtain ⟨j, hj⟩ := List.mem_iff_getElem?.1 hm
  exact (iV j ht hkt hx hy hk hj (fv hz) fun _ => .sc _).as ha) h
theorem p6 (ok : fa P tt) (i : Nat) {b q n : Nat} {cs ys : List AV} {e : TypeId} (ht : Ei tt t = some n) (hx : bH (cV l.toArray acc fr af.toList) x = some (.sc (.pointer (some ⟨b, q, none⟩)))) (hy : bH (cV l.toArray acc fr af.toList) y = some u) (hu : u.cells = some ys) (hL : L[i]? = some (b, .box cs e)) (hn : Nat.beq ys.length n = true) (hk : Nat.ble (q + n) cs.length = true) (hK : eA fin.gs (gg L i (.box (gV cs q ys) e))) (hg : iM ⟨dd, .store t x y, ty, pos, af, g⟩ acc) (h : ∀ c, DA P l fr fin sk ((k, c) :: acc) (gg L i (.box (gV cs q ys) e))) :
  dl P l fr fin k .f ⟨dd, .store t x y, ty, pos, af, g⟩ sk acc L :=
 rr (fun c L' h1 _ => by subst h1; exact hK) hg (fun _ => lJ i (mA ok ht) hx hy hu hL hn hk) fun c L' h1 => by subst h1; exact h c
end
section
variable {P : Program} {l : List Oper} {fr : cg} {fin : jm} {sk : lB} {acc : cg} {L : AL} {k j : Nat} {dd : Option Tmp} {op : Op} {ty : TypeId} {pos : String} {af : Array Edge} {b want : Bool}
theorem Dp (hj : od acc j = .sc (.bool b)) (hb : (b == want) = false) (hK : eA fin.gs L) (hn : DA P l fr fin sk ((k, .sc undef) :: acc) L) : dl P l fr fin k .k ⟨dd, op, ty, pos, af, some (j, want)⟩ sk acc L := by
 intro ho
 obtain ⟨pl, hpl⟩ := hn
 exact ⟨.val k (.sc undef) pl, .k, sk, _, rfl, ho, .inr (.inr ⟨rfl, hK, fun L _ => .inr ⟨⟨_, hj, fun e => by injection e with e; subst e; simp at hb⟩, rfl, rfl⟩⟩), hpl⟩
end
end Go.Proofs.YtjjpkibjffmceaaGreat
namespace Go.Proofs.YtjjpkibjffmceaaGreat
open Go.RowKit
attribute [local irreducible] AT bV AX AO Av Kt bC eH DA dl
open Go.MapKept
theorem F3 (S : List Int) (z : Int) : ((ev S (.int .i64 z)).getD (.sc (.bool false))) = cO (decide (z ∈ S)) := by
 unfold ev
 simp only
 by_cases h : z ∈ S
 ·rw [if_pos (by simpa using h), decide_eq_true h]; rfl
 ·rw [if_neg (by simpa using h), decide_eq_false h]; rfl
set_option maxHeartbeats 2000000 in
theorem yG (f : aI) (mg ml ma : Nat) (G K rs : List Int) (c : ep) : AC Tryz.prog 74 [.agg (cw c), .iptr (cK f mg ml), .iptr [.sc (.map (some ma))]] (kL mg ml G K ++ [(ma, cq KJ (ev rs))]) fun r L => (∃ y b, r = .tup [.agg (cw y), cO b] ∧ gA G rs c = if b = true then some y else none) ∧ L = kL mg ml G K ++ [(ma, cq KJ (ev rs))] := by
 refine aQ Tryz.func74 rfl Tryz.ntmps74 rfl fun B => ?_
 repeat' (first|refine ae ?_|refine a6 ?_|refine a7 ?_|refine a8 ?_|refine aa a2 rfl rfl ?_|refine bg ?_|refine b7 a2 fun _=>?_|fail)
 rename_i b
 refine bb (kL mg ml G K) [(ma, cq KJ (ev rs)), (b, _)] (iJ f mg ml G K c.Glyph) rfl rfl (List.perm_append_singleton _ _).symm rfl fun r L1 ⟨hc, hL⟩ => ?_
 subst hc; subst hL
 have hR : ∀ (σ : cD) (v : Value), VR σ ((ev rs (.int .i64 c.Rune)).getD (.sc (.bool false))) v → VR σ (cO (decide (c.Rune ∈ rs))) v := fun σ v h => by rw [F3] at h; exact h
 cases hp : eG G c.Glyph with
 | none =>
  dsimp only [Option.getD_none, Option.isSome_none]
  repeat' (first|refine ae ?_|refine a7 ?_|refine a8 ?_|refine aa a2 rfl rfl ?_)
  refine dw [.blk ma (cq KJ (ev rs))] 12 [(0, .v), (1, .v), (2, .v), (3, .v), (4, .v), (5, .v), (6, .v), (7, .v), (8, .v), (9, .k), (10, .v), (11, .f)] none ?_ trivial rfl (by kernel_rfl) (by kernel_rfl) (by kernel_rfl) mixed (by kernel_rfl) rfl
  repeat' (first|refine aC ?_|refine aZ a2 ?_|refine lR rfl rfl ?_)
  refine Dp rfl rfl (iu 2 rfl jG) ?_
  repeat' (first|refine aC ?_|refine aZ a2 ?_|fail)
  refine p6 a2 3 rfl rfl rfl rfl rfl rfl rfl (iu 2 rfl jG) (by first | trivial | rfl) fun _ => ?_
  repeat' (first|fail)
  refine bq [4, 25] rfl rfl ?_
  repeat' (first|refine aq ?_|refine a7 ?_|refine a8 ?_|refine aa a2 rfl rfl ?_)
  refine eP (cs := [.agg (cw { c with Glyph := 0 }), cO false]) (kL mg ml G K ++ [(ma, cq KJ (ev rs))]) ⟨⟨_, 3, _, _, rfl, rfl, .inr ⟨dm a2 rfl, rfl⟩⟩, rfl, trivial⟩ (List.sublist_append_left (kL mg ml G K ++ [(ma, cq KJ (ev rs))]) [_]) ⟨⟨{ c with Glyph := 0 }, _, rfl, ?_⟩, rfl⟩
  unfold gA
  rw [hp]
  by_cases hr : c.Rune ∈ rs <;> simp [hr]
 | some n =>
  dsimp only [Option.getD_some, Option.isSome_some]
  repeat' (first|refine ae ?_|refine a7 ?_|refine a8 ?_|refine aa a2 rfl rfl ?_)
  refine dw [.blk ma (cq KJ (ev rs))] 12 [(0, .v), (1, .v), (2, .v), (3, .v), (4, .v), (5, .v), (6, .v), (7, .v), (8, .v), (9, .k), (10, .v), (11, .f)] none ?_ trivial rfl (by kernel_rfl) (by kernel_rfl) (by kernel_rfl) mixed (by kernel_rfl) rfl
  repeat' (first|refine aC ?_|refine aZ a2 ?_|fail)
  refine qE 0 (.bool false) (cO (decide (c.Rune ∈ rs))) Tryz.underlying120 Tryz.underlying3 rfl rfl rfl rfl (iu 2 rfl jG) (by kernel_rfl) hR rfl ?_
  repeat' (first|refine aC ?_|refine aZ a2 ?_|fail)
  refine p6 a2 3 rfl rfl rfl rfl rfl rfl rfl (iu 2 rfl jG) (by first | trivial | rfl) fun _ => ?_
  repeat' (first|fail)
  refine bq [4, 25] rfl rfl ?_
  repeat' (first|refine aq ?_|refine a7 ?_|refine a8 ?_|refine aa a2 rfl rfl ?_)
  refine eP (cs := [.agg (cw { c with Glyph := n }), cO (decide (c.Rune ∈ rs))]) (kL mg ml G K ++ [(ma, cq KJ (ev rs))]) ⟨⟨_, 3, _, _, rfl, rfl, .inr ⟨dm a2 rfl, rfl⟩⟩, rfl, trivial⟩ (List.sublist_append_left (kL mg ml G K ++ [(ma, cq KJ (ev rs))]) [_]) ⟨⟨{ c with Glyph := n }, _, rfl, ?_⟩, rfl⟩
  unfold gA
  rw [hp]
  by_cases hr : c.Rune ∈ rs <;> simp [hr]
set_option maxHeartbeats 2000000 in
theorem yI (f : aI) (hc : f.Chars.length ≤ 1000000) (mg ml : Nat) (G K rs : List Int) : AC Tryz.prog 28 [.agg (cK f mg ml), .imm 1 (aT rs)] (kL mg ml G K) fun c L => c = .imm 2 ((f.Chars.filterMap (gA G rs)).map cw) ∧ L = kL mg ml G K := by
 refine aQ Tryz.func28 rfl Tryz.ntmps28 rfl fun B => ?_
 have hil := aR rs
 refine cG 1 rfl rfl fun hlen => ?_
 repeat' (first|refine ae ?_|refine a6 ?_|refine a7 ?_|refine a8 ?_|refine aa a2 rfl rfl ?_|refine bg ?_|fail)
 refine eZ KJ fun ma => ?_
 rw [pJ]
 repeat' (first|refine ae ?_|refine a6 ?_|refine ak ?_|refine a7 ?_|refine a8 ?_|refine aa a2 rfl rfl ?_|(apply aG; first|refine ah 5 a2 0 rfl rfl rfl rfl rfl rfl rfl rfl ?_|refine ah 5 a2 1 rfl rfl rfl rfl rfl rfl rfl rfl ?_|refine ah 5 a2 2 rfl rfl rfl rfl rfl rfl rfl rfl ?_|refine ai a2 0 rfl rfl rfl rfl rfl rfl rfl ?_|refine ai a2 1 rfl rfl rfl rfl rfl rfl rfl ?_|refine ai a2 2 rfl rfl rfl rfl rfl rfl rfl ?_|refine ai a2 3 rfl rfl rfl rfl rfl rfl rfl ?_|fail)|refine b7 a2 fun _=>?_|fail)
 refine aJ [2, 5, 9, 10] (α := Nat) (fun i => [(11, aM i)]) (fun i => i ≤ rs.length) (fun i => (ma, cq KJ (ev (rs.take i))) :: kL mg ml G K) (fun i => rs.length - i) 0 rfl ⟨rfl, trivial⟩ (Nat.zero_le _) (fun _ _ h => h) ?_
 intro i hi
 try dsimp only [Gr, Gq, Gp, Gj]
 repeat' (first|refine ae ?_|refine a6 ?_|refine a7 ?_|refine a8 ?_|refine aa a2 rfl rfl ?_)
 refine aw rfl (fun h => ?_) (fun h => ?_)
 ·have hil : i < rs.length := by have := Gz h; simp [aR] at this; omega
  obtain ⟨z, hz⟩ : ∃ z, rs[i]? = some z := ⟨_, Ee hil⟩
  have hzg := bW hz
  repeat' (first|refine ae ?_|refine a6 ?_|refine ak ?_|refine ar ?_|refine a7 ?_|refine a8 ?_|refine aa a2 rfl rfl ?_|(apply aX; first|refine aW a2 ?_|refine aP a2 ?_)|fail)
  refine dP 0 (ev (rs.take (i + 1))) Tryz.underlying120 Tryz.underlying3 rfl rfl rfl rfl rfl (pI hz) (nY hz) ?_
  repeat' (first|refine a6 ?_|refine a7 ?_|refine aH ?_|refine a8 ?_|refine aa a2 rfl rfl ?_|(apply aV; refine aU ?_)|fail)
  exact aB (i + 1) rfl ⟨by rw [Gw]; rfl, trivial⟩ (by omega) (by omega) (fun _ _ h => h)
 have hil : i = rs.length := by have := Gy h; simp [aR] at this; omega
 subst hil
 rw [List.take_length]
 clear h hi hlen
 refine bI (aK (List.perm_append_comm (l₁ := [_]))) ?_
 repeat' (first|refine ae ?_|refine a6 ?_|refine aO ?_|refine a7 ?_|refine au ?_|refine ay ?_|refine av ?_|refine aa a2 rfl rfl ?_)
 have he := Dv (u := .fn 74 [.iptr (cK f mg ml), .iptr [.sc (.map (some ma))]]) rfl f.Chars hc (gA G rs) (kL mg ml G K ++ [(ma, cq KJ (ev rs))]) fun c _ => .fn (yG f mg ml ma G K rs c)
 refine bb (kL mg ml G K ++ [(ma, cq KJ (ev rs))]) [] he rfl rfl (by rw [List.append_nil]; exact Gm _) rfl fun c L1 ⟨hc, hL⟩ => ?_
 subst hc; subst hL
 repeat' (first|refine aq ?_|refine a7 ?_|refine a8 ?_|refine aa a2 rfl rfl ?_)
 refine cY (L' := kL mg ml G K) (by rw [List.append_nil]; exact List.sublist_append_left ..) ?_
 exact aA rfl rfl ⟨rfl, rfl⟩
def iW (l : List ByteArray) : Value → Option AV
 | .string s => if fE l s = true then some (cO true) else none
 | _ => none
theorem wA : (fun _ => none) = iW [] := by
 funext v
 unfold iW
 split <;> simp [fE]
theorem wz {l : List ByteArray} {i : Nat} {z : ByteArray} (h : l[i]? = some z) : iW (l.take (i + 1)) (.string z) = some (cO true) := by
 unfold iW
 simp only
 rw [if_pos (by unfold fE; rw [List.take_add_one, h]; simp)]
theorem ug {l : List ByteArray} {i : Nat} {z : ByteArray} (h : l[i]? = some z) (q : Value) (hq : q ≠ .string z) : iW (l.take (i + 1)) q = iW (l.take i) q := by
 unfold iW
 split
 ·rename_i t
  have hne : z ≠ t := fun e => hq (by rw [e])
  unfold fE
  rw [List.take_add_one, h, Option.toList_some, List.any_append]
  have hd : decide (z = t) = false := decide_eq_false hne
  rw [List.any_cons, List.any_nil, hd, Bool.or_false, Bool.or_false]
 ·rfl
theorem Fp (S : List ByteArray) (z : ByteArray) : ((iW S (.string z)).getD (.sc (.bool false))) = cO (fE S z) := by
 unfold iW
 simp only
 cases h : fE S z <;> rfl
set_option maxHeartbeats 2000000 in
theorem yT (f : aI) (mg ml ma : Nat) (G K : List Int) (fs : List ByteArray) (t : bO) (ht : t.Lookups.length ≤ 1000000) : AC Tryz.prog 79 [.agg (bw t), .iptr (cK f mg ml), .iptr [.sc (.map (some ma))]] (kL mg ml G K ++ [(ma, cq .string (iW fs))]) fun r L => (∃ y b, r = .tup [.agg (bw y), cO b] ∧ eQ K fs t = if b = true then some y else none) ∧ L = kL mg ml G K ++ [(ma, cq .string (iW fs))] := by
 refine aQ Tryz.func79 rfl Tryz.ntmps79 rfl fun B => ?_
 have hR : ∀ (σ : cD) (v : Value), VR σ ((iW fs (.string t.Name)).getD (.sc (.bool false))) v → VR σ (cO (fE fs t.Name)) v := fun σ v h => by rw [Fp] at h; exact h
 repeat' (first|refine ae ?_|refine a6 ?_|refine a7 ?_|refine a8 ?_|refine aa a2 rfl rfl ?_|refine bg ?_|refine b7 a2 fun _=>?_|fail)
 rename_i b
 refine dw [.blk ma (cq .string (iW fs))] 13 [(0, .v), (1, .v), (2, .v), (3, .v), (4, .v), (5, .v), (8, .v), (9, .v), (10, .v), (11, .k), (6, .f), (7, .v), (12, .f)] none ?_ trivial rfl (by kernel_rfl) (by kernel_rfl) (by kernel_rfl) mixed (by kernel_rfl) rfl
 repeat' (first|refine aC ?_|refine aZ a2 ?_|fail)
 refine qE 0 (.bool false) (cO (fE fs t.Name)) Tryz.underlying132 Tryz.underlying9 rfl rfl trivial rfl (iu 3 rfl jG) (by kernel_rfl) hR trivial ?_
 repeat' (first|refine aC ?_|fail)
 have he := ux (u := .fnB 81 [.agg (cK f mg ml)] []) rfl t.Lookups ht (eG K) (kL mg ml G K) fun z _ => .fnB ((mf f mg ml G K z).mono fun c L ⟨h1, h2⟩ => ⟨⟨(eG K z).getD 0, (eG K z).isSome, h1, by cases eG K z <;> rfl⟩, h2⟩)
 refine vJ (kL mg ml G K) [(b, .box [.sc (.string ⟨#[]⟩), .sc (.slice none 0 0)] 83), (ma, cq .string (iW fs))] he rfl rfl (List.perm_middle (l₁ := kL mg ml G K) (l₂ := [(ma, cq .string (iW fs))])).symm (by first | trivial | rfl) (fun c L1 ⟨_, hL⟩ _ => by subst hL; exact iu 3 rfl jG) fun c L1 ⟨hc, hL⟩ => ?_
 subst hc; subst hL
 repeat' (first|refine aC ?_|refine aZ a2 ?_|fail)
 refine p6 a2 2 rfl rfl rfl rfl rfl rfl rfl (iu 3 rfl jG) (by first | trivial | rfl) fun _ => ?_
 repeat' (first|fail)
 refine bq [4, 17] rfl rfl ?_
 repeat' (first|refine aq ?_|refine a7 ?_|refine a8 ?_|refine aa a2 rfl rfl ?_)
 refine eP (cs := [.agg (bw { t with Lookups := t.Lookups.filterMap (eG K) }), cO (fE fs t.Name)]) (kL mg ml G K ++ [(ma, cq .string (iW fs))]) ⟨⟨_, 2, _, _, rfl, rfl, .inr ⟨dm a2 rfl, rfl⟩⟩, rfl, trivial⟩ ?_ ⟨⟨{ t with Lookups := t.Lookups.filterMap (eG K) }, _, rfl, ?_⟩, rfl⟩
 ·exact List.Sublist.cons_cons _ (List.Sublist.cons_cons _ (List.Sublist.cons _ (List.Sublist.refl _)))
 ·unfold eQ
  cases fE fs t.Name <;> rfl
set_option maxHeartbeats 2000000 in
theorem sX (f : aI) (hc : f.Features.length ≤ 1000000) (ht : ∀ t ∈ f.Features, t.Lookups.length ≤ 1000000) (mg ml : Nat) (G K : List Int) (fs : List ByteArray) : AC Tryz.prog 40 [.agg (cK f mg ml), .imm 1 (ey fs)] (kL mg ml G K) fun c L => c = .imm 2 ((f.Features.filterMap (eQ K fs)).map bw) ∧ L = kL mg ml G K := by
 refine aQ Tryz.func40 rfl Tryz.ntmps40 rfl fun B => ?_
 have hil := fq fs
 refine cG 1 rfl rfl fun hlen => ?_
 repeat' (first|refine ae ?_|refine a6 ?_|refine a7 ?_|refine a8 ?_|refine aa a2 rfl rfl ?_|refine bg ?_|fail)
 refine eZ .string fun ma => ?_
 rw [wA]
 repeat' (first|refine ae ?_|refine a6 ?_|refine ak ?_|refine a7 ?_|refine a8 ?_|refine aa a2 rfl rfl ?_|(apply aG; first|refine ah 5 a2 0 rfl rfl rfl rfl rfl rfl rfl rfl ?_|refine ah 5 a2 1 rfl rfl rfl rfl rfl rfl rfl rfl ?_|refine ah 5 a2 2 rfl rfl rfl rfl rfl rfl rfl rfl ?_|refine ai a2 0 rfl rfl rfl rfl rfl rfl rfl ?_|refine ai a2 1 rfl rfl rfl rfl rfl rfl rfl ?_|refine ai a2 2 rfl rfl rfl rfl rfl rfl rfl ?_|refine ai a2 3 rfl rfl rfl rfl rfl rfl rfl ?_|fail)|refine b7 a2 fun _=>?_|fail)
 refine aJ [2, 5, 9, 10] (α := Nat) (fun i => [(11, aM i)]) (fun i => i ≤ fs.length) (fun i => (ma, cq .string (iW (fs.take i))) :: kL mg ml G K) (fun i => fs.length - i) 0 rfl ⟨rfl, trivial⟩ (Nat.zero_le _) (fun _ _ h => h) ?_
 intro i hi
 try dsimp only [Gr, Gq, Gp, Gj]
 repeat' (first|refine ae ?_|refine a6 ?_|refine a7 ?_|refine a8 ?_|refine aa a2 rfl rfl ?_)
 refine aw rfl (fun h => ?_) (fun h => ?_)
 ·have hil : i < fs.length := by have := Gz h; simp [fq] at this; omega
  obtain ⟨z, hz⟩ : ∃ z, fs[i]? = some z := ⟨_, Ee hil⟩
  have hzg : (ey fs)[i]? = some [gE z] := by unfold ey; rw [List.getElem?_map, hz]; rfl
  repeat' (first|refine ae ?_|refine a6 ?_|refine ak ?_|refine ar ?_|refine a7 ?_|refine a8 ?_|refine aa a2 rfl rfl ?_|(apply aX; first|refine aW a2 ?_|refine aP a2 ?_)|fail)
  refine dP 0 (iW (fs.take (i + 1))) Tryz.underlying132 Tryz.underlying9 rfl rfl trivial rfl rfl (wz hz) (ug hz) ?_
  repeat' (first|refine a6 ?_|refine a7 ?_|refine aH ?_|refine a8 ?_|refine aa a2 rfl rfl ?_|(apply aV; refine aU ?_)|fail)
  exact aB (i + 1) rfl ⟨by rw [Gw]; rfl, trivial⟩ (by omega) (by omega) (fun _ _ h => h)
 have hil : i = fs.length := by have := Gy h; simp [fq] at this; omega
 subst hil
 rw [List.take_length]
 clear h hi hlen
 refine bI (aK (List.perm_append_comm (l₁ := [_]))) ?_
 repeat' (first|refine ae ?_|refine a6 ?_|refine aO ?_|refine a7 ?_|refine au ?_|refine ay ?_|refine av ?_|refine aa a2 rfl rfl ?_)
 have he := Dy (u := .fn 79 [.iptr (cK f mg ml), .iptr [.sc (.map (some ma))]]) rfl f.Features hc (eQ K fs) (kL mg ml G K ++ [(ma, cq .string (iW fs))]) fun t htm => .fn (yT f mg ml ma G K fs t (ht t htm))
 refine bb (kL mg ml G K ++ [(ma, cq .string (iW fs))]) [] he rfl rfl (by rw [List.append_nil]; exact Gm _) rfl fun c L1 ⟨hc, hL⟩ => ?_
 subst hc; subst hL
 repeat' (first|refine aq ?_|refine a7 ?_|refine a8 ?_|refine aa a2 rfl rfl ?_)
 refine cY (L' := kL mg ml G K) (by rw [List.append_nil]; exact List.sublist_append_left ..) ?_
 exact aA rfl rfl ⟨rfl, rfl⟩
section
variable {P : Program} {r : Option Nat} {ops : Array Oper} {Q : Exit → Act → World → Prop} {nt : Nat} {D : List Deferred} {fr : cg} {B : Bs} {L : AL} {rest : List Oper} {d : Nat} {ty t : TypeId} {pos : String} {af : Array Edge} {x y z : Operand} {u : AV} {cd : Code}
theorem j5 {f : FuncId} {args : Array Operand} {ts : Array TypeId} {cs caps : List AV} {v : AV} [bF P f] (hc : bQ P f (cs ++ caps) v) (hx : bH fr x = some u) (hu : jj u = some (f, caps)) (hv : eC fr args.toList = some cs) (hn : Oper.noDefer ⟨some d, .call ⟨.value x, args, ts⟩, ty, pos, af, none⟩ = true) (hd : Nat.ble nt d = false) (h : bV P r ops Q nt D rest ((d, v) :: fr) B L) :
  bV P r ops Q nt D (⟨some d, .call ⟨.value x, args, ts⟩, ty, pos, af, none⟩ :: rest) fr B L :=
 dh [] L hc hx hu hv (Gm _) hn hd fun c L1 hc => by
  have hc' : c = v := hc
  subst hc'
  exact aN (bY (List.sublist_append_right ..)) h
theorem Bb (t : Nat) {u : AV} {s : Nat} {l : List (List AV)} (hl : ci fr t = some u) (hu : iF u = some (s, l)) (h : l.length ≤ 9223372036854775807 → bV P r ops Q nt D rest fr B L) : bV P r ops Q nt D rest fr B L :=
 Ba (fun σ a w ha _ => (zj (ha.look t u hl) hu).1) h
end
def tj (t : bO) (i : Nat) (l : Int) : Bool := match i with | 0 => false | j + 1 => match t.Lookups[j]? with | some b => decide (l ≤ b) | none => false
def om (f : aI) (t : bO) (i : Nat) (l : Int) : Int := ek (decide (l < 0 ∨ l ≥ f.Lookups.length) || tj t i l) 43
set_option maxHeartbeats 1000000 in
theorem wX (f : aI) (t : bO) (i : Nat) (l : Int) (hl : t.Lookups[i]? = some l) (hn : t.Lookups.length ≤ 9223372036854775807) : bQ Tryz.prog 189 [aM i, aM l, .iptr (ce f), .iptr (bw t)] (aM (om f t i l)) := by
 refine aQ Tryz.func189 rfl Tryz.ntmps189 rfl fun B => ?_
 have hil := (Gn hl).1
 unfold om
 cases i with
 | zero =>
  repeat' (first|refine ae ?_|refine a6 ?_|refine a7 ?_|refine a8 ?_|refine aa a2 rfl rfl ?_)
  refine dq (t := 7) [] (l < 0 ∨ l ≥ f.Lookups.length) rfl (fun Q' K => ?_) ?_
  ·repeat' (first|refine a8 ?_|refine aa a2 rfl rfl ?_|refine aF rfl rfl ?_|refine aL rfl rfl rfl rfl ?_|refine dC rfl rfl rfl ?_|refine bf rfl rfl rfl (fun _ => ?_) (fun _ => ?_))
   all_goals exact K _ _ rfl rfl (by clear K; simp_all <;> omega)
  repeat' (first|refine ae ?_|refine a6 ?_|refine aq ?_|refine a7 ?_|refine a8 ?_|refine aa a2 rfl rfl ?_|(apply bh;refine bc ?_)|fail)
  refine aA rfl rfl ?_
  simp [tj]
 | succ j =>
  obtain ⟨b, hb⟩ : ∃ b, t.Lookups[j]? = some b := ⟨_, Ee (by omega)⟩
  have hbg : (aT t.Lookups)[(((j + 1 : Nat) : Int) - 1).toNat]? = some [aM b] := by rw [show (((j + 1 : Nat) : Int) - 1).toNat = j by omega]; exact bW hb
  have hlt : tj t (j + 1) l = decide (l ≤ b) := by simp [tj, hb]
  have hpos : decide (0 < ((j + 1 : Nat) : Int)) = true := decide_eq_true (by omega)
  rw [hlt]
  repeat' (first|refine ae ?_|refine a6 ?_|refine a7 ?_|refine a8 ?_|refine aa a2 rfl rfl ?_)
  refine dq (t := 7) [] ((l < 0 ∨ l ≥ f.Lookups.length) ∨ l ≤ b) rfl (fun Q' K => ?_) ?_
  ·repeat' (first|refine a8 ?_|refine aa a2 rfl rfl ?_|refine aF rfl rfl ?_|refine aL rfl rfl rfl rfl ?_|refine dC rfl rfl rfl ?_|(apply aV; refine aU ?_)|(apply aX; first|refine aW a2 ?_|refine aP a2 ?_)|refine bf rfl rfl rfl (fun _ => ?_) (fun _ => ?_))
   all_goals exact K _ _ rfl rfl (by clear K; simp_all <;> omega)
  repeat' (first|refine ae ?_|refine a6 ?_|refine aq ?_|refine a7 ?_|refine a8 ?_|refine aa a2 rfl rfl ?_|(apply bh;refine bc ?_)|fail)
  refine aA rfl rfl ?_
  rw [Bool.decide_or]
def sV (f : aI) (t : bO) (name : Int) : Int := if name ≠ 0 then name else (du t.Lookups (om f t)).1
theorem sW (f : aI) (t : bO) (name : Int) : bQ Tryz.prog 131 [ct f, .agg (bw t), aM name] (aM (sV f t name)) := by
 refine aQ Tryz.func131 rfl Tryz.ntmps131 rfl fun B => ?_
 unfold sV
 repeat' (first|refine ae ?_|refine a6 ?_|refine a7 ?_|refine a8 ?_|refine aa a2 rfl rfl ?_|refine bg ?_|fail)
 refine aw rfl (fun h => ?_) (fun h => ?_)
 ·rw [if_pos (Gz h)]
  repeat' (first|refine ae ?_|refine a6 ?_|refine aq ?_|refine a7 ?_|refine aE ?_|refine a8 ?_|refine aa a2 rfl rfl ?_)
  exact aA rfl rfl rfl
 rw [if_neg (Gy h)]
 repeat' (first|refine ae ?_|refine a6 ?_|refine ar ?_|refine a7 ?_|refine aa a2 rfl rfl ?_)
 refine Bb 14 rfl rfl fun hlen => ?_
 rw [aR] at hlen
 refine bb [] [] (lT (u := .fn 189 [.iptr (ce f), .iptr (bw t)]) (g := 189) rfl t.Lookups _ (fun _ _ => True) [] trivial (dA (fun i x hx => wX f t i x hx (by omega)))) rfl rfl (Gm _) rfl fun c L1 hc => ?_
 have hc : c = cA (du t.Lookups (om f t)) := hc
 subst hc
 unfold cA
 repeat' (first|refine ae ?_|refine a6 ?_|refine aq ?_|refine a7 ?_|refine a8 ?_|refine aa a2 rfl rfl ?_)
 exact aA rfl rfl rfl
instance (f : aI) (t : bO) (name : Int) : AD Tryz.prog 131 [ct f, .agg (bw t), aM name] (aM (sV f t name)) := ⟨sW f t name⟩
def dt (names : List ByteArray) (s : ByteArray) : Option Nat := names.findIdx? (fun x => decide (x = s))
def cU (names : List ByteArray) (v : Value) : Option AV := match v with
 | .string s => (dt names s).map fun (n : Nat) => aM (n : Int)
 | _ => none
theorem jB {names : List ByteArray} {i : Nat} {s : ByteArray} (h : names[i]? = some s) (q : ByteArray) : dt (names.take (i + 1)) q = match dt (names.take i) q with | some n => some n | none => if s = q then some i else none := by
 unfold dt
 have hlt := (Gn h).1
 have hlen : (names.take i).length = i := by rw [List.length_take]; omega
 rw [List.take_add_one, h, Option.toList_some, List.findIdx?_append, hlen]
 cases List.findIdx? (fun x => decide (x = q)) (names.take i) with
 | some n => rfl
 | none =>
  by_cases e : s = q
  ·simp [e]
  ·simp [e]
theorem lf : cU [] = fun _ => none := by
 funext v
 cases v <;> rfl
theorem k9 {names : List ByteArray} {s : ByteArray} : (cU names (.string s)).isSome = (dt names s).isSome := by
 show (Option.map (fun n : Nat => aM (n : Int)) (dt names s)).isSome = _
 cases dt names s <;> rfl
theorem jC {names : List ByteArray} {i : Nat} {s : ByteArray} (h : names[i]? = some s) (hk : (dt (names.take i) s).isSome = true) : cU (names.take (i + 1)) = cU (names.take i) := by
 funext v
 cases v with
 | string q =>
  simp only [cU]
  rw [jB h]
  cases hq : dt (names.take i) q with
  | some n => rfl
  | none =>
   by_cases e : s = q
   ·subst e; rw [hq] at hk; cases hk
   ·simp [e]
 | _ => rfl
theorem k8 {names : List ByteArray} {i : Nat} {s : ByteArray} (h : names[i]? = some s) (hk : (dt (names.take i) s).isSome = false) : cU (names.take (i + 1)) (.string s) = some (aM i) := by
 simp only [cU]
 rw [jB h]
 cases hq : dt (names.take i) s with
 | some n => rw [hq] at hk; cases hk
 | none => simp
theorem jD {names : List ByteArray} {i : Nat} {s : ByteArray} (h : names[i]? = some s) (q : Value) (hne : q ≠ .string s) : cU (names.take (i + 1)) q = cU (names.take i) q := by
 cases q with
 | string q =>
  have hne' : s ≠ q := fun e => hne (by rw [e])
  simp only [cU]
  rw [jB h]
  cases hq : dt (names.take i) q with
  | some n => rfl
  | none => simp [hne']
 | _ => rfl
theorem px (g : bo) : bQ Tryz.prog 108 [.agg (bA g)] (gE g.Name) := by
 refine aQ Tryz.func108 rfl Tryz.ntmps108 rfl fun B => ?_
 repeat' (first|refine ae ?_|refine a6 ?_|refine aq ?_|refine a7 ?_|refine a8 ?_|refine aa a2 rfl rfl ?_|refine bg ?_|fail)
 exact aA rfl rfl rfl
theorem py (g : bO) : bQ Tryz.prog 110 [.agg (bw g)] (gE g.Name) := by
 refine aQ Tryz.func110 rfl Tryz.ntmps110 rfl fun B => ?_
 repeat' (first|refine ae ?_|refine a6 ?_|refine aq ?_|refine a7 ?_|refine a8 ?_|refine aa a2 rfl rfl ?_|refine bg ?_|fail)
 exact aA rfl rfl rfl
theorem pz (g : eo) : bQ Tryz.prog 112 [.agg (cu g)] (gE g.Name) := by
 refine aQ Tryz.func112 rfl Tryz.ntmps112 rfl fun B => ?_
 repeat' (first|refine ae ?_|refine a6 ?_|refine aq ?_|refine a7 ?_|refine a8 ?_|refine aa a2 rfl rfl ?_|refine bg ?_|fail)
 exact aA rfl rfl rfl
set_option maxHeartbeats 1000000 in
theorem yY (l : List bo) : AC Tryz.prog 107 [.imm 9 (l.map bA), .sc (.func (.func 108) #[] #[])] [] fun c L => ∃ m, c = .sc (.map (some m)) ∧ L = [(m, cq .string (cU (l.map bo.Name)))] := by
 refine aQ Tryz.func107 rfl Tryz.ntmps107 rfl fun B => ?_
 refine cG 0 rfl rfl fun hlen => ?_
 rw [Gu] at hlen
 repeat' (first|refine ae ?_|refine a6 ?_|refine a7 ?_|refine a8 ?_|refine aa a2 rfl rfl ?_)
 refine eZ .string fun m => ?_
 repeat' (first|refine ae ?_|refine a6 ?_|refine ak ?_|refine a7 ?_|refine a8 ?_|refine aa a2 rfl rfl ?_)
 refine aJ [1, 5, 11, 12] (α := Nat) (fun i => [(13, aM i)]) (fun i => i ≤ l.length) (fun i => [(m, cq .string (cU ((l.map bo.Name).take i)))]) (fun i => l.length - i) 0 rfl ⟨rfl, trivial⟩ (Nat.zero_le _) (fun _ _ h => by rw [List.take_zero, lf]; exact h) fun i hi => ?_
 try dsimp only [Gr, Gq, Gp, Gj]
 repeat' (first|refine ae ?_|refine a6 ?_|refine a7 ?_|refine a8 ?_|refine aa a2 rfl rfl ?_)
 refine aw rfl (fun h => ?_) (fun h => ?_)
 ·have hil : i < l.length := by have := Gz h; simp at this; omega
  obtain ⟨z, hz⟩ : ∃ z, l[i]? = some z := ⟨_, Ee hil⟩
  have hzg := bn (c := bA) hz
  have hzn : (l.map bo.Name)[i]? = some z.Name := by rw [List.getElem?_map, hz]; rfl
  repeat' (first|refine ae ?_|refine a6 ?_|refine ak ?_|refine ar ?_|refine a7 ?_|refine a8 ?_|refine aa a2 rfl rfl ?_|(apply aX; first|refine aW a2 ?_|refine aP a2 ?_)|(apply aG; first|refine ah 7 a2 0 rfl rfl rfl rfl rfl rfl rfl rfl ?_|refine ah 7 a2 1 rfl rfl rfl rfl rfl rfl rfl rfl ?_|refine ah 7 a2 2 rfl rfl rfl rfl rfl rfl rfl rfl ?_|refine ai a2 0 rfl rfl rfl rfl rfl rfl rfl ?_|refine ai a2 1 rfl rfl rfl rfl rfl rfl rfl ?_|refine ai a2 2 rfl rfl rfl rfl rfl rfl rfl ?_|refine ai a2 3 rfl rfl rfl rfl rfl rfl rfl ?_|fail)|refine b7 a2 fun _=>?_|fail)
  refine j5 (cs := [.agg (bA z)]) (caps := []) (px z) rfl rfl rfl rfl rfl ?_
  repeat' (first|fail)
  refine j6 0 (.int .i64 0) Tryz.underlying218 Tryz.underlying9 rfl rfl trivial rfl (by kernel_rfl) rfl ?_
  rw [k9]
  repeat' (first|refine ae ?_|refine a6 ?_|refine a7 ?_|refine a8 ?_|refine aa a2 rfl rfl ?_)
  refine aw rfl (fun h2 => ?_) (fun h2 => ?_)
  ·have h2' : (dt ((l.map bo.Name).take i) z.Name).isSome = false := by simpa using h2
   repeat' (first|refine a6 ?_|refine aa a2 rfl rfl ?_)
   refine j5 (cs := [.agg (bA z)]) (caps := []) (px z) rfl rfl rfl rfl rfl ?_
   repeat' (first|refine aa a2 rfl rfl ?_)
   refine dP 0 (cU ((l.map bo.Name).take (i + 1))) Tryz.underlying218 Tryz.underlying9 rfl rfl trivial rfl rfl (k8 hzn h2') (jD hzn) ?_
   repeat' (first|refine a6 ?_|refine a7 ?_|refine aH ?_|refine a8 ?_|refine aa a2 rfl rfl ?_|(apply aV; refine aU ?_)|fail)
   exact aB (i + 1) rfl ⟨by rw [Gw]; rfl, trivial⟩ (by omega) (by omega) (fun _ _ h => h)
  ·have h2' : (dt ((l.map bo.Name).take i) z.Name).isSome = true := by simpa using h2
   repeat' (first|refine a6 ?_|refine ar ?_|refine a7 ?_|refine aH ?_|refine a8 ?_|refine aa a2 rfl rfl ?_|(apply aV; refine aU ?_)|fail)
   exact aB (i + 1) rfl ⟨by rw [Gw]; rfl, trivial⟩ (by omega) (by omega) (fun _ _ h => by rw [jC hzn h2']; exact h)
 ·have hil : i = l.length := by have := Gy h; simp at this; omega
  subst hil
  rw [List.take_of_length_le (by simp)]
  repeat' (first|refine ae ?_|refine a6 ?_|refine aq ?_|refine aO ?_|refine a7 ?_|refine au ?_|refine ay ?_|refine av ?_|refine a8 ?_|refine aa a2 rfl rfl ?_)
  exact aA rfl rfl ⟨_, rfl, rfl⟩
set_option maxHeartbeats 1000000 in
theorem yZ (l : List bO) : AC Tryz.prog 109 [.imm 2 (l.map bw), .sc (.func (.func 110) #[] #[])] [] fun c L => ∃ m, c = .sc (.map (some m)) ∧ L = [(m, cq .string (cU (l.map bO.Name)))] := by
 refine aQ Tryz.func109 rfl Tryz.ntmps109 rfl fun B => ?_
 refine cG 0 rfl rfl fun hlen => ?_
 rw [Gu] at hlen
 repeat' (first|refine ae ?_|refine a6 ?_|refine a7 ?_|refine a8 ?_|refine aa a2 rfl rfl ?_)
 refine eZ .string fun m => ?_
 repeat' (first|refine ae ?_|refine a6 ?_|refine ak ?_|refine a7 ?_|refine a8 ?_|refine aa a2 rfl rfl ?_)
 refine aJ [1, 5, 11, 12] (α := Nat) (fun i => [(13, aM i)]) (fun i => i ≤ l.length) (fun i => [(m, cq .string (cU ((l.map bO.Name).take i)))]) (fun i => l.length - i) 0 rfl ⟨rfl, trivial⟩ (Nat.zero_le _) (fun _ _ h => by rw [List.take_zero, lf]; exact h) fun i hi => ?_
 try dsimp only [Gr, Gq, Gp, Gj]
 repeat' (first|refine ae ?_|refine a6 ?_|refine a7 ?_|refine a8 ?_|refine aa a2 rfl rfl ?_)
 refine aw rfl (fun h => ?_) (fun h => ?_)
 ·have hil : i < l.length := by have := Gz h; simp at this; omega
  obtain ⟨z, hz⟩ : ∃ z, l[i]? = some z := ⟨_, Ee hil⟩
  have hzg := bn (c := bw) hz
  have hzn : (l.map bO.Name)[i]? = some z.Name := by rw [List.getElem?_map, hz]; rfl
  repeat' (first|refine ae ?_|refine a6 ?_|refine ak ?_|refine ar ?_|refine a7 ?_|refine a8 ?_|refine aa a2 rfl rfl ?_|(apply aX; first|refine aW a2 ?_|refine aP a2 ?_)|(apply aG; first|refine ah 7 a2 0 rfl rfl rfl rfl rfl rfl rfl rfl ?_|refine ah 7 a2 1 rfl rfl rfl rfl rfl rfl rfl rfl ?_|refine ah 7 a2 2 rfl rfl rfl rfl rfl rfl rfl rfl ?_|refine ai a2 0 rfl rfl rfl rfl rfl rfl rfl ?_|refine ai a2 1 rfl rfl rfl rfl rfl rfl rfl ?_|refine ai a2 2 rfl rfl rfl rfl rfl rfl rfl ?_|refine ai a2 3 rfl rfl rfl rfl rfl rfl rfl ?_|fail)|refine b7 a2 fun _=>?_|fail)
  refine j5 (cs := [.agg (bw z)]) (caps := []) (py z) rfl rfl rfl rfl rfl ?_
  repeat' (first|fail)
  refine j6 0 (.int .i64 0) Tryz.underlying218 Tryz.underlying9 rfl rfl trivial rfl (by kernel_rfl) rfl ?_
  rw [k9]
  repeat' (first|refine ae ?_|refine a6 ?_|refine a7 ?_|refine a8 ?_|refine aa a2 rfl rfl ?_)
  refine aw rfl (fun h2 => ?_) (fun h2 => ?_)
  ·have h2' : (dt ((l.map bO.Name).take i) z.Name).isSome = false := by simpa using h2
   repeat' (first|refine a6 ?_|refine aa a2 rfl rfl ?_)
   refine j5 (cs := [.agg (bw z)]) (caps := []) (py z) rfl rfl rfl rfl rfl ?_
   repeat' (first|refine aa a2 rfl rfl ?_)
   refine dP 0 (cU ((l.map bO.Name).take (i + 1))) Tryz.underlying218 Tryz.underlying9 rfl rfl trivial rfl rfl (k8 hzn h2') (jD hzn) ?_
   repeat' (first|refine a6 ?_|refine a7 ?_|refine aH ?_|refine a8 ?_|refine aa a2 rfl rfl ?_|(apply aV; refine aU ?_)|fail)
   exact aB (i + 1) rfl ⟨by rw [Gw]; rfl, trivial⟩ (by omega) (by omega) (fun _ _ h => h)
  ·have h2' : (dt ((l.map bO.Name).take i) z.Name).isSome = true := by simpa using h2
   repeat' (first|refine a6 ?_|refine ar ?_|refine a7 ?_|refine aH ?_|refine a8 ?_|refine aa a2 rfl rfl ?_|(apply aV; refine aU ?_)|fail)
   exact aB (i + 1) rfl ⟨by rw [Gw]; rfl, trivial⟩ (by omega) (by omega) (fun _ _ h => by rw [jC hzn h2']; exact h)
 ·have hil : i = l.length := by have := Gy h; simp at this; omega
  subst hil
  rw [List.take_of_length_le (by simp)]
  repeat' (first|refine ae ?_|refine a6 ?_|refine aq ?_|refine aO ?_|refine a7 ?_|refine au ?_|refine ay ?_|refine av ?_|refine a8 ?_|refine aa a2 rfl rfl ?_)
  exact aA rfl rfl ⟨_, rfl, rfl⟩
set_option maxHeartbeats 1000000 in
theorem z7 (l : List eo) : AC Tryz.prog 111 [.imm 4 (l.map cu), .sc (.func (.func 112) #[] #[])] [] fun c L => ∃ m, c = .sc (.map (some m)) ∧ L = [(m, cq .string (cU (l.map eo.Name)))] := by
 refine aQ Tryz.func111 rfl Tryz.ntmps111 rfl fun B => ?_
 refine cG 0 rfl rfl fun hlen => ?_
 rw [Gu] at hlen
 repeat' (first|refine ae ?_|refine a6 ?_|refine a7 ?_|refine a8 ?_|refine aa a2 rfl rfl ?_)
 refine eZ .string fun m => ?_
 repeat' (first|refine ae ?_|refine a6 ?_|refine ak ?_|refine a7 ?_|refine a8 ?_|refine aa a2 rfl rfl ?_)
 refine aJ [1, 5, 11, 12] (α := Nat) (fun i => [(13, aM i)]) (fun i => i ≤ l.length) (fun i => [(m, cq .string (cU ((l.map eo.Name).take i)))]) (fun i => l.length - i) 0 rfl ⟨rfl, trivial⟩ (Nat.zero_le _) (fun _ _ h => by rw [List.take_zero, lf]; exact h) fun i hi => ?_
 try dsimp only [Gr, Gq, Gp, Gj]
 repeat' (first|refine ae ?_|refine a6 ?_|refine a7 ?_|refine a8 ?_|refine aa a2 rfl rfl ?_)
 refine aw rfl (fun h => ?_) (fun h => ?_)
 ·have hil : i < l.length := by have := Gz h; simp at this; omega
  obtain ⟨z, hz⟩ : ∃ z, l[i]? = some z := ⟨_, Ee hil⟩
  have hzg := bn (c := cu) hz
  have hzn : (l.map eo.Name)[i]? = some z.Name := by rw [List.getElem?_map, hz]; rfl
  repeat' (first|refine ae ?_|refine a6 ?_|refine ak ?_|refine ar ?_|refine a7 ?_|refine a8 ?_|refine aa a2 rfl rfl ?_|(apply aX; first|refine aW a2 ?_|refine aP a2 ?_)|(apply aG; first|refine ah 7 a2 0 rfl rfl rfl rfl rfl rfl rfl rfl ?_|refine ah 7 a2 1 rfl rfl rfl rfl rfl rfl rfl rfl ?_|refine ah 7 a2 2 rfl rfl rfl rfl rfl rfl rfl rfl ?_|refine ai a2 0 rfl rfl rfl rfl rfl rfl rfl ?_|refine ai a2 1 rfl rfl rfl rfl rfl rfl rfl ?_|refine ai a2 2 rfl rfl rfl rfl rfl rfl rfl ?_|refine ai a2 3 rfl rfl rfl rfl rfl rfl rfl ?_|fail)|refine b7 a2 fun _=>?_|fail)
  refine j5 (cs := [.agg (cu z)]) (caps := []) (pz z) rfl rfl rfl rfl rfl ?_
  repeat' (first|fail)
  refine j6 0 (.int .i64 0) Tryz.underlying218 Tryz.underlying9 rfl rfl trivial rfl (by kernel_rfl) rfl ?_
  rw [k9]
  repeat' (first|refine ae ?_|refine a6 ?_|refine a7 ?_|refine a8 ?_|refine aa a2 rfl rfl ?_)
  refine aw rfl (fun h2 => ?_) (fun h2 => ?_)
  ·have h2' : (dt ((l.map eo.Name).take i) z.Name).isSome = false := by simpa using h2
   repeat' (first|refine a6 ?_|refine aa a2 rfl rfl ?_)
   refine j5 (cs := [.agg (cu z)]) (caps := []) (pz z) rfl rfl rfl rfl rfl ?_
   repeat' (first|refine aa a2 rfl rfl ?_)
   refine dP 0 (cU ((l.map eo.Name).take (i + 1))) Tryz.underlying218 Tryz.underlying9 rfl rfl trivial rfl rfl (k8 hzn h2') (jD hzn) ?_
   repeat' (first|refine a6 ?_|refine a7 ?_|refine aH ?_|refine a8 ?_|refine aa a2 rfl rfl ?_|(apply aV; refine aU ?_)|fail)
   exact aB (i + 1) rfl ⟨by rw [Gw]; rfl, trivial⟩ (by omega) (by omega) (fun _ _ h => h)
  ·have h2' : (dt ((l.map eo.Name).take i) z.Name).isSome = true := by simpa using h2
   repeat' (first|refine a6 ?_|refine ar ?_|refine a7 ?_|refine aH ?_|refine a8 ?_|refine aa a2 rfl rfl ?_|(apply aV; refine aU ?_)|fail)
   exact aB (i + 1) rfl ⟨by rw [Gw]; rfl, trivial⟩ (by omega) (by omega) (fun _ _ h => by rw [jC hzn h2']; exact h)
 ·have hil : i = l.length := by have := Gy h; simp at this; omega
  subst hil
  rw [List.take_of_length_le (by simp)]
  repeat' (first|refine ae ?_|refine a6 ?_|refine aq ?_|refine aO ?_|refine a7 ?_|refine au ?_|refine ay ?_|refine av ?_|refine a8 ?_|refine aa a2 rfl rfl ?_)
  exact aA rfl rfl ⟨_, rfl, rfl⟩
end Go.Proofs.YtjjpkibjffmceaaGreat
