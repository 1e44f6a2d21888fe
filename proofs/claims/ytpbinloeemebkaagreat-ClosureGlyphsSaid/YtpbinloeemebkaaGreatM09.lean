/-
  The program: what the first look tells that finds something wrong.
-/
import Derived.Test.YtpbinloeemebkaaGreatM08
import Derived.Test.YtpbinloeemebkaaGreatM06
import Derived.Test.YtpbinloeemebkaaGreatM07
import Derived.Laws.StructEq
namespace Go.Proofs.YtpbinloeemebkaaGreat
open Go.RowKit
attribute [local irreducible] AT bN AX AO Av Kt bi dE DA d6
structure Lk where
 f : FuncId
 caps : List AV
 L : AL
 e : Int
 n : Int
def Lk.ok (x : Lk) : Prop := bt Tryz.prog x.f ∧ AC Tryz.prog x.f x.caps x.L fun c _ => c = bX (x.e, x.n)
def oW : List Lk → Int × Int
 | [] => (0, 0)
 | x :: r => if x.e = 0 then oW r else (x.e, x.n)
def zZ (l : List Lk) : AL := (l.map Lk.L).flatten
def qS : List Lk → Prop
 | [] => True
 | x :: r => x.ok ∧ (x.e = 0 → qS r)
def BR (x : Lk) : List AV := [.fn x.f x.caps]
theorem wt {l : List Lk} {i : Nat} {x : Lk} (h : l[i]? = some x) : oW (l.drop i) = if x.e = 0 then oW (l.drop (i + 1)) else (x.e, x.n) := by
 obtain ⟨hi, hx⟩ := List.getElem?_eq_some_iff.1 h
 rw [List.drop_eq_getElem_cons hi, hx]
 rfl
theorem uv {l : List Lk} {i : Nat} {x : Lk} (h : l[i]? = some x) (hk : qS (l.drop i)) : x.ok ∧ (x.e = 0 → qS (l.drop (i + 1))) := by
 obtain ⟨hi, hx⟩ := List.getElem?_eq_some_iff.1 h
 rw [List.drop_eq_getElem_cons hi, hx] at hk
 exact hk
theorem qR : ∀ {l : List Lk}, (oW l).1 = 0 → oW l = (0, 0)
 | [], _ => rfl
 | x :: r, h => by
  unfold oW at h ⊢
  split
  ·rename_i h0
   rw [if_pos h0] at h
   exact qR h
  ·rename_i h0
   rw [if_neg h0] at h
   exact absurd h h0
theorem wu {l : List Lk} {i : Nat} {x : Lk} (h : l[i]? = some x) : zZ (l.drop i) = x.L ++ zZ (l.drop (i + 1)) := by
 obtain ⟨hi, hx⟩ := List.getElem?_eq_some_iff.1 h
 unfold zZ
 rw [List.drop_eq_getElem_cons hi, hx]
 rfl
theorem uc {σ0 : ce} {l : Nat} (ls : List Lk) (hok : qS ls) (E : AL) (E' : Int → Int → AL) (hy : ∀ e n, e ≠ 0 → AY Tryz.prog σ0 l [aQ e, aQ n] E fun c L => c = c8 false ∧ L = E' e n) :
  vf Tryz.prog σ0 221 [.sc (.func (.yield l) #[] #[]), .iptr [.imm 1 (ls.map BR)]] (zZ ls ++ E) fun _ L => L = if (oW ls).1 = 0 then E else E' (oW ls).1 (oW ls).2 := by
 refine jW Tryz.func221 rfl Tryz.ntmps221 rfl fun B hB => ?_
 (repeat' (first|refine ah ?_|refine a6 ?_|refine am ?_|refine a8 ?_|refine aa ?_|refine ae a7 rfl rfl ?_|fail))
 refine cg 7 rfl rfl fun hlen => ?_
 rw [List.length_map] at hlen
 refine aL [0, 7, 8] (α := Nat) (fun i => [(9, aQ i)]) (fun i => i ≤ ls.length ∧ oW ls = oW (ls.drop i) ∧ qS (ls.drop i)) (fun i => zZ (ls.drop i) ++ E) (fun i => ls.length - i) 0 rfl ⟨rfl, trivial⟩ ⟨Nat.zero_le _, rfl, hok⟩ (fun _ _ h => h) fun i ⟨hi, he, hok⟩ => ?_
 try dsimp only [List.cons_append, List.nil_append, List.map_cons, List.map_nil]
 (repeat' (first|refine ah ?_|refine a6 ?_|refine a8 ?_|refine aa ?_|refine ae a7 rfl rfl ?_|fail))
 refine av rfl (fun h => ?_) (fun h => ?_)
 ·have hil : i < ls.length := by have := of_decide_eq_true h; simp at this; omega
  obtain ⟨x, hx⟩ : ∃ z, ls[i]? = some z := ⟨_, List.getElem?_eq_getElem hil⟩
  have hzg := b5 (c := BR) hx
  obtain ⟨⟨hcf, hac⟩, hok⟩ := uv hx hok
  rw [wt hx] at he
  rw [wu hx]
  (repeat' (first|refine ah ?_|refine a6 ?_|refine am ?_|refine ak ?_|refine a8 ?_|refine aa ?_|refine ae a7 rfl rfl ?_|(apply aP; first|refine aO a7 ?_|refine aI a7 ?_)|fail))
  refine cy (cs := []) x.L (zZ (ls.drop (i + 1)) ++ E) (by simpa using hac) rfl rfl rfl (by rw [List.append_assoc]) rfl rfl fun c L1 hc => ?_
  subst hc
  refine bh (dA (List.sublist_append_right ..)) ?_
  unfold bX
  (repeat' (first|refine ah ?_|refine a6 ?_|refine a8 ?_|refine aa ?_|refine ae a7 rfl rfl ?_|fail))
  by_cases h0 : x.e = 0
  ·rw [if_pos h0] at he
   rw [h0]
   (repeat' (first|refine a6 ?_|refine ak ?_|refine a8 ?_|refine aJ ?_|refine aa ?_|refine ae a7 rfl rfl ?_|refine aD rfl rfl rfl rfl ?_|(apply aX; refine aW ?_)|refine bV rfl ?_|fail))
   exact aE (i + 1) rfl ⟨by rw [Int.natCast_add]; rfl, trivial⟩ ⟨by omega, he, hok h0⟩ (by omega) (fun _ _ h => h)
  ·rw [if_neg h0] at he
   rw [show decide (x.e ≠ 0) = true from decide_eq_true h0]
   (repeat' (first|refine ae a7 rfl rfl ?_|refine aw rfl rfl ?_|fail))
   refine bh (dA (List.sublist_append_right ..)) ?_
   refine iz E [] hB (hy x.e x.n h0) rfl rfl rfl (bK rfl) rfl rfl fun c L1 ⟨hc, hL⟩ => ?_
   subst hc; subst hL
   rw [List.append_nil]
   (repeat' (first|refine au ?_|refine a8 ?_|refine ar ?_|refine aG ?_|refine aK ?_|refine aa ?_|refine ae a7 rfl rfl ?_|refine aw rfl rfl ?_|refine bI rfl ?_|fail))
   refine pn rfl ?_
   rw [he, if_neg h0]
 ·have hil : i = ls.length := by have := of_decide_eq_false h; simp at this; omega
  subst hil
  rw [List.drop_length] at he ⊢
  (repeat' (first|refine aR ?_|refine az ?_|refine aC ?_|refine aA ?_|fail))
  refine cB rfl ?_
  rw [he]
  rfl
theorem rW (l : List (List AV)) : bo Tryz.prog 147 [.imm 1 l] (.fn 221 [.iptr [.imm 1 l]]) := by
 refine aU Tryz.func147 rfl Tryz.ntmps147 rfl fun B => ?_
 (repeat' (first|refine ah ?_|refine a6 ?_|refine au ?_|refine a8 ?_|refine aa ?_|refine ae a7 rfl rfl ?_|refine b6 ?_|fail))
 exact aB rfl rfl rfl
instance (l : List (List AV)) : AD Tryz.prog 147 [.imm 1 l] (.fn 221 [.iptr [.imm 1 l]]) := ⟨rW l⟩
theorem r5 {p q : Nat × AB} {l l2 : AL} : (p :: q :: (l ++ l2)).Perm (l ++ (p :: q :: l2)) := by
 have := (List.perm_append_comm (l₁ := [p, q]) (l₂ := l)).append_right l2
 simpa using this
set_option maxHeartbeats 1000000 in
theorem gQ (ls : List Lk) (hok : qS ls) : AC Tryz.prog 80 [.imm 1 (ls.map BR)] (zZ ls) fun c _ => c = bX (oW ls) := by
 refine iS Tryz.func80 rfl Tryz.ntmps80 rfl fun B => ?_
 (repeat' (first|refine ah ?_|refine a6 ?_|refine am ?_|refine a8 ?_|refine aa ?_|refine ae a7 rfl rfl ?_|refine bb a7 fun _=>?_|(apply ba;refine aY ?_)|fail))
 rename_i b2 b3
 refine eY (ps := [8, 9]) rfl fun σ0 l db rec hrec => ?_
 have hy : ∀ e n : Int, e ≠ 0 → AY Tryz.prog σ0 l [aQ e, aQ n] ([(b3, .box [aQ 0] 3), (b2, .box [aQ 0] 40), (db, dO)] ++ [(l, dV rec)]) fun c L => c = c8 false ∧ L = [(b3, .box [aQ n] 3), (b2, .box [aQ e] 40), (db, dO)] ++ [(l, dV { ({ rec with state := .busy } : Loop) with state := .done, pending := some .ret })] := by
  intro e n he
  refine kE hrec rfl rfl fun B1 hB1 => ?_
  (repeat' (first|refine ah ?_|refine a6 ?_|refine a8 ?_|refine aa ?_|refine ae a7 rfl rfl ?_|fail))
  refine eZ hrec.state ?_
  (repeat' (first|refine ah ?_|refine a6 ?_|refine am ?_|refine au ?_|refine a8 ?_|refine aG ?_|refine aa ?_|refine ae a7 rfl rfl ?_|(apply aT; first|refine aj a7 0 rfl rfl rfl rfl rfl rfl rfl ?_|refine aj a7 1 rfl rfl rfl rfl rfl rfl rfl ?_|refine aj a7 2 rfl rfl rfl rfl rfl rfl rfl ?_|refine aj a7 3 rfl rfl rfl rfl rfl rfl rfl ?_|fail)|fail))
  refine k6 (L := [(b3, .box [aQ n] 3), (b2, .box [aQ e] 40), (db, dO)]) ?_
  exact ⟨rfl, rfl⟩
 refine ⟨_, (uc ls hok _ _ hy).perm ?_, fun c L' hL' => ?_⟩
 ·simp only [List.append_assoc, List.cons_append, List.nil_append]
  exact r5
 ·by_cases h0 : (oW ls).1 = 0
  ·rw [if_pos h0] at hL'
   subst hL'
   refine ⟨rec, _, List.Perm.refl _, (by rw [hrec.state]; intro h; cases h), ?_⟩
   rw [hrec.pending]
   show AX _ _ _ _ _ _ _ _
   (repeat' (first|refine ah ?_|refine a6 ?_|refine au ?_|refine a8 ?_|refine aJ ?_|refine aa ?_|(apply aT; first|refine aj a7 0 rfl rfl rfl rfl rfl rfl rfl ?_|refine aj a7 1 rfl rfl rfl rfl rfl rfl rfl ?_|refine aj a7 2 rfl rfl rfl rfl rfl rfl rfl ?_|refine aj a7 3 rfl rfl rfl rfl rfl rfl rfl ?_|fail)|fail))
   refine eI (cs := [aQ 0, aQ 0]) [db] [(b3, .box [aQ 0] 3), (b2, .box [aQ 0] 40)] rfl (List.Perm.refl _) ?_ ?_
   ·exact ⟨⟨b2, 1, _, _, rfl, rfl, .inl ⟨co a7 rfl, rfl⟩⟩, ⟨b3, 0, _, _, rfl, rfl, .inl ⟨co a7 rfl, rfl⟩⟩, trivial⟩
   ·have : oW ls = (0, 0) := qR h0
    rw [this]
    rfl
  ·rw [if_neg h0] at hL'
   subst hL'
   refine ⟨_, _, List.Perm.refl _, (by intro h; cases h), ?_⟩
   show AX _ _ _ _ _ _ _ _
   (repeat' (first|refine ar ?_|refine aG ?_|fail))
   refine eI (cs := [aQ (oW ls).1, aQ (oW ls).2]) [db] [(b3, .box [aQ (oW ls).2] 3), (b2, .box [aQ (oW ls).1] 40)] rfl (List.Perm.refl _) ?_ rfl
   exact ⟨⟨b2, 1, _, _, rfl, rfl, .inl ⟨co a7 rfl, rfl⟩⟩, ⟨b3, 0, _, _, rfl, rfl, .inl ⟨co a7 rfl, rfl⟩⟩, trivial⟩
end Go.Proofs.YtpbinloeemebkaaGreat

namespace Go.Proofs.YtpbinloeemebkaaGreat
open Go.RowKit
attribute [local irreducible] AT bN AX AO Av Kt bi dE DA d6
def cS (b : Bool) (e : Int) : Int := bif b then e else 0
theorem xe (b : Bool) (e : Int) : bo Tryz.prog 111 [c8 b, aQ e] (aQ (cS b e)) := by
 refine aU Tryz.func111 rfl Tryz.ntmps111 rfl fun B => ?_
 (repeat' (first|refine ah ?_|refine a6 ?_|refine a8 ?_|refine aa ?_|refine ae a7 rfl rfl ?_|fail))
 refine av rfl (fun h => ?_) (fun h => ?_)
 ·subst h
  (repeat' (first|refine ah ?_|refine a6 ?_|refine au ?_|refine a8 ?_|refine ar ?_|refine aa ?_|refine ae a7 rfl rfl ?_|fail))
  exact aB rfl rfl rfl
 ·subst h
  (repeat' (first|refine ah ?_|refine a6 ?_|refine ak ?_|refine au ?_|refine a8 ?_|refine aa ?_|refine ae a7 rfl rfl ?_|fail))
  exact aB rfl rfl rfl
instance (b : Bool) (e : Int) : AD Tryz.prog 111 [c8 b, aQ e] (aQ (cS b e)) := ⟨xe b e⟩
def cx (z : Int) : Bool := decide (-16384 ≤ z ∧ z ≤ 16384)
theorem pL (l : List Int) : bo Tryz.prog 112 [.imm 1 (aV l)] (c8 (l.all cx)) := by
 refine aU Tryz.func112 rfl Tryz.ntmps112 rfl fun B => ?_
 refine cg 0 rfl rfl fun hlen => ?_
 rw [aM] at hlen
 (repeat' (first|refine ah ?_|refine a6 ?_|refine am ?_|refine a8 ?_|refine aa ?_|refine ae a7 rfl rfl ?_|fail))
 refine aL [5, 6] (α := Nat) (fun i => [(7, aQ i)]) (fun i => i ≤ l.length ∧ (l.take i).all cx = true) (fun _ => []) (fun i => l.length - i) 0 rfl ⟨rfl, trivial⟩ ⟨Nat.zero_le _, by simp⟩ (fun _ _ h => h) fun i hi => ?_
 try dsimp only [List.cons_append, List.nil_append, List.map_cons, List.map_nil]
 (repeat' (first|refine ah ?_|refine a6 ?_|refine a8 ?_|refine aa ?_|refine ae a7 rfl rfl ?_|fail))
 refine av rfl (fun h => ?_) (fun h => ?_)
 ·have hil : i < l.length := by have := of_decide_eq_true h; rw [aM] at this; omega
  obtain ⟨z, hz⟩ : ∃ z, l[i]? = some z := ⟨_, List.getElem?_eq_getElem hil⟩
  have hzg := bk hz
  (repeat' (first|refine ah ?_|refine a6 ?_|refine am ?_|refine ak ?_|refine a8 ?_|refine aa ?_|refine ae a7 rfl rfl ?_|(apply aP; first|refine aO a7 ?_|refine aI a7 ?_)|fail))
  refine ci [5, 6, 7] (cx z = false) rfl (fun Q' K => ?_) (fun hC => ?_) (fun hC => ?_)
  ·(repeat' (first|refine aa ?_|refine ae a7 rfl rfl ?_|refine aw rfl rfl ?_|refine aD rfl rfl rfl rfl ?_|refine aS rfl rfl rfl (fun _ => ?_) (fun _ => ?_)|fail))
   all_goals exact K _ _ rfl rfl (by unfold cx; simp_all <;> omega)
  ·(repeat' (first|refine ah ?_|refine a6 ?_|refine au ?_|refine a8 ?_|refine ar ?_|refine aG ?_|refine aK ?_|refine aa ?_|refine ae a7 rfl rfl ?_|fail))
   refine aB rfl rfl ?_
   rw [show l.all cx = false by
    rw [List.all_eq_false]
    exact ⟨z, List.mem_of_getElem? hz, by simp [hC]⟩]
  ·(repeat' (first|refine a6 ?_|refine ak ?_|refine a8 ?_|refine aJ ?_|refine aa ?_|refine ae a7 rfl rfl ?_|(apply aX; refine aW ?_)|fail))
   refine aE (i + 1) rfl ⟨by rw [Int.natCast_add]; rfl, trivial⟩ ⟨by omega, ?_⟩ (by omega) (fun _ _ h => h)
   rw [List.take_add_one, hz, List.all_append, hi.2]
   simpa using hC
 ·have hil : i = l.length := by have := of_decide_eq_false h; rw [aM] at this; omega
  subst hil
  rw [List.take_length] at hi
  (repeat' (first|refine ah ?_|refine a6 ?_|refine au ?_|refine aR ?_|refine a8 ?_|refine az ?_|refine aC ?_|refine aA ?_|refine aa ?_|refine ae a7 rfl rfl ?_|fail))
  refine aB rfl rfl ?_
  rw [hi.2]
instance (x : Int) : AD Tryz.prog 112 [.imm 1 [[aQ x]]] (c8 ([x].all cx)) := ⟨pL [x]⟩
instance (x y : Int) : AD Tryz.prog 112 [.imm 1 [[aQ x], [aQ y]]] (c8 ([x, y].all cx)) := ⟨pL [x, y]⟩
instance (x y z : Int) : AD Tryz.prog 112 [.imm 1 [[aQ x], [aQ y], [aQ z]]] (c8 ([x, y, z].all cx)) := ⟨pL [x, y, z]⟩
def eG (f : aH) (n : Int) : Bool := decide (0 ≤ n ∧ n < f.Glyphs.length)
theorem qQ (f : aH) (n : Int) : bo Tryz.prog 155 [bw f, aQ n] (c8 (eG f n)) := by
 refine aU Tryz.func155 rfl Tryz.ntmps155 rfl fun B => ?_
 (repeat' (first|refine ah ?_|refine a6 ?_|refine a8 ?_|refine aa ?_|refine ae a7 rfl rfl ?_|refine b6 ?_|fail))
 refine bv (t := 4) [] (eG f n = true) rfl (fun Q' K => ?_) ?_
 ·(repeat' (first|refine aa ?_|refine ae a7 rfl rfl ?_|refine aw rfl rfl ?_|refine aD rfl rfl rfl rfl ?_|refine aS rfl rfl rfl (fun _ => ?_) (fun _ => ?_)|fail))
  all_goals exact K _ _ rfl rfl (by unfold eG; simp_all <;> omega)
 (repeat' (first|refine au ?_|refine a8 ?_|fail))
 refine aB rfl rfl ?_
 simp
instance (f : aH) (n : Int) : AD Tryz.prog 155 [bw f, aQ n] (c8 (eG f n)) := ⟨qQ f n⟩
def ge (right taken : Bool) : Int := bif right then (bif taken then 24 else 0) else 23
theorem ot (a b : Bool) : bo Tryz.prog 86 [c8 a, c8 b] (aQ (ge a b)) := by
 refine aU Tryz.func86 rfl Tryz.ntmps86 rfl fun B => ?_
 (repeat' (first|refine ah ?_|refine a6 ?_|refine am ?_|refine a8 ?_|refine aa ?_|refine ae a7 rfl rfl ?_|fail))
 refine av rfl (fun h => ?_) (fun h => ?_)
 ·(repeat' (first|refine ah ?_|refine a6 ?_|refine au ?_|refine a8 ?_|refine ar ?_|refine aG ?_|refine aa ?_|refine ae a7 rfl rfl ?_|fail))
  refine aB rfl rfl ?_
  cases a with
  | true => cases h
  | false => rfl
 ·(repeat' (first|refine ah ?_|refine a6 ?_|refine a8 ?_|refine aa ?_|refine ae a7 rfl rfl ?_|fail))
  have ha : a = true := by cases a with
   | true => rfl
   | false => cases h
  subst ha
  refine av rfl (fun h => ?_) (fun h => ?_)
  ·subst h
   (repeat' (first|refine ah ?_|refine a6 ?_|refine au ?_|refine a8 ?_|refine ar ?_|refine aG ?_|refine aa ?_|refine ae a7 rfl rfl ?_|fail))
   exact aB rfl rfl rfl
  ·subst h
   (repeat' (first|refine ah ?_|refine a6 ?_|refine ak ?_|refine au ?_|refine a8 ?_|refine aJ ?_|refine aa ?_|refine ae a7 rfl rfl ?_|fail))
   exact aB rfl rfl rfl
instance (a b : Bool) : AD Tryz.prog 86 [c8 a, c8 b] (aQ (ge a b)) := ⟨ot a b⟩
def gT (c : Int) : Bool := decide ((65 ≤ c ∧ c ≤ 90) ∨ (97 ≤ c ∧ c ≤ 122))
abbrev U8 (c : Int) : AV := .sc (.int .u8 c)
theorem pD (c : Int) : bo Tryz.prog 161 [U8 c] (c8 (gT c)) := by
 refine aU Tryz.func161 rfl Tryz.ntmps161 rfl fun B => ?_
 (repeat' (first|refine ah ?_|refine a6 ?_|refine a8 ?_|refine aa ?_|refine ae a7 rfl rfl ?_|fail))
 refine bv (t := 2) [] (gT c = true) rfl (fun Q' K => ?_) ?_
 ·(repeat' (first|refine aa ?_|refine ae a7 rfl rfl ?_|refine aw rfl rfl ?_|refine aD rfl rfl rfl rfl ?_|refine bT rfl rfl rfl ?_|refine aS rfl rfl rfl (fun _ => ?_) (fun _ => ?_)|fail))
  all_goals exact K _ _ rfl rfl (by unfold gT; simp_all <;> omega)
 (repeat' (first|refine au ?_|refine a8 ?_|fail))
 refine aB rfl rfl ?_
 simp
instance (c : Int) : AD Tryz.prog 161 [U8 c] (c8 (gT c)) := ⟨pD c⟩
end Go.Proofs.YtpbinloeemebkaaGreat

namespace Go.Proofs.YtpbinloeemebkaaGreat
open Go.RowKit
attribute [local irreducible] AT bN AX AO Av Kt bi dE DA d6
section
variable {P : Program} {tt : TT} {r : Option Nat} {ops : Array Oper} {Q : Exit → Act → World → Prop} {nt : Nat} {D : List Deferred} {fr : c9} {B : Bs} {L : AL} {rest : List Oper} {d : Nat} {ty t : TypeId} {pos : String} {af : Array Edge} {x y z : Operand}
theorem mH (ok : eW P tt) {s : ByteArray} {k : IntKind} {i : Int} {c : UInt8} {ti : TI} (ht : dz tt t = some ti) (hk : ti.k = .str) (hx : bB fr x = some (.sc (.string s))) (hy : bB fr y = some (.sc (.int k i))) (h0 : 0 ≤ i) (hu : s[i.toNat]? = some c) (hd : Nat.ble nt d = false) (h : bN P r ops Q nt D rest ((d, U8 c.toNat) :: fr) B L) : bN P r ops Q nt D (⟨some d, .index t x y, ty, pos, af, none⟩ :: rest) fr B L := eh (rC (ok.str ht hk) hx hy h0 hu) hd rfl h
end
def iU (s : ByteArray) (i : Nat) : Int := match s[i]? with | some c => c.toNat | none => 0
theorem ij {s : ByteArray} {i : Nat} {c : UInt8} (h : s[i]? = some c) : iU s i = c.toNat := by unfold iU; rw [h]
def qe (n : Nat) (p : Nat → Bool) : Bool := (List.range n).all p
theorem gN {n : Nat} {p : Nat → Bool} : qe n p = true ↔ ∀ i, i < n → p i = true := by simp [qe]
theorem gD {n : Nat} {p : Nat → Bool} {i : Nat} (hi : i < n) (h : p i = false) : qe n p = false := by
 rw [Bool.eq_false_iff]
 intro hh
 rw [gN.1 hh i hi] at h
 cases h
theorem mK {s : ByteArray} {i : Nat} (h : i < s.size) : ∃ c, s[i]? = some c := ⟨s[i], by simp [h]⟩
def cD (s : ByteArray) : Bool := decide (1 ≤ s.size ∧ s.size ≤ 8) && qe s.size fun i => gT (iU s i)
theorem oq (s : ByteArray) : bo Tryz.prog 99 [ph s] (c8 (cD s)) := by
 refine aU Tryz.func99 rfl Tryz.ntmps99 rfl fun B => ?_
 (repeat' (first|refine ah ?_|refine a6 ?_|refine a8 ?_|refine aa ?_|refine ae a7 rfl rfl ?_|fail))
 refine ci [0] (¬ (1 ≤ s.size ∧ s.size ≤ 8)) rfl (fun Q' K => ?_) (fun hC => ?_) (fun hC => ?_)
 ·(repeat' (first|refine aa ?_|refine ae a7 rfl rfl ?_|refine aw rfl rfl ?_|refine aD rfl rfl rfl rfl ?_|refine aS rfl rfl rfl (fun _ => ?_) (fun _ => ?_)|fail))
  all_goals exact K _ _ rfl rfl (by simp_all <;> omega)
 ·(repeat' (first|refine ah ?_|refine a6 ?_|refine au ?_|refine a8 ?_|refine ar ?_|refine aa ?_|refine ae a7 rfl rfl ?_|fail))
  refine aB rfl rfl ?_
  unfold cD
  rw [decide_eq_false hC]
  rfl
 have hC := Decidable.not_not.1 hC
 (repeat' (first|refine ah ?_|refine a6 ?_|refine am ?_|refine ak ?_|refine a8 ?_|refine aa ?_|refine ae a7 rfl rfl ?_|fail))
 refine aL [0, 13] (α := Nat) (fun i => [(14, aQ i)]) (fun i => i ≤ s.size ∧ ∀ j, j < i → gT (iU s j) = true) (fun _ => []) (fun i => s.size - i) 0 rfl ⟨rfl, trivial⟩ ⟨Nat.zero_le _, fun j hj => absurd hj (Nat.not_lt_zero _)⟩ (fun _ _ h => h) fun i hi => ?_
 try dsimp only [List.cons_append, List.nil_append, List.map_cons, List.map_nil]
 (repeat' (first|refine ah ?_|refine a6 ?_|refine a8 ?_|refine aa ?_|refine ae a7 rfl rfl ?_|fail))
 refine av rfl (fun h => ?_) (fun h => ?_)
 ·have hil : i < s.size := by have := of_decide_eq_true h; omega
  obtain ⟨c, hc⟩ := mK hil
  have hb := ij hc
  (repeat' (first|refine ah ?_|refine a6 ?_|refine am ?_|refine ak ?_|refine a8 ?_|refine aa ?_|refine ae a7 rfl rfl ?_|fail))
  refine mH a7 rfl rfl rfl rfl (by omega) (by rw [Int.toNat_natCast]; exact hc) rfl ?_
  (repeat' (first|refine a8 ?_|refine aa ?_|refine ae a7 rfl rfl ?_|(apply ba;refine aY ?_)|fail))
  refine av rfl (fun h2 => ?_) (fun h2 => ?_)
  ·(repeat' (first|refine ah ?_|refine a6 ?_|refine au ?_|refine a8 ?_|refine ar ?_|refine aG ?_|refine aK ?_|refine aa ?_|refine ae a7 rfl rfl ?_|fail))
   refine aB rfl rfl ?_
   unfold cD
   rw [gD hil (by rw [hb]; simpa using h2), Bool.and_false]
  ·(repeat' (first|refine a6 ?_|refine ak ?_|refine a8 ?_|refine aJ ?_|refine aa ?_|refine ae a7 rfl rfl ?_|(apply aX; refine aW ?_)|fail))
   refine aE (i + 1) rfl ⟨by rw [Int.natCast_add]; rfl, trivial⟩ ⟨by omega, fun j hj => ?_⟩ (by omega) (fun _ _ h => h)
   by_cases e : j = i
   ·subst e; rw [hb]; simpa using h2
   ·exact hi.2 j (by omega)
 ·have hil : i = s.size := by have := of_decide_eq_false h; omega
  subst hil
  (repeat' (first|refine ah ?_|refine a6 ?_|refine au ?_|refine aR ?_|refine a8 ?_|refine az ?_|refine aC ?_|refine aA ?_|refine aa ?_|refine ae a7 rfl rfl ?_|fail))
  refine aB rfl rfl ?_
  unfold cD
  rw [decide_eq_true hC, gN.2 hi.2]
  rfl
instance (s : ByteArray) : AD Tryz.prog 99 [ph s] (c8 (cD s)) := ⟨oq s⟩
def kf (i : Nat) (c : Int) : Bool := decide ((gT c = true ∨ c = 95 ∨ c = 46) ∨ (0 < i ∧ ((48 ≤ c ∧ c ≤ 57) ∨ c = 45)))
def cJ (s : ByteArray) : Bool := decide (1 ≤ s.size ∧ s.size ≤ 16) && qe s.size fun i => kf i (iU s i)
set_option maxHeartbeats 1000000 in
theorem s8 (s : ByteArray) : bo Tryz.prog 87 [ph s] (c8 (cJ s)) := by
 refine aU Tryz.func87 rfl Tryz.ntmps87 rfl fun B => ?_
 (repeat' (first|refine ah ?_|refine a6 ?_|refine a8 ?_|refine aa ?_|refine ae a7 rfl rfl ?_|fail))
 refine ci [0] (¬ (1 ≤ s.size ∧ s.size ≤ 16)) rfl (fun Q' K => ?_) (fun hC => ?_) (fun hC => ?_)
 ·(repeat' (first|refine aa ?_|refine ae a7 rfl rfl ?_|refine aw rfl rfl ?_|refine aD rfl rfl rfl rfl ?_|refine aS rfl rfl rfl (fun _ => ?_) (fun _ => ?_)|fail))
  all_goals exact K _ _ rfl rfl (by simp_all <;> omega)
 ·(repeat' (first|refine ah ?_|refine a6 ?_|refine au ?_|refine a8 ?_|refine ar ?_|refine aa ?_|refine ae a7 rfl rfl ?_|fail))
  refine aB rfl rfl ?_
  unfold cJ
  rw [decide_eq_false hC]
  rfl
 have hC := Decidable.not_not.1 hC
 (repeat' (first|refine ah ?_|refine a6 ?_|refine am ?_|refine ak ?_|refine a8 ?_|refine aa ?_|refine ae a7 rfl rfl ?_|fail))
 refine aL [0, 16] (α := Nat) (fun i => [(17, aQ i)]) (fun i => i ≤ s.size ∧ ∀ j, j < i → kf j (iU s j) = true) (fun _ => []) (fun i => s.size - i) 0 rfl ⟨rfl, trivial⟩ ⟨Nat.zero_le _, fun j hj => absurd hj (Nat.not_lt_zero _)⟩ (fun _ _ h => h) fun i hi => ?_
 try dsimp only [List.cons_append, List.nil_append, List.map_cons, List.map_nil]
 (repeat' (first|refine ah ?_|refine a6 ?_|refine a8 ?_|refine aa ?_|refine ae a7 rfl rfl ?_|fail))
 refine av rfl (fun h => ?_) (fun h => ?_)
 ·have hil : i < s.size := by have := of_decide_eq_true h; omega
  obtain ⟨c, hc⟩ := mK hil
  have hb := ij hc
  (repeat' (first|refine ah ?_|refine a6 ?_|refine am ?_|refine ak ?_|refine a8 ?_|refine aa ?_|refine ae a7 rfl rfl ?_|fail))
  refine mH a7 rfl rfl rfl rfl (by omega) (by rw [Int.toNat_natCast]; exact hc) rfl ?_
  generalize (c.toNat : Int) = z at *
  (repeat' (first|refine ah ?_|refine a6 ?_|refine a8 ?_|refine aa ?_|refine ae a7 rfl rfl ?_|(apply ba;refine aY ?_)|fail))
  refine bv (t := 5) [0, 3, 4, 16, 17] (gT z = true ∨ z = 95 ∨ z = 46) rfl (fun Q' K => ?_) ?_
  ·clear hi hb hc h
   (repeat' (first|refine aa ?_|refine ae a7 rfl rfl ?_|refine aw rfl rfl ?_|refine aD rfl rfl rfl rfl ?_|refine aS rfl rfl rfl (fun _ => ?_) (fun _ => ?_)|fail))
   all_goals exact K _ _ rfl rfl (by simp_all)
  (repeat' (first|refine ah ?_|refine a6 ?_|refine a8 ?_|refine ae a7 rfl rfl ?_|fail))
  refine bv (t := 6) [0, 5, 16, 17] (0 < i ∧ ((48 ≤ z ∧ z ≤ 57) ∨ z = 45)) rfl (fun Q' K => ?_) ?_
  ·clear hi hb hc h
   (repeat' (first|refine aa ?_|refine ae a7 rfl rfl ?_|refine aw rfl rfl ?_|refine aD rfl rfl rfl rfl ?_|refine bT rfl rfl rfl ?_|refine aS rfl rfl rfl (fun _ => ?_) (fun _ => ?_)|fail))
   all_goals exact K _ _ rfl rfl (by simp_all <;> omega)
  (repeat' (first|refine ah ?_|refine a6 ?_|refine a8 ?_|refine ae a7 rfl rfl ?_|fail))
  refine ci [0, 16, 17] (kf i z = false) rfl (fun Q' K => ?_) (fun h2 => ?_) (fun h2 => ?_)
  ·clear hi hb hc h
   (repeat' (first|refine aa ?_|refine ae a7 rfl rfl ?_|refine aw rfl rfl ?_|refine aD rfl rfl rfl rfl ?_|refine aS rfl rfl rfl (fun _ => ?_) (fun _ => ?_)|fail))
   all_goals exact K _ _ rfl rfl (by clear K; unfold kf; grind)
  ·(repeat' (first|refine ah ?_|refine a6 ?_|refine au ?_|refine a8 ?_|refine ar ?_|refine aG ?_|refine aK ?_|refine aa ?_|refine ae a7 rfl rfl ?_|fail))
   refine aB rfl rfl ?_
   unfold cJ
   rw [gD hil (by rw [hb]; exact h2), Bool.and_false]
  ·(repeat' (first|refine a6 ?_|refine ak ?_|refine a8 ?_|refine aJ ?_|refine aa ?_|refine ae a7 rfl rfl ?_|(apply aX; refine aW ?_)|fail))
   refine aE (i + 1) rfl ⟨by rw [Int.natCast_add]; rfl, trivial⟩ ⟨by omega, fun j hj => ?_⟩ (by omega) (fun _ _ h => h)
   by_cases e : j = i
   ·subst e; rw [hb]; simpa using h2
   ·exact hi.2 j (by omega)
 ·have hil : i = s.size := by have := of_decide_eq_false h; omega
  subst hil
  (repeat' (first|refine ah ?_|refine a6 ?_|refine au ?_|refine aR ?_|refine a8 ?_|refine az ?_|refine aC ?_|refine aA ?_|refine aa ?_|refine ae a7 rfl rfl ?_|fail))
  refine aB rfl rfl ?_
  unfold cJ
  rw [decide_eq_true hC, gN.2 hi.2]
  rfl
instance (s : ByteArray) : AD Tryz.prog 87 [ph s] (c8 (cJ s)) := ⟨s8 s⟩
end Go.Proofs.YtpbinloeemebkaaGreat

namespace Go.Proofs.YtpbinloeemebkaaGreat
open Go.RowKit
attribute [local irreducible] AT bN AX AO Av Kt bi dE DA d6
def f5 {α : Type} (l : List α) (w : Nat → α → Int) (i : Nat) : Int := match l[i]? with | some x => w i x | none => 0
def cC {α : Type} (l : List α) (w : Nat → α → Int) : Int × Int := cV (f5 l w) l.length
def bW {α : Type} (most : Int) (l : List α) (w : Nat → α → Int) : Int × Int := cR most (f5 l w) l.length
theorem fV {α : Type} {l : List α} {w : Nat → α → Int} {i : Nat} {x : α} (h : l[i]? = some x) : f5 l w i = w i x := by unfold f5; rw [h]
theorem cP {α : Type} {P : Program} {g : FuncId} {caps : List AV} {l : List α} {el : α → AV} {w : Nat → α → Int} (h : ∀ (i : Nat) x, l[i]? = some x → bo P g ([aQ i, el x] ++ caps) (aQ (w i x))) : ∀ (i : Nat) x (L : AL), l[i]? = some x → True → AC P g ([aQ i, el x] ++ caps) L fun c _ => c = aQ (f5 l w i) ∧ (f5 l w i = 0 → True) := by
 intro i x L hx _
 rw [fV hx]
 exact ((h i x hx).any L).mono fun c L' ⟨h1, _⟩ => ⟨h1, fun _ => trivial⟩
theorem ld {α : Type} {P : Program} {g : FuncId} {caps : List AV} {l : List α} {el : α → AV} {w : Nat → α → Int} {L0 : AL} (h : ∀ (i : Nat) x, l[i]? = some x → AC P g ([aQ i, el x] ++ caps) L0 fun c L' => c = aQ (w i x) ∧ L' = L0) : ∀ (i : Nat) x (L : AL), l[i]? = some x → L = L0 → AC P g ([aQ i, el x] ++ caps) L fun c L' => c = aQ (f5 l w i) ∧ (f5 l w i = 0 → L' = L0) := by
 intro i x L hx hL
 subst hL
 rw [fV hx]
 exact (h i x hx).mono fun c L' ⟨h1, h2⟩ => ⟨h1, fun _ => h2⟩
theorem sM (n : Int) : bo Tryz.prog 267 [aQ n] (c8 (cx n)) := by
 refine aU Tryz.func267 rfl Tryz.ntmps267 rfl fun B => ?_
 (repeat' (first|refine ah ?_|refine a6 ?_|refine a8 ?_|refine aa ?_|refine ae a7 rfl rfl ?_|fail))
 refine bv (t := 2) [] (cx n = true) rfl (fun Q' K => ?_) ?_
 ·(repeat' (first|refine aa ?_|refine ae a7 rfl rfl ?_|refine aw rfl rfl ?_|refine aD rfl rfl rfl rfl ?_|refine aS rfl rfl rfl (fun _ => ?_) (fun _ => ?_)|fail))
  all_goals exact K _ _ rfl rfl (by clear K; unfold cx; grind)
 (repeat' (first|refine au ?_|refine a8 ?_|fail))
 refine aB rfl rfl ?_
 simp
instance (n : Int) : AD Tryz.prog 267 [aQ n] (c8 (cx n)) := ⟨sM n⟩
def gK (n : Int) : Int → List Int → Bool
 | last, [] => decide (last = n - 1)
 | last, e :: r => if e ≥ n ∨ e < last + 2 then false else gK n e r
def nM (p : e7) : Bool := cx p.X && cx p.Y
def gr (pts : List e7) (ends : List Int) : Bool := decide (pts.length ≤ 200 ∧ ends.length ≤ 40) && (pts.all nM && gK pts.length (-1) ends)
theorem qu {n last : Int} {l : List Int} {i : Nat} {e : Int} (h : l[i]? = some e) : gK n last (l.drop i) = if e ≥ n ∨ e < last + 2 then false else gK n e (l.drop (i + 1)) := by
 obtain ⟨hi, hx⟩ := List.getElem?_eq_some_iff.1 h
 rw [List.drop_eq_getElem_cons hi, hx]
 rfl
set_option maxHeartbeats 1000000 in
theorem pP (pts : List e7) (ends : List Int) : bo Tryz.prog 224 [.agg [.imm 3 (pts.map dv), .imm 1 (aV ends)]] (c8 (gr pts ends)) := by
 refine aU Tryz.func224 rfl Tryz.ntmps224 rfl fun B => ?_
 (repeat' (first|refine ah ?_|refine a6 ?_|refine a8 ?_|refine aa ?_|refine ae a7 rfl rfl ?_|refine b6 ?_|fail))
 refine ci [1] (¬ (pts.length ≤ 200 ∧ ends.length ≤ 40)) rfl (fun Q' K => ?_) (fun hC => ?_) (fun hC => ?_)
 ·(repeat' (first|refine aa ?_|refine ae a7 rfl rfl ?_|refine aw rfl rfl ?_|refine aD rfl rfl rfl rfl ?_|refine aS rfl rfl rfl (fun _ => ?_) (fun _ => ?_)|fail))
  all_goals exact K _ _ rfl rfl (by clear K; simp_all [aM] <;> omega)
 ·(repeat' (first|refine ah ?_|refine a6 ?_|refine au ?_|refine a8 ?_|refine ar ?_|refine aa ?_|refine ae a7 rfl rfl ?_|fail))
  refine aB rfl rfl ?_
  unfold gr
  rw [decide_eq_false hC]
  rfl
 have hC := Decidable.not_not.1 hC
 have hlm : (pts.map dv).length = pts.length := List.length_map ..
 (repeat' (first|refine ah ?_|refine a6 ?_|refine am ?_|refine ak ?_|refine a8 ?_|refine aa ?_|refine ae a7 rfl rfl ?_|fail))
 refine aL [1, 19, 20] (α := Nat) (fun i => [(21, aQ i)]) (fun i => i ≤ pts.length ∧ (pts.take i).all nM = true) (fun _ => []) (fun i => pts.length - i) 0 rfl ⟨rfl, trivial⟩ ⟨Nat.zero_le _, by simp⟩ (fun _ _ h => h) fun i hi => ?_
 try dsimp only [List.cons_append, List.nil_append, List.map_cons, List.map_nil]
 (repeat' (first|refine ah ?_|refine a6 ?_|refine a8 ?_|refine aa ?_|refine ae a7 rfl rfl ?_|fail))
 refine av rfl (fun h => ?_) (fun h => ?_)
 ·have hil : i < pts.length := by have := of_decide_eq_true h; simp at this; omega
  obtain ⟨z, hz⟩ : ∃ z, pts[i]? = some z := ⟨_, List.getElem?_eq_getElem hil⟩
  have hzg := b5 (c := dv) hz
  clear h
  (repeat' (first|refine ah ?_|refine a6 ?_|refine am ?_|refine ak ?_|refine a8 ?_|refine aa ?_|refine ae a7 rfl rfl ?_|(apply aP; first|refine aO a7 ?_|refine aI a7 ?_)|(apply aT; first|refine ai 4 a7 0 rfl rfl rfl rfl rfl rfl rfl rfl ?_|refine ai 4 a7 1 rfl rfl rfl rfl rfl rfl rfl rfl ?_|refine ai 4 a7 2 rfl rfl rfl rfl rfl rfl rfl rfl ?_|refine aj a7 0 rfl rfl rfl rfl rfl rfl rfl ?_|refine aj a7 1 rfl rfl rfl rfl rfl rfl rfl ?_|refine aj a7 2 rfl rfl rfl rfl rfl rfl rfl ?_|refine aj a7 3 rfl rfl rfl rfl rfl rfl rfl ?_|fail)|refine bb a7 fun _=>?_|(apply ba;refine aY ?_)|fail))
  refine ci [1, 19, 20, 21] (nM z = false) rfl (fun Q' K => ?_) (fun h2 => ?_) (fun h2 => ?_)
  ·clear hi hzg
   (repeat' (first|refine aa ?_|refine ae a7 rfl rfl ?_|refine aw rfl rfl ?_|refine aD rfl rfl rfl rfl ?_|(apply ba;refine aY ?_)|refine aS rfl rfl rfl (fun _ => ?_) (fun _ => ?_)|fail))
   all_goals exact K _ _ rfl rfl (by clear K; unfold nM; simp_all)
  ·(repeat' (first|refine ah ?_|refine a6 ?_|refine au ?_|refine a8 ?_|refine ar ?_|refine aG ?_|refine aK ?_|refine aa ?_|refine ae a7 rfl rfl ?_|fail))
   refine aB rfl rfl ?_
   unfold gr
   rw [show pts.all nM = false by
    rw [List.all_eq_false]
    exact ⟨z, List.mem_of_getElem? hz, by simp [h2]⟩]
   simp
  ·(repeat' (first|refine a6 ?_|refine ak ?_|refine a8 ?_|refine aJ ?_|refine aa ?_|refine ae a7 rfl rfl ?_|(apply aX; refine aW ?_)|fail))
   refine aE (i + 1) rfl ⟨by rw [Int.natCast_add]; rfl, trivial⟩ ⟨by omega, ?_⟩ (by omega) (fun _ _ h => h)
   rw [List.take_add_one, hz, List.all_append, hi.2]
   simpa using h2
 have hil : i = pts.length := by have := of_decide_eq_false h; simp at this; omega
 subst hil
 rw [List.take_length] at hi
 have hall := hi.2
 clear hi h
 have hval : gr pts ends = gK pts.length (-1) ends := by
  unfold gr
  rw [decide_eq_true hC, hall]
  rfl
 rw [hval]
 (repeat' (first|refine ah ?_|refine a6 ?_|refine am ?_|refine aR ?_|refine a8 ?_|refine az ?_|refine aC ?_|refine aA ?_|refine aa ?_|refine ae a7 rfl rfl ?_|fail))
 refine aL [1, 37, 38] (α := Nat × Int) (fun x => [(39, aQ x.1), (5, aQ x.2)]) (fun x => x.1 ≤ ends.length ∧ -1 ≤ x.2 ∧ x.2 ≤ 1000 ∧ gK pts.length (-1) ends = gK pts.length x.2 (ends.drop x.1)) (fun _ => []) (fun x => ends.length - x.1) (0, -1) rfl ⟨rfl, rfl, trivial⟩ ⟨Nat.zero_le _, by decide, by decide, rfl⟩ (fun _ _ h => h) ?_
 rintro ⟨i, last⟩ ⟨hi, hl0, hl1, he⟩
 dsimp only at hi hl0 hl1 he ⊢
 try dsimp only [List.cons_append, List.nil_append, List.map_cons, List.map_nil]
 (repeat' (first|refine ah ?_|refine a6 ?_|refine a8 ?_|refine aa ?_|refine ae a7 rfl rfl ?_|fail))
 refine av rfl (fun h => ?_) (fun h => ?_)
 ·have hil : i < ends.length := by have := of_decide_eq_true h; simp [aM] at this; omega
  obtain ⟨z, hz⟩ : ∃ z, ends[i]? = some z := ⟨_, List.getElem?_eq_getElem hil⟩
  have hzg := bk hz
  rw [qu hz] at he
  clear h
  (repeat' (first|refine ah ?_|refine a6 ?_|refine am ?_|refine ak ?_|refine a8 ?_|refine aa ?_|refine ae a7 rfl rfl ?_|(apply aP; first|refine aO a7 ?_|refine aI a7 ?_)|fail))
  refine ci [1, 7, 37, 38, 39] (z ≥ pts.length ∨ z < last + 2) rfl (fun Q' K => ?_) (fun h2 => ?_) (fun h2 => ?_)
  ·clear hi hzg he hval
   (repeat' (first|refine aa ?_|refine ae a7 rfl rfl ?_|refine aw rfl rfl ?_|refine aD rfl rfl rfl rfl ?_|(apply aX; refine aW ?_)|refine aS rfl rfl rfl (fun _ => ?_) (fun _ => ?_)|fail))
   all_goals exact K _ _ rfl rfl (by clear K; simp_all <;> omega)
  ·rw [if_pos h2] at he
   (repeat' (first|refine ah ?_|refine a6 ?_|refine au ?_|refine a8 ?_|refine ar ?_|refine aG ?_|refine aK ?_|refine aa ?_|refine ae a7 rfl rfl ?_|fail))
   refine aB rfl rfl ?_
   rw [he]
  ·rw [if_neg h2] at he
   (repeat' (first|refine a6 ?_|refine ak ?_|refine a8 ?_|refine aJ ?_|refine aa ?_|refine ae a7 rfl rfl ?_|(apply aX; refine aW ?_)|fail))
   exact aE (i + 1, z) rfl ⟨by rw [Int.natCast_add]; rfl, rfl, trivial⟩ ⟨by dsimp only; omega, by dsimp only; omega, by dsimp only; omega, he⟩ (by dsimp only; omega) (fun _ _ h => h)
 ·have hil : i = ends.length := by have := of_decide_eq_false h; simp [aM] at this; omega
  subst hil
  rw [List.drop_length] at he
  (repeat' (first|refine ah ?_|refine a6 ?_|refine au ?_|refine aR ?_|refine a8 ?_|refine az ?_|refine aC ?_|refine aA ?_|refine aa ?_|refine ae a7 rfl rfl ?_|(apply aX; refine aW ?_)|fail))
  refine aB rfl rfl ?_
  rw [he]
  simp [gK]
def Aj (_ : Nat) (p : e7) : Int := cS (!([p.X, p.Y].all cx)) 30
theorem sF (i : Nat) (p : e7) : bo Tryz.prog 223 [aQ i, .agg (dv p)] (aQ (Aj i p)) := by
 refine aU Tryz.func223 rfl Tryz.ntmps223 rfl fun B => ?_
 (repeat' (first|refine ah ?_|refine a6 ?_|refine au ?_|refine a8 ?_|refine aa ?_|refine ae a7 rfl rfl ?_|refine b6 ?_|refine bM a7 ?_|(apply ba;refine aY ?_)|fail))
 exact aB rfl rfl rfl
def gx (g : be) : Int := if g.Advance < 0 ∨ g.Advance > 16384 then 1 else if g.Points.length > 200 ∨ g.Ends.length > 40 then 2 else if (cC g.Points Aj).1 ≠ 0 then (cC g.Points Aj).1 else cS (!(gr g.Points g.Ends)) 31
theorem uZ (g : be) : bo Tryz.prog 152 [.agg (bz g)] (aQ (gx g)) := by
 refine aU Tryz.func152 rfl Tryz.ntmps152 rfl fun B => ?_
 unfold gx
 (repeat' (first|refine ah ?_|refine a6 ?_|refine am ?_|refine a8 ?_|refine aa ?_|refine ae a7 rfl rfl ?_|refine b6 ?_|fail))
 refine ci [1] (g.Advance < 0 ∨ g.Advance > 16384) rfl (fun Q' K => ?_) (fun hC => ?_) (fun hC => ?_)
 ·(repeat' (first|refine aa ?_|refine ae a7 rfl rfl ?_|refine aw rfl rfl ?_|refine aD rfl rfl rfl rfl ?_|refine aS rfl rfl rfl (fun _ => ?_) (fun _ => ?_)|fail))
  all_goals exact K _ _ rfl rfl (by clear K; grind)
 ·rw [if_pos hC]
  (repeat' (first|refine ah ?_|refine a6 ?_|refine au ?_|refine a8 ?_|refine ar ?_|refine aG ?_|refine aa ?_|refine ae a7 rfl rfl ?_|fail))
  exact aB rfl rfl rfl
 rw [if_neg hC]
 (repeat' (first|refine ah ?_|refine a6 ?_|refine ae a7 rfl rfl ?_|fail))
 refine ci [1] (g.Points.length > 200 ∨ g.Ends.length > 40) rfl (fun Q' K => ?_) (fun hC => ?_) (fun hC => ?_)
 ·(repeat' (first|refine aa ?_|refine ae a7 rfl rfl ?_|refine aw rfl rfl ?_|refine aD rfl rfl rfl rfl ?_|refine aS rfl rfl rfl (fun _ => ?_) (fun _ => ?_)|fail))
  all_goals exact K _ _ rfl rfl (by clear K; simp_all [aM] <;> omega)
 ·rw [if_pos hC]
  (repeat' (first|refine ah ?_|refine a6 ?_|refine au ?_|refine a8 ?_|refine ar ?_|refine aG ?_|refine aa ?_|refine ae a7 rfl rfl ?_|fail))
  exact aB rfl rfl rfl
 rw [if_neg hC]
 (repeat' (first|refine ah ?_|refine a6 ?_|refine ak ?_|refine a8 ?_|refine aJ ?_|refine ae a7 rfl rfl ?_|fail))
 refine aZ [] [] (xW (u := .sc (.func (.func 223) #[] #[])) (g := 223) (caps := []) rfl g.Points _ (fun _ _ => True) [] trivial (cP (fun i x _ => sF i x))) rfl rfl (List.Perm.refl _) rfl fun c L1 hc => ?_
 have hc : c = bX (cC g.Points Aj) := hc
 subst hc
 unfold bX
 (repeat' (first|refine ah ?_|refine a6 ?_|refine a8 ?_|refine aa ?_|refine ae a7 rfl rfl ?_|fail))
 refine av rfl (fun h => ?_) (fun h => ?_)
 ·rw [if_pos (of_decide_eq_true h)]
  (repeat' (first|refine ah ?_|refine a6 ?_|refine au ?_|refine a8 ?_|refine ar ?_|refine aa ?_|refine ae a7 rfl rfl ?_|fail))
  exact aB rfl rfl rfl
 ·rw [if_neg (of_decide_eq_false h)]
  (repeat' (first|refine ah ?_|refine a6 ?_|refine ak ?_|refine a8 ?_|refine ae a7 rfl rfl ?_|fail))
  refine aY (hc := ⟨pP g.Points g.Ends⟩) ?_
  (repeat' (first|refine au ?_|refine a8 ?_|refine aa ?_|refine ae a7 rfl rfl ?_|(apply ba;refine aY ?_)|fail))
  exact aB rfl rfl rfl
instance (g : be) : AD Tryz.prog 152 [.agg (bz g)] (aQ (gx g)) := ⟨uZ g⟩
end Go.Proofs.YtpbinloeemebkaaGreat

namespace Go.Proofs.YtpbinloeemebkaaGreat
open Go.RowKit Go.MapKept
structure ig (P : Program) (t : TypeId) : Prop where
 ex : ∃ f1 f2 : Field, P.underlying t = some (.struct #[f1, f2]) ∧ (f1.name ≠ "_" ∧ f2.name ≠ "_") ∧ (f1.offset = 0 ∧ f2.offset = 1) ∧ P.underlying f1.type = some (.int .i64) ∧ P.underlying f2.type = some (.int .i64)
 st : P.stoodInHeld t = false
abbrev lg (a b : Int) : Value := .agg #[.int .i64 a, .int .i64 b]
def pg (v : Value) : Prop := ∃ a b, v = lg a b
section
variable {P : Program} {t : TypeId}
theorem ox {u : TypeId} {k : IntKind} (h : P.underlying u = some (.int k)) (w : World) : (isAgg u).run P w = .ok false w := by
 simp [isAgg, run_underlying h]
theorem ep {u : TypeId} {k : IntKind} (h : P.underlying u = some (.int k)) {cs : Array Value} {o : Nat} {v : Value} (hv : cs[o]? = some v) (w : World) : (part u cs o).run P w = .ok v w := by
 simp [part, ox h, hv, Result.andThen]
theorem ig.eq (h : ig P t) (a b c d : Int) (w : World) : (Op.equal t (lg a b) (lg c d)).run P w = .ok (decide (a = c ∧ b = d)) w := by
 obtain ⟨⟨f1, f2, hu, ⟨hn1, hn2⟩, ⟨ho1, ho2⟩, h1, h2⟩, hst⟩ := h
 have hf : P.fieldsOf t = #[f1, f2] := by simp [Program.fieldsOf, hu]
 have hu' : P.underlying t = some (.struct (P.fieldsOf t)) := by rw [hf]; exact hu
 unfold Op.equal
 rw [show Op.maxDepth = 9999 + 1 from rfl, run_equalIn_struct w 9999 t _ _ hu' hst, hf]
 simp only [Op.eqFields, if_pos hn1, if_pos hn2, Sem.run_bind, ho1, ho2]
 rw [ep h1 (v := .int .i64 a) (by rfl)]
 simp only [Result.andThen]
 rw [ep h1 (v := .int .i64 c) (by rfl)]
 simp only
 rw [show (9999 : Nat) = 9998 + 1 from rfl, run_equalIn_int w 9998 f1.type .i64 .i64 a c h1]
 simp only [Sem.run_ite]
 by_cases hac : a = c
 ·subst hac
  simp only [BEq.rfl, Bool.not_true, Bool.false_eq_true, if_false, Sem.run_bind]
  rw [ep h2 (v := .int .i64 b) (by rfl)]
  simp only [Result.andThen]
  rw [ep h2 (v := .int .i64 d) (by rfl)]
  simp only
  rw [run_equalIn_int w 9998 f2.type .i64 .i64 b d h2]
  by_cases hbd : b = d
  ·subst hbd; simp
  ·simp [hbd]
 ·simp [hac]
theorem lc {a b c d : Int} : lg a b = lg c d ↔ a = c ∧ b = d := by simp
theorem ig.check (h : ig P t) {k : Value} (hk : pg k) (e : Bool) (n : Nat) (w : World) : (Instr.checkKey e (n + 2) t k).run P w = .ok () w := by
 obtain ⟨⟨f1, f2, hu, ⟨hn1, hn2⟩, ⟨ho1, ho2⟩, h1, h2⟩, hst⟩ := h
 obtain ⟨a, b, rfl⟩ := hk
 unfold Instr.checkKey
 simp only [Sem.run_bind, run_underlying hu, Result.andThen]
 rw [← Array.forIn_toList]
 simp only [List.forIn_cons, List.forIn_nil, if_pos hn1, if_pos hn2, Sem.run_bind, ho1, ho2]
 rw [ep h1 (v := .int .i64 a) (by rfl)]
 simp only [Result.andThen]
 rw [run_checkKey (d := .int .i64) h1 (by rfl)]
 simp only [Result.andThen, Sem.run_bind, Sem.run_pure]
 rw [ep h2 (v := .int .i64 b) (by rfl)]
 simp only
 rw [run_checkKey (d := .int .i64) h2 (by rfl)]
 simp only [Sem.run_pure]
theorem ig.asking (h : ig P t) {k : Value} (hk : pg k) (w : World) : ∀ (l : List MapEntry) (i : Nat), (∀ x ∈ l, pg x.key) →
  ((Instr.findAsking t k l i).run P w = .ok none w ∧ ∀ x ∈ l, x.key ≠ k) ∨ ∃ j e, (Instr.findAsking t k l i).run P w = .ok (some (i + j, e.val)) w ∧ l[j]? = some e ∧ e.key = k
 | [], _, _ => .inl ⟨by simp [Instr.findAsking], by simp⟩
 | e :: es, i, hall => by
  obtain ⟨a, b, rfl⟩ := hk
  obtain ⟨c, d, hc⟩ := hall e (.head _)
  have he := h.eq a b c d w
  by_cases hh : a = c ∧ b = d
  ·refine .inr ⟨0, e, ?_, rfl, by rw [hc, lc]; exact ⟨hh.1.symm, hh.2.symm⟩⟩
   rw [Instr.findAsking, Sem.run_bind, hc, he, decide_eq_true hh]
   simp [Result.andThen]
  ·have hne : e.key ≠ lg a b := fun q => hh (by rw [hc, lc] at q; exact ⟨q.1.symm, q.2.symm⟩)
   have hr : (Instr.findAsking t (lg a b) (e :: es) i).run P w = (Instr.findAsking t (lg a b) es (i + 1)).run P w := by
    rw [Instr.findAsking, Sem.run_bind, hc, he, decide_eq_false hh]
    simp [Result.andThen]
   rw [hr]
   rcases ig.asking h ⟨a, b, rfl⟩ w es (i + 1) (fun x hx => hall x (.tail _ hx)) with ⟨h1, h2⟩ | ⟨j, e', h1, h2, h3⟩
   ·exact .inl ⟨h1, fun x hx => by
     cases hx with
     | head => exact hne
     | tail _ hx => exact h2 x hx⟩
   ·exact .inr ⟨j + 1, e', by rw [h1, show i + (j + 1) = i + 1 + j by omega], by simpa using h2, h3⟩
theorem ig.find (h : ig P t) {k : Value} (hk : pg k) (w : World) (l : List MapEntry) (hall : ∀ x ∈ l, pg x.key) :
  ((Instr.findKey t k l).run P w = .ok none w ∧ ∀ x ∈ l, x.key ≠ k) ∨ ∃ j e, (Instr.findKey t k l).run P w = .ok (some (j, e.val)) w ∧ l[j]? = some e ∧ e.key = k := by
 have h0 := h
 obtain ⟨⟨f1, f2, hu, _⟩, _⟩ := h0
 cases l with
 | nil => exact .inl ⟨by simp [Instr.findKey, run_underlying hu, Result.andThen, Instr.findNow], by simp⟩
 | cons e es =>
  have hr : (Instr.findKey t k (e :: es)).run P w = (Instr.findAsking t k (e :: es) 0).run P w := by
   simp [Instr.findKey, run_underlying hu, Result.andThen, Instr.findNow, Instr.sameNow]
  rw [hr]
  rcases h.asking hk w (e :: es) 0 hall with h1 | ⟨j, e', h1, h2⟩
  ·exact .inl h1
  ·exact .inr ⟨j, e', by rw [h1, Nat.zero_add], h2⟩
theorem oy {k : Value} (hk : pg k) (w : World) : (Instr.keyThatStays k k).run P w = .ok k w := by
 obtain ⟨a, b, rfl⟩ := hk
 have : Instr.sameBits 10000 (lg a b) (lg a b) = true := by
  rw [show (10000 : Nat) = 9999 + 1 from rfl]
  simp [Instr.sameBits]
 simp [Instr.keyThatStays, this]
end
def fL (m : Int → Int → Option AV) (σ : ce) (o : Obj) : Prop :=
 ∃ es clock, o = .map es clock ∧ (∀ x ∈ es.toList, ∃ a b, x.key = lg a b ∧ ∃ c, m a b = some c ∧ VR σ c x.val) ∧ es.toList.Pairwise (fun x y => x.key ≠ y.key) ∧ ∀ a b c, m a b = some c → ∃ x ∈ es.toList, x.key = lg a b
def fP (m : Int → Int → Option AV) : AB := .dep (fL m) fun σ τ o hle ⟨es, clock, h1, h2, h3, h4⟩ => ⟨es, clock, h1, fun x hx => by
 obtain ⟨a, b, e, c, g, f⟩ := h2 x hx
 exact ⟨a, b, e, c, g, f.mono hle⟩, h3, h4⟩
theorem fL.keys {m : Int → Int → Option AV} {σ : ce} {es : Array MapEntry} {clock : Nat} (h : fL m σ (.map es clock)) : ∀ x ∈ es.toList, pg x.key := by
 obtain ⟨es', clock', h1, h2, h3, h4⟩ := h
 cases h1
 intro x hx
 obtain ⟨a, b, h5, _⟩ := h2 x hx
 exact ⟨a, b, h5⟩
theorem fL.none {P : Program} {t : TypeId} (ht : ig P t) {m : Int → Int → Option AV} {σ : ce} {es : Array MapEntry} {clock : Nat} {a b : Int} (h : fL m σ (.map es clock)) (hm : m a b = none) (w : World) : (Instr.findKey t (lg a b) es.toList).run P w = .ok none w ∧ ∀ x ∈ es.toList, x.key ≠ lg a b := by
 rcases ht.find ⟨a, b, rfl⟩ w es.toList h.keys with h5 | ⟨j, e, h5, h6, h7⟩
 ·exact h5
 ·obtain ⟨es', clock', h1, h2, h3, h4⟩ := h
  cases h1
  obtain ⟨a', b', h8, c, h9, _⟩ := h2 e (List.mem_of_getElem? h6)
  rw [h7, lc] at h8
  rw [h8.1, h8.2] at hm
  rw [hm] at h9
  cases h9
theorem fL.some {P : Program} {t : TypeId} (ht : ig P t) {m : Int → Int → Option AV} {σ : ce} {es : Array MapEntry} {clock : Nat} {a b : Int} {c : AV} (h : fL m σ (.map es clock)) (hm : m a b = some c) (w : World) : ∃ (j : Nat) (e : MapEntry), (Instr.findKey t (lg a b) es.toList).run P w = .ok (some (j, e.val)) w ∧ es[j]? = some e ∧ e.key = lg a b ∧ VR σ c e.val := by
 rcases ht.find ⟨a, b, rfl⟩ w es.toList h.keys with ⟨_, h5⟩ | ⟨j, e, h5, h6, h7⟩
 ·obtain ⟨es', clock', h1, h2, h3, h4⟩ := h
  cases h1
  obtain ⟨x, hx, hk'⟩ := h4 a b c hm
  exact absurd hk' (h5 x hx)
 ·obtain ⟨es', clock', h1, h2, h3, h4⟩ := h
  cases h1
  obtain ⟨a', b', h8, c', h9, h10⟩ := h2 e (List.mem_of_getElem? h6)
  rw [h7, lc] at h8
  rw [← h8.1, ← h8.2, hm] at h9
  cases h9
  exact ⟨j, e, h5, by simpa using h6, h7, h10⟩
theorem q5 {σ : ce} {a b : Int} {v : Value} (h : VR σ (.agg [.sc (.int .i64 a), .sc (.int .i64 b)]) v) : v = lg a b := by
 obtain ⟨vs, rfl, hs, _⟩ := h.agg_inv
 obtain ⟨v1, ws, rfl, h1, h2⟩ := hs.inv
 obtain ⟨v2, ws', rfl, h3, h4⟩ := h2.inv
 rw [h4.nil_inv, h1.sc_inv, h3.sc_inv]
section
variable {P : Program} {fr : c9} {B : Bs} {L : AL} {d : Option Tmp} {ty t : TypeId} {pos : String} {af : Array Edge} {g : Option (Nat × Bool)} {x y z : Operand} {u : AV}
theorem qi : AO P ⟨d, .makeMap t none, ty, pos, af, g⟩ fr B L (fun c L' => ∃ b, c = .sc (.map (some b)) ∧ L' = (b, fP fun _ _ => none) :: L) := by
 intro σ ρ w hρ hw
 have hr : (execOp ρ ⟨d, .makeMap t none, ty, pos, af, g⟩).run P w = .ok (.value (.map (some w.heap.size))) (w.alloc (.map #[] 0)) := by
  simp [execOp, Instr.makeMap]
 unfold ia
 rw [hr]
 exact ⟨σ, _, _, ce.le_refl _, .sc _, hw.alloc _ (fP fun _ _ => Option.none) ⟨#[], 0, rfl, by simp, by simp, by simp⟩, _, rfl, rfl⟩
theorem ol (i : Nat) {m1 kt et : Nat} {a b : Int} {m m' : Int → Int → Option AV} (ht : P.underlying t = some (.map kt et)) (hkt : ig P kt) (hx : bB fr x = some (.sc (.map (some m1)))) (hy : bB fr y = some (.agg [.sc (.int .i64 a), .sc (.int .i64 b)])) (hz : bB fr z = some u) (hL : L[i]? = some (m1, fP m)) (h1 : m' a b = some u) (h2 : ∀ p q, ¬ (p = a ∧ q = b) → m' p q = m p q) :
  AO P ⟨d, .mapUpdate t x y z, ty, pos, af, g⟩ fr B L (fun _ L' => L' = gA L i (fP m')) := by
 intro σ ρ w hρ hw
 obtain ⟨o, ho, hM⟩ := hw.here _ (List.mem_of_getElem? hL)
 have hM' : fL m σ o := hM
 obtain ⟨es, clock, rfl, h3, h4, h5⟩ := hM'
 have hM' : fL m σ (.map es clock) := hM
 have hv := hρ z u hz
 have hy' := q5 (hρ y _ hy)
 have hlt : m1 < w.heap.size := (Array.getElem?_eq_some_iff.1 ho).1
 have hk : pg (lg a b) := ⟨a, b, rfl⟩
 have key : ∃ es' clock', (Instr.mapUpdate t (.map (some m1)) (lg a b) (ρ z)).run P w = .ok () (w.putObj m1 (.map es' clock')) ∧ fL m' σ (.map es' clock') := by
  cases hm : m a b with
  | none =>
   obtain ⟨hf, hne⟩ := hM'.none hkt hm w
   refine ⟨es.push ⟨lg a b, ρ z, clock⟩, clock + 1, ?_, _, _, rfl, ?_, ?_, ?_⟩
   ·simp only [Instr.mapUpdate, Sem.run_bind, run_underlying ht, MapKept.run_getObj_map ho, hkt.check hk false 9998 w, hf, Result.andThen]
    rw [MapKept.run_setObj_map _ ho]
    rfl
   ·intro e he
    rw [Array.toList_push, List.mem_append, List.mem_singleton] at he
    rcases he with he | rfl
    ·obtain ⟨p, q, h6, c, h7, h8⟩ := h3 e he
     refine ⟨p, q, h6, c, ?_, h8⟩
     rw [h2 p q (fun e1 => by rw [e1.1, e1.2, hm] at h7; cases h7)]
     exact h7
    ·exact ⟨a, b, rfl, u, h1, hv⟩
   ·rw [Array.toList_push, List.pairwise_append]
    refine ⟨h4, by simp, fun e he e' he' => ?_⟩
    rw [List.mem_singleton] at he'
    subst he'
    exact hne e he
   ·intro p q c hq
    by_cases e : p = a ∧ q = b
    ·obtain ⟨rfl, rfl⟩ := e
     exact ⟨_, by rw [Array.toList_push]; exact List.mem_append.2 (Or.inr (List.mem_singleton.2 rfl)), rfl⟩
    ·rw [h2 p q e] at hq
     obtain ⟨y, hy, hy'⟩ := h5 p q c hq
     exact ⟨y, by rw [Array.toList_push]; exact List.mem_append.2 (Or.inl hy), hy'⟩
  | some c =>
   obtain ⟨j, e, h6, h7, h8, h9⟩ := hM'.some hkt hm w
   have hdis : ∀ n e', es[n]? = some e' → ¬ j = n → e'.key ≠ lg a b := by
    intro n e' hn hne
    rw [← Array.getElem?_toList] at hn h7
    rw [← h8]
    rw [List.pairwise_iff_getElem] at h4
    obtain ⟨hj1, hj2⟩ := List.getElem?_eq_some_iff.1 h7
    obtain ⟨hn1, hn2⟩ := List.getElem?_eq_some_iff.1 hn
    rcases Nat.lt_or_gt_of_ne hne with hlt | hgt
    ·have := h4 j n hj1 hn1 hlt
     rw [hj2, hn2] at this
     exact this.symm
    ·have := h4 n j hn1 hj1 hgt
     rw [hj2, hn2] at this
     exact this
   refine ⟨es.modify j (fun e' => { e' with key := lg a b, val := ρ z }), clock, ?_, _, _, rfl, ?_, ?_, ?_⟩
   ·simp only [Instr.mapUpdate, Sem.run_bind, run_underlying ht, MapKept.run_getObj_map ho, hkt.check hk false 9998 w, h6, Result.andThen]
    rw [show ((es[j]?).map (·.key)).getD (lg a b) = lg a b by rw [h7]; exact h8, oy hk]
    simp only
    rw [MapKept.run_setObj_map _ ho]
    rfl
   ·intro e' he'
    obtain ⟨n, hn⟩ := List.mem_iff_getElem?.1 he'
    rw [Array.getElem?_toList, Array.getElem?_modify] at hn
    by_cases e1 : j = n
    ·subst e1
     rw [if_pos rfl, h7] at hn
     simp at hn
     subst hn
     exact ⟨a, b, rfl, u, h1, hv⟩
    ·rw [if_neg e1] at hn
     obtain ⟨p, q, h10, c', h11, h12⟩ := h3 e' (List.mem_of_getElem? (by rw [Array.getElem?_toList]; exact hn))
     refine ⟨p, q, h10, c', ?_, h12⟩
     rw [h2 p q (fun e2 => hdis n e' hn e1 (by rw [h10, e2.1, e2.2]))]
     exact h11
   ·have hkeys : (es.modify j (fun e' => { e' with key := lg a b, val := ρ z })).toList.map MapEntry.key = es.toList.map MapEntry.key := by
     apply List.ext_getElem?
     intro n
     rw [List.getElem?_map, List.getElem?_map, Array.getElem?_toList, Array.getElem?_toList, Array.getElem?_modify]
     by_cases e1 : j = n
     ·subst e1
      rw [if_pos rfl, h7]
      simp [h8]
     ·rw [if_neg e1]
    refine (List.pairwise_map (f := MapEntry.key) (R := fun a b : Value => a ≠ b)).1 ?_
    rw [hkeys]
    exact List.pairwise_map.2 h4
   ·intro p q c hq
    by_cases e1 : p = a ∧ q = b
    ·obtain ⟨rfl, rfl⟩ := e1
     refine ⟨{ e with key := lg p q, val := ρ z }, List.mem_iff_getElem?.2 ⟨j, ?_⟩, rfl⟩
     rw [Array.getElem?_toList, Array.getElem?_modify, if_pos rfl, h7]
     rfl
    ·rw [h2 p q e1] at hq
     obtain ⟨y, hy, hy'⟩ := h5 p q c hq
     obtain ⟨n, hn⟩ := List.mem_iff_getElem?.1 hy
     rw [Array.getElem?_toList] at hn
     refine ⟨y, List.mem_iff_getElem?.2 ⟨n, ?_⟩, hy'⟩
     rw [Array.getElem?_toList, Array.getElem?_modify, if_neg, hn]
     intro e2
     subst e2
     rw [h7] at hn
     injection hn with hn
     subst hn
     rw [h8, lc] at hy'
     exact e1 ⟨hy'.1.symm, hy'.2.symm⟩
 obtain ⟨es', clock', hr, hq⟩ := key
 unfold ia
 rw [show (execOp ρ ⟨d, .mapUpdate t x y z, ty, pos, af, g⟩).run P w = .ok .skip (w.putObj m1 (.map es' clock')) by simp only [execOp, (hρ x _ hx).sc_inv, hy', Sem.run_bind, Sem.run_pure, Result.andThen, hr]]
 exact ⟨σ, .sc undef, _, ce.le_refl _, .sc _, hw.putAt (a' := fP m') hL (fun _ => trivial) (j4 w m1 _) (World.putObj_heap_same hlt) hq, rfl⟩
theorem qh (i : Nat) {m1 kt et : Nat} {a b : Int} {v0 : Value} {m : Int → Int → Option AV} {c0 : AV} (ht : P.underlying t = some (.map kt et)) (hkt : ig P kt) (hx : bB fr x = some (.sc (.map (some m1)))) (hy : bB fr y = some (.agg [.sc (.int .i64 a), .sc (.int .i64 b)])) (hL : L[i]? = some (m1, fP m)) (hz : ∀ w, (zeroValue et).run P w = .ok v0 w) (h0 : ∀ σ, VR σ c0 v0) :
  AO P ⟨d, .lookup t x y false, ty, pos, af, g⟩ fr B L (fun c L' => c = (m a b).getD c0 ∧ L' = L) := by
 intro σ ρ w hρ hw
 obtain ⟨o, ho, hM⟩ := hw.here _ (List.mem_of_getElem? hL)
 have hM' : fL m σ o := hM
 obtain ⟨es, clock, rfl, _⟩ := hM'
 have hM' : fL m σ (.map es clock) := hM
 have hk : pg (lg a b) := ⟨a, b, rfl⟩
 have hy' := q5 (hρ y _ hy)
 obtain ⟨v, hr, hv⟩ : ∃ v, (Instr.lookup t (.map (some m1)) (lg a b) false).run P w = .ok v w ∧ VR σ ((m a b).getD c0) v := by
  cases hm : m a b with
  | none =>
   refine ⟨v0, ?_, h0 σ⟩
   simp only [Instr.lookup, Sem.run_bind, run_underlying ht, MapKept.run_getObj_map ho, hkt.check hk _ 9998 w, (hM'.none hkt hm w).1, Result.andThen, hz, Sem.run_pure]
   rfl
  | some c =>
   obtain ⟨j, e, h6, h7, h8, h9⟩ := hM'.some hkt hm w
   refine ⟨e.val, ?_, h9⟩
   simp only [Instr.lookup, Sem.run_bind, run_underlying ht, MapKept.run_getObj_map ho, hkt.check hk _ 9998 w, h6, Result.andThen, Sem.run_pure]
   rfl
 unfold ia
 rw [show (execOp ρ ⟨d, .lookup t x y false, ty, pos, af, g⟩).run P w = .ok (.value v) w by simp only [execOp, (hρ x _ hx).sc_inv, hy', Sem.run_bind, Sem.run_pure, Result.andThen, hr]]
 exact ⟨σ, (m a b).getD c0, _, ce.le_refl _, hv, hw, rfl, rfl⟩
end
section
variable {P : Program} {r : Option Nat} {ops : Array Oper} {Q : Exit → Act → World → Prop} {nt : Nat} {D : List Deferred} {fr : c9} {B : Bs} {L : AL} {rest : List Oper} {d : Nat} {ty t : TypeId} {pos : String} {af : Array Edge} {x y z : Operand} {u : AV}
theorem sl (h : ∀ b, bN P r ops Q nt D rest ((d, .sc (.map (some b))) :: fr) B ((b, fP fun _ _ => none) :: L)) (hd : Nat.ble nt d = false := by rfl) : bN P r ops Q nt D (⟨some d, .makeMap t none, ty, pos, af, none⟩ :: rest) fr B L :=
 cT hd rfl qi fun c L' ⟨b, h1, h2⟩ => by subst h1; subst h2; exact h b
theorem pM (i : Nat) (m' : Int → Int → Option AV) {b kt et : Nat} {p q : Int} {m : Int → Int → Option AV} (ht : P.underlying t = some (.map kt et)) (hkt : ig P kt) (hx : bB fr x = some (.sc (.map (some b)))) (hy : bB fr y = some (.agg [.sc (.int .i64 p), .sc (.int .i64 q)])) (hz : bB fr z = some u) (hL : L[i]? = some (b, fP m)) (h1 : m' p q = some u) (h2 : ∀ p' q', ¬ (p' = p ∧ q' = q) → m' p' q' = m p' q')
  (h : bN P r ops Q nt D rest fr B (gA L i (fP m'))) : bN P r ops Q nt D (⟨none, .mapUpdate t x y z, ty, pos, af, none⟩ :: rest) fr B L :=
 kC rfl (ol i ht hkt hx hy hz hL h1 h2) fun c L' h3 => by subst h3; exact h
theorem sj (i : Nat) (v0 : Value) {b kt et : Nat} {p q : Int} {m : Int → Int → Option AV} (ht : P.underlying t = some (.map kt et)) (hkt : ig P kt) (hx : bB fr x = some (.sc (.map (some b)))) (hy : bB fr y = some (.agg [.sc (.int .i64 p), .sc (.int .i64 q)])) (hL : L[i]? = some (b, fP m)) (hz : jn P et v0 = true) (hd : Nat.ble nt d = false)
  (h : bN P r ops Q nt D rest ((d, (m p q).getD (.sc v0)) :: fr) B L) : bN P r ops Q nt D (⟨some d, .lookup t x y false, ty, pos, af, none⟩ :: rest) fr B L :=
 cT hd rfl (qh i ht hkt hx hy hL (eT hz) fun _ => .sc _) fun c L' ⟨h1, h2⟩ => by subst h1; subst h2; exact h
end
end Go.Proofs.YtpbinloeemebkaaGreat
