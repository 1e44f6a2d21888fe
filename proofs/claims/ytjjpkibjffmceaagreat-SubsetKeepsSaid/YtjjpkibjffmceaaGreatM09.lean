/-
  The program: what the first look tells that finds something wrong.
-/
import Derived.Test.YtjjpkibjffmceaaGreatM08
import Derived.Test.YtjjpkibjffmceaaGreatM05
import Derived.Test.YtjjpkibjffmceaaGreatM07
namespace Go.Proofs.YtjjpkibjffmceaaGreat
open Go.RowKit
attribute [local irreducible] AT bT AX AO Av Kt bk ej DA cX
structure Lk where
 f : FuncId
 caps : List AV
 L : AL
 e : Int
 n : Int
def Lk.ok (x : Lk) : Prop := bD Tryz.prog x.f ∧ AC Tryz.prog x.f x.caps x.L fun c _ => c = cq (x.e, x.n)
def qk : List Lk → Int × Int
 | [] => (0, 0)
 | x :: r => if x.e = 0 then qk r else (x.e, x.n)
def CR (l : List Lk) : AL := (l.map Lk.L).flatten
def ui : List Lk → Prop
 | [] => True
 | x :: r => x.ok ∧ (x.e = 0 → ui r)
def EQ (x : Lk) : List AV := [.fn x.f x.caps]
theorem yw {l : List Lk} {i : Nat} {x : Lk} (h : l[i]? = some x) : qk (l.drop i) = if x.e = 0 then qk (l.drop (i + 1)) else (x.e, x.n) := by
 obtain ⟨hi, hx⟩ := Gn h
 rw [List.drop_eq_getElem_cons hi, hx]
 rfl
theorem wC {l : List Lk} {i : Nat} {x : Lk} (h : l[i]? = some x) (hk : ui (l.drop i)) : x.ok ∧ (x.e = 0 → ui (l.drop (i + 1))) := by
 obtain ⟨hi, hx⟩ := Gn h
 rw [List.drop_eq_getElem_cons hi, hx] at hk
 exact hk
theorem sA : ∀ {l : List Lk}, (qk l).1 = 0 → qk l = (0, 0)
 | [], _ => rfl
 | x :: r, h => by
  unfold qk at h ⊢
  split
  ·rename_i h0
   rw [if_pos h0] at h
   exact sA h
  ·rename_i h0
   rw [if_neg h0] at h
   exact absurd h h0
theorem yx {l : List Lk} {i : Nat} {x : Lk} (h : l[i]? = some x) : CR (l.drop i) = x.L ++ CR (l.drop (i + 1)) := by
 obtain ⟨hi, hx⟩ := Gn h
 unfold CR
 rw [List.drop_eq_getElem_cons hi, hx]
 rfl
theorem wk {σ0 : cw} {l : Nat} (ls : List Lk) (hok : ui ls) (E : AL) (E' : Int → Int → AL) (hy : ∀ e n, e ≠ 0 → AY Tryz.prog σ0 l [aM e, aM n] E fun c L => c = cF false ∧ L = E' e n) :
  zP Tryz.prog σ0 213 [.sc (.func (.yield l) #[] #[]), .iptr [.imm 1 (ls.map EQ)]] (CR ls ++ E) fun _ L => L = if (qk ls).1 = 0 then E else E' (qk ls).1 (qk ls).2 := by
 refine qI Tryz.func213 rfl Tryz.ntmps213 rfl fun B hB => ?_
 repeat' (first|refine ah ?_|refine a7 ?_|refine aq ?_|refine a8 ?_|refine aa ?_|refine ae a6 rfl rfl ?_)
 refine cz 7 rfl rfl fun hlen => ?_
 rw [Gu] at hlen
 refine aN [0, 7, 8] (α := Nat) (fun i => [(9, aM i)]) (fun i => i ≤ ls.length ∧ qk ls = qk (ls.drop i) ∧ ui (ls.drop i)) (fun i => CR (ls.drop i) ++ E) (fun i => ls.length - i) 0 rfl ⟨rfl, trivial⟩ ⟨Nat.zero_le _, rfl, hok⟩ (fun _ _ h => h) fun i ⟨hi, he, hok⟩ => ?_
 try dsimp only [Gr, Gq, Gp, Gj]
 repeat' (first|refine ah ?_|refine a7 ?_|refine a8 ?_|refine aa ?_|refine ae a6 rfl rfl ?_)
 refine aw rfl (fun h => ?_) (fun h => ?_)
 ·have hil : i < ls.length := by have := Gz h; simp at this; omega
  obtain ⟨x, hx⟩ : ∃ z, ls[i]? = some z := ⟨_, Ds hil⟩
  have hzg := bj (c := EQ) hx
  obtain ⟨⟨hcf, hac⟩, hok⟩ := wC hx hok
  rw [yw hx] at he
  rw [yx hx]
  repeat' (first|refine ah ?_|refine a7 ?_|refine aq ?_|refine au ?_|refine a8 ?_|refine aa ?_|refine ae a6 rfl rfl ?_|(apply aY; first|refine aX a6 ?_|refine aS a6 ?_)|fail)
  refine cV (cs := []) x.L (CR (ls.drop (i + 1)) ++ E) (by simpa using hac) rfl rfl rfl (by rw [List.append_assoc]) rfl rfl fun c L1 hc => ?_
  subst hc
  refine aO (bY (List.sublist_append_right ..)) ?_
  unfold cq
  repeat' (first|refine ah ?_|refine a7 ?_|refine a8 ?_|refine aa ?_|refine ae a6 rfl rfl ?_)
  by_cases h0 : x.e = 0
  ·rw [if_pos h0] at he
   rw [h0]
   repeat' (first|refine a7 ?_|refine au ?_|refine a8 ?_|refine aI ?_|refine aa ?_|refine ae a6 rfl rfl ?_|refine aL rfl rfl rfl rfl ?_|(apply aW; refine aV ?_)|refine bv rfl ?_)
   exact aC (i + 1) rfl ⟨by rw [Gw]; rfl, trivial⟩ ⟨by omega, he, hok h0⟩ (by omega) (fun _ _ h => h)
  ·rw [if_neg h0] at he
   rw [show decide (x.e ≠ 0) = true from decide_eq_true h0]
   repeat' (first|refine ae a6 rfl rfl ?_|refine aG rfl rfl ?_)
   refine aO (bY (List.sublist_append_right ..)) ?_
   refine nQ E [] hB (hy x.e x.n h0) rfl rfl rfl (bR rfl) rfl rfl fun c L1 ⟨hc, hL⟩ => ?_
   subst hc; subst hL
   rw [List.append_nil]
   repeat' (first|refine ar ?_|refine a8 ?_|refine aF ?_|refine aT ?_|refine bE ?_|refine aa ?_|refine ae a6 rfl rfl ?_|refine aG rfl rfl ?_|refine bQ rfl ?_)
   refine Ad rfl ?_
   rw [he, if_neg h0]
 ·have hil : i = ls.length := by have := Gy h; simp at this; omega
  subst hil
  rw [List.drop_length] at he ⊢
  repeat' (first|refine aR ?_|refine av ?_|refine aB ?_|refine ay ?_)
  refine dz rfl ?_
  rw [he]
  rfl
theorem tV (l : List (List AV)) : bO Tryz.prog 156 [.imm 1 l] (.fn 213 [.iptr [.imm 1 l]]) := by
 refine aP Tryz.func156 rfl Tryz.ntmps156 rfl fun B => ?_
 repeat' (first|refine ah ?_|refine a7 ?_|refine ar ?_|refine a8 ?_|refine aa ?_|refine ae a6 rfl rfl ?_|refine be ?_|fail)
 exact aA rfl rfl rfl
instance (l : List (List AV)) : AD Tryz.prog 156 [.imm 1 l] (.fn 213 [.iptr [.imm 1 l]]) := ⟨tV l⟩
theorem zb {p q : Nat × AB} {l l2 : AL} : (p :: q :: (l ++ l2)).Perm (l ++ (p :: q :: l2)) := by
 have := (List.perm_append_comm (l₁ := [p, q]) (l₂ := l)).append_right l2
 simpa using this
set_option maxHeartbeats 1000000 in
theorem iH (ls : List Lk) (hok : ui ls) : AC Tryz.prog 113 [.imm 1 (ls.map EQ)] (CR ls) fun c _ => c = cq (qk ls) := by
 refine nZ Tryz.func113 rfl Tryz.ntmps113 rfl fun B => ?_
 repeat' (first|refine ah ?_|refine a7 ?_|refine aq ?_|refine a8 ?_|refine aa ?_|refine ae a6 rfl rfl ?_|refine b5 a6 fun _=>?_|(apply bA;refine bh ?_)|fail)
 rename_i b2 b3
 refine jC (ps := [8, 9]) rfl fun σ0 l db rec hrec => ?_
 have hy : ∀ e n : Int, e ≠ 0 → AY Tryz.prog σ0 l [aM e, aM n] ([(b3, .box [aM 0] 3), (b2, .box [aM 0] 44), (db, gO)] ++ [(l, gk rec)]) fun c L => c = cF false ∧ L = [(b3, .box [aM n] 3), (b2, .box [aM e] 44), (db, gO)] ++ [(l, gk { ({ rec with state := .busy } : Loop) with state := .done, pending := some .ret })] := by
  intro e n he
  refine rW hrec rfl rfl fun B1 hB1 => ?_
  repeat' (first|refine ah ?_|refine a7 ?_|refine a8 ?_|refine aa ?_|refine ae a6 rfl rfl ?_)
  refine jD hrec.state ?_
  repeat' (first|refine ah ?_|refine a7 ?_|refine aq ?_|refine ar ?_|refine a8 ?_|refine aT ?_|refine aa ?_|refine ae a6 rfl rfl ?_|(apply aH; first|refine aj a6 0 rfl rfl rfl rfl rfl rfl rfl ?_|refine aj a6 1 rfl rfl rfl rfl rfl rfl rfl ?_|refine aj a6 2 rfl rfl rfl rfl rfl rfl rfl ?_|refine aj a6 3 rfl rfl rfl rfl rfl rfl rfl ?_|fail))
  refine tG (L := [(b3, .box [aM n] 3), (b2, .box [aM e] 44), (db, gO)]) ?_
  exact ⟨rfl, rfl⟩
 refine ⟨_, (wk ls hok _ _ hy).perm ?_, fun c L' hL' => ?_⟩
 ·simp only [List.append_assoc, Gr, Gq]
  exact zb
 ·by_cases h0 : (qk ls).1 = 0
  ·rw [if_pos h0] at hL'
   subst hL'
   refine ⟨rec, _, Gm _, (by rw [hrec.state]; intro h; cases h), ?_⟩
   rw [hrec.pending]
   show AX _ _ _ _ _ _ _ _
   repeat' (first|refine ah ?_|refine a7 ?_|refine ar ?_|refine a8 ?_|refine aI ?_|refine aa ?_|(apply aH; first|refine aj a6 0 rfl rfl rfl rfl rfl rfl rfl ?_|refine aj a6 1 rfl rfl rfl rfl rfl rfl rfl ?_|refine aj a6 2 rfl rfl rfl rfl rfl rfl rfl ?_|refine aj a6 3 rfl rfl rfl rfl rfl rfl rfl ?_|fail))
   refine j6 (cs := [aM 0, aM 0]) [db] [(b3, .box [aM 0] 3), (b2, .box [aM 0] 44)] rfl (Gm _) ?_ ?_
   ·exact ⟨⟨b2, 1, _, _, rfl, rfl, .inl ⟨cU a6 rfl, rfl⟩⟩, ⟨b3, 0, _, _, rfl, rfl, .inl ⟨cU a6 rfl, rfl⟩⟩, trivial⟩
   ·have : qk ls = (0, 0) := sA h0
    rw [this]
    rfl
  ·rw [if_neg h0] at hL'
   subst hL'
   refine ⟨_, _, Gm _, (by intro h; cases h), ?_⟩
   show AX _ _ _ _ _ _ _ _
   repeat' (first|refine aF ?_|refine aT ?_)
   refine j6 (cs := [aM (qk ls).1, aM (qk ls).2]) [db] [(b3, .box [aM (qk ls).2] 3), (b2, .box [aM (qk ls).1] 44)] rfl (Gm _) ?_ rfl
   exact ⟨⟨b2, 1, _, _, rfl, rfl, .inl ⟨cU a6 rfl, rfl⟩⟩, ⟨b3, 0, _, _, rfl, rfl, .inl ⟨cU a6 rfl, rfl⟩⟩, trivial⟩
def dX (b : Bool) (e : Int) : Int := bif b then e else 0
theorem zL (b : Bool) (e : Int) : bO Tryz.prog 144 [cF b, aM e] (aM (dX b e)) := by
 refine aP Tryz.func144 rfl Tryz.ntmps144 rfl fun B => ?_
 repeat' (first|refine ah ?_|refine a7 ?_|refine a8 ?_|refine aa ?_|refine ae a6 rfl rfl ?_)
 refine aw rfl (fun h => ?_) (fun h => ?_)
 ·subst h
  repeat' (first|refine ah ?_|refine a7 ?_|refine ar ?_|refine a8 ?_|refine aF ?_|refine aa ?_|refine ae a6 rfl rfl ?_)
  exact aA rfl rfl rfl
 ·subst h
  repeat' (first|refine ah ?_|refine a7 ?_|refine au ?_|refine ar ?_|refine a8 ?_|refine aa ?_|refine ae a6 rfl rfl ?_)
  exact aA rfl rfl rfl
instance (b : Bool) (e : Int) : AD Tryz.prog 144 [cF b, aM e] (aM (dX b e)) := ⟨zL b e⟩
def fN (z : Int) : Bool := decide (-16384 ≤ z ∧ z ≤ 16384)
theorem rd (l : List Int) : bO Tryz.prog 145 [.imm 1 (aU l)] (cF (l.all fN)) := by
 refine aP Tryz.func145 rfl Tryz.ntmps145 rfl fun B => ?_
 refine cz 0 rfl rfl fun hlen => ?_
 rw [aQ] at hlen
 repeat' (first|refine ah ?_|refine a7 ?_|refine aq ?_|refine a8 ?_|refine aa ?_|refine ae a6 rfl rfl ?_)
 refine aN [5, 6] (α := Nat) (fun i => [(7, aM i)]) (fun i => i ≤ l.length ∧ (l.take i).all fN = true) (fun _ => []) (fun i => l.length - i) 0 rfl ⟨rfl, trivial⟩ ⟨Nat.zero_le _, by simp⟩ (fun _ _ h => h) fun i hi => ?_
 try dsimp only [Gr, Gq, Gp, Gj]
 repeat' (first|refine ah ?_|refine a7 ?_|refine a8 ?_|refine aa ?_|refine ae a6 rfl rfl ?_)
 refine aw rfl (fun h => ?_) (fun h => ?_)
 ·have hil : i < l.length := by have := Gz h; rw [aQ] at this; omega
  obtain ⟨z, hz⟩ : ∃ z, l[i]? = some z := ⟨_, Ds hil⟩
  have hzg := bN hz
  repeat' (first|refine ah ?_|refine a7 ?_|refine aq ?_|refine au ?_|refine a8 ?_|refine aa ?_|refine ae a6 rfl rfl ?_|(apply aY; first|refine aX a6 ?_|refine aS a6 ?_)|fail)
  refine dJ [5, 6, 7] (fN z = false) rfl (fun Q' K => ?_) (fun hC => ?_) (fun hC => ?_)
  ·repeat' (first|refine aa ?_|refine ae a6 rfl rfl ?_|refine aG rfl rfl ?_|refine aL rfl rfl rfl rfl ?_|refine bc rfl rfl rfl (fun _ => ?_) (fun _ => ?_))
   all_goals exact K _ _ rfl rfl (by unfold fN; simp_all <;> omega)
  ·repeat' (first|refine ah ?_|refine a7 ?_|refine ar ?_|refine a8 ?_|refine aF ?_|refine aT ?_|refine bE ?_|refine aa ?_|refine ae a6 rfl rfl ?_)
   refine aA rfl rfl ?_
   rw [show l.all fN = false by
    rw [List.all_eq_false]
    exact ⟨z, Gx hz, by simp [hC]⟩]
  ·repeat' (first|refine a7 ?_|refine au ?_|refine a8 ?_|refine aI ?_|refine aa ?_|refine ae a6 rfl rfl ?_|(apply aW; refine aV ?_)|fail)
   refine aC (i + 1) rfl ⟨by rw [Gw]; rfl, trivial⟩ ⟨by omega, ?_⟩ (by omega) (fun _ _ h => h)
   rw [List.take_add_one, hz, List.all_append, hi.2]
   simpa using hC
 ·have hil : i = l.length := by have := Gy h; rw [aQ] at this; omega
  subst hil
  rw [List.take_length] at hi
  repeat' (first|refine ah ?_|refine a7 ?_|refine ar ?_|refine aR ?_|refine a8 ?_|refine av ?_|refine aB ?_|refine ay ?_|refine aa ?_|refine ae a6 rfl rfl ?_)
  refine aA rfl rfl ?_
  rw [hi.2]
instance (x : Int) : AD Tryz.prog 145 [.imm 1 [[aM x]]] (cF ([x].all fN)) := ⟨rd [x]⟩
instance (x y : Int) : AD Tryz.prog 145 [.imm 1 [[aM x], [aM y]]] (cF ([x, y].all fN)) := ⟨rd [x, y]⟩
instance (x y z : Int) : AD Tryz.prog 145 [.imm 1 [[aM x], [aM y], [aM z]]] (cF ([x, y, z].all fN)) := ⟨rd [x, y, z]⟩
def jS (f : aJ) (n : Int) : Bool := decide (0 ≤ n ∧ n < f.Glyphs.length)
theorem sv (f : aJ) (n : Int) : bO Tryz.prog 164 [cr f, aM n] (cF (jS f n)) := by
 refine aP Tryz.func164 rfl Tryz.ntmps164 rfl fun B => ?_
 repeat' (first|refine ah ?_|refine a7 ?_|refine a8 ?_|refine aa ?_|refine ae a6 rfl rfl ?_|refine be ?_|fail)
 refine cZ (t := 4) [] (jS f n = true) rfl (fun Q' K => ?_) ?_
 ·repeat' (first|refine aa ?_|refine ae a6 rfl rfl ?_|refine aG rfl rfl ?_|refine aL rfl rfl rfl rfl ?_|refine bc rfl rfl rfl (fun _ => ?_) (fun _ => ?_))
  all_goals exact K _ _ rfl rfl (by unfold jS; simp_all <;> omega)
 repeat' (first|refine ar ?_|refine a8 ?_)
 refine aA rfl rfl ?_
 simp
instance (f : aJ) (n : Int) : AD Tryz.prog 164 [cr f, aM n] (cF (jS f n)) := ⟨sv f n⟩
def jH (right taken : Bool) : Int := bif right then (bif taken then 24 else 0) else 23
theorem pG (a b : Bool) : bO Tryz.prog 119 [cF a, cF b] (aM (jH a b)) := by
 refine aP Tryz.func119 rfl Tryz.ntmps119 rfl fun B => ?_
 repeat' (first|refine ah ?_|refine a7 ?_|refine aq ?_|refine a8 ?_|refine aa ?_|refine ae a6 rfl rfl ?_)
 refine aw rfl (fun h => ?_) (fun h => ?_)
 ·repeat' (first|refine ah ?_|refine a7 ?_|refine ar ?_|refine a8 ?_|refine aF ?_|refine aT ?_|refine aa ?_|refine ae a6 rfl rfl ?_)
  refine aA rfl rfl ?_
  cases a with
  | true => cases h
  | false => rfl
 ·repeat' (first|refine ah ?_|refine a7 ?_|refine a8 ?_|refine aa ?_|refine ae a6 rfl rfl ?_)
  have ha : a = true := by cases a with
   | true => rfl
   | false => cases h
  subst ha
  refine aw rfl (fun h => ?_) (fun h => ?_)
  ·subst h
   repeat' (first|refine ah ?_|refine a7 ?_|refine ar ?_|refine a8 ?_|refine aF ?_|refine aT ?_|refine aa ?_|refine ae a6 rfl rfl ?_)
   exact aA rfl rfl rfl
  ·subst h
   repeat' (first|refine ah ?_|refine a7 ?_|refine au ?_|refine ar ?_|refine a8 ?_|refine aI ?_|refine aa ?_|refine ae a6 rfl rfl ?_)
   exact aA rfl rfl rfl
instance (a b : Bool) : AD Tryz.prog 119 [cF a, cF b] (aM (jH a b)) := ⟨pG a b⟩
def ng (c : Int) : Bool := decide ((65 ≤ c ∧ c ≤ 90) ∨ (97 ≤ c ∧ c ≤ 122))
abbrev U8 (c : Int) : AV := .sc (.int .u8 c)
theorem r5 (c : Int) : bO Tryz.prog 170 [U8 c] (cF (ng c)) := by
 refine aP Tryz.func170 rfl Tryz.ntmps170 rfl fun B => ?_
 repeat' (first|refine ah ?_|refine a7 ?_|refine a8 ?_|refine aa ?_|refine ae a6 rfl rfl ?_)
 refine cZ (t := 2) [] (ng c = true) rfl (fun Q' K => ?_) ?_
 ·repeat' (first|refine aa ?_|refine ae a6 rfl rfl ?_|refine aG rfl rfl ?_|refine aL rfl rfl rfl rfl ?_|refine dm rfl rfl rfl ?_|refine bc rfl rfl rfl (fun _ => ?_) (fun _ => ?_))
  all_goals exact K _ _ rfl rfl (by unfold ng; simp_all <;> omega)
 repeat' (first|refine ar ?_|refine a8 ?_)
 refine aA rfl rfl ?_
 simp
instance (c : Int) : AD Tryz.prog 170 [U8 c] (cF (ng c)) := ⟨r5 c⟩
section
variable {P : Program} {tt : TT} {r : Option Nat} {ops : Array Oper} {Q : Exit → Act → World → Prop} {nt : Nat} {D : List Deferred} {fr : ca} {B : Bs} {L : AL} {rest : List Oper} {d : Nat} {ty t : TypeId} {pos : String} {af : Array Edge} {x y z : Operand}
theorem vj (ok : eW P tt) {s : ByteArray} {k : IntKind} {i : Int} {c : UInt8} {ti : TI} (ht : dq tt t = some ti) (hk : ti.k = .str) (hx : bH fr x = some (.sc (.string s))) (hy : bH fr y = some (.sc (.int k i))) (h0 : 0 ≤ i) (hu : s[i.toNat]? = some c) (hd : Nat.ble nt d = false) (h : bT P r ops Q nt D rest ((d, U8 c.toNat) :: fr) B L) : bT P r ops Q nt D (⟨some d, .index t x y, ty, pos, af, none⟩ :: rest) fr B L := dy (tr (ok.str ht hk) hx hy h0 hu) hd rfl h
end
def mx (s : ByteArray) (i : Nat) : Int := match s[i]? with | some c => c.toNat | none => 0
theorem og {s : ByteArray} {i : Nat} {c : UInt8} (h : s[i]? = some c) : mx s i = c.toNat := by unfold mx; rw [h]
def rK (n : Nat) (p : Nat → Bool) : Bool := (List.range n).all p
theorem mp {n : Nat} {p : Nat → Bool} : rK n p = true ↔ ∀ i, i < n → p i = true := by simp [rK]
theorem n8 {n : Nat} {p : Nat → Bool} {i : Nat} (hi : i < n) (h : p i = false) : rK n p = false := by
 rw [Bool.eq_false_iff]
 intro hh
 rw [mp.1 hh i hi] at h
 cases h
theorem vz {s : ByteArray} {i : Nat} (h : i < s.size) : ∃ c, s[i]? = some c := ⟨s[i], by simp [h]⟩
def f6 (s : ByteArray) : Bool := decide (1 ≤ s.size ∧ s.size ≤ 8) && rK s.size fun i => ng (mx s i)
theorem pE (s : ByteArray) : bO Tryz.prog 132 [kf s] (cF (f6 s)) := by
 refine aP Tryz.func132 rfl Tryz.ntmps132 rfl fun B => ?_
 repeat' (first|refine ah ?_|refine a7 ?_|refine a8 ?_|refine aa ?_|refine ae a6 rfl rfl ?_)
 refine dJ [0] (¬ (1 ≤ s.size ∧ s.size ≤ 8)) rfl (fun Q' K => ?_) (fun hC => ?_) (fun hC => ?_)
 ·repeat' (first|refine aa ?_|refine ae a6 rfl rfl ?_|refine aG rfl rfl ?_|refine aL rfl rfl rfl rfl ?_|refine bc rfl rfl rfl (fun _ => ?_) (fun _ => ?_))
  all_goals exact K _ _ rfl rfl (by simp_all <;> omega)
 ·repeat' (first|refine ah ?_|refine a7 ?_|refine ar ?_|refine a8 ?_|refine aF ?_|refine aa ?_|refine ae a6 rfl rfl ?_)
  refine aA rfl rfl ?_
  unfold f6
  rw [decide_eq_false hC]
  rfl
 have hC := Decidable.not_not.1 hC
 repeat' (first|refine ah ?_|refine a7 ?_|refine aq ?_|refine au ?_|refine a8 ?_|refine aa ?_|refine ae a6 rfl rfl ?_)
 refine aN [0, 13] (α := Nat) (fun i => [(14, aM i)]) (fun i => i ≤ s.size ∧ ∀ j, j < i → ng (mx s j) = true) (fun _ => []) (fun i => s.size - i) 0 rfl ⟨rfl, trivial⟩ ⟨Nat.zero_le _, fun j hj => absurd hj (Nat.not_lt_zero _)⟩ (fun _ _ h => h) fun i hi => ?_
 try dsimp only [Gr, Gq, Gp, Gj]
 repeat' (first|refine ah ?_|refine a7 ?_|refine a8 ?_|refine aa ?_|refine ae a6 rfl rfl ?_)
 refine aw rfl (fun h => ?_) (fun h => ?_)
 ·have hil : i < s.size := by have := Gz h; omega
  obtain ⟨c, hc⟩ := vz hil
  have hb := og hc
  repeat' (first|refine ah ?_|refine a7 ?_|refine aq ?_|refine au ?_|refine a8 ?_|refine aa ?_|refine ae a6 rfl rfl ?_)
  refine vj a6 rfl rfl rfl rfl (by omega) (by rw [Int.toNat_natCast]; exact hc) rfl ?_
  repeat' (first|refine a8 ?_|refine aa ?_|refine ae a6 rfl rfl ?_|(apply bA;refine bh ?_)|fail)
  refine aw rfl (fun h2 => ?_) (fun h2 => ?_)
  ·repeat' (first|refine ah ?_|refine a7 ?_|refine ar ?_|refine a8 ?_|refine aF ?_|refine aT ?_|refine bE ?_|refine aa ?_|refine ae a6 rfl rfl ?_)
   refine aA rfl rfl ?_
   unfold f6
   rw [n8 hil (by rw [hb]; simpa using h2), Bool.and_false]
  ·repeat' (first|refine a7 ?_|refine au ?_|refine a8 ?_|refine aI ?_|refine aa ?_|refine ae a6 rfl rfl ?_|(apply aW; refine aV ?_)|fail)
   refine aC (i + 1) rfl ⟨by rw [Gw]; rfl, trivial⟩ ⟨by omega, fun j hj => ?_⟩ (by omega) (fun _ _ h => h)
   by_cases e : j = i
   ·subst e; rw [hb]; simpa using h2
   ·exact hi.2 j (by omega)
 ·have hil : i = s.size := by have := Gy h; omega
  subst hil
  repeat' (first|refine ah ?_|refine a7 ?_|refine ar ?_|refine aR ?_|refine a8 ?_|refine av ?_|refine aB ?_|refine ay ?_|refine aa ?_|refine ae a6 rfl rfl ?_)
  refine aA rfl rfl ?_
  unfold f6
  rw [decide_eq_true hC, mp.2 hi.2]
  rfl
instance (s : ByteArray) : AD Tryz.prog 132 [kf s] (cF (f6 s)) := ⟨pE s⟩
def rf (i : Nat) (c : Int) : Bool := decide ((ng c = true ∨ c = 95 ∨ c = 46) ∨ (0 < i ∧ ((48 ≤ c ∧ c ≤ 57) ∨ c = 45)))
def fM (s : ByteArray) : Bool := decide (1 ≤ s.size ∧ s.size ≤ 16) && rK s.size fun i => rf i (mx s i)
set_option maxHeartbeats 1000000 in
theorem ug (s : ByteArray) : bO Tryz.prog 120 [kf s] (cF (fM s)) := by
 refine aP Tryz.func120 rfl Tryz.ntmps120 rfl fun B => ?_
 repeat' (first|refine ah ?_|refine a7 ?_|refine a8 ?_|refine aa ?_|refine ae a6 rfl rfl ?_)
 refine dJ [0] (¬ (1 ≤ s.size ∧ s.size ≤ 16)) rfl (fun Q' K => ?_) (fun hC => ?_) (fun hC => ?_)
 ·repeat' (first|refine aa ?_|refine ae a6 rfl rfl ?_|refine aG rfl rfl ?_|refine aL rfl rfl rfl rfl ?_|refine bc rfl rfl rfl (fun _ => ?_) (fun _ => ?_))
  all_goals exact K _ _ rfl rfl (by simp_all <;> omega)
 ·repeat' (first|refine ah ?_|refine a7 ?_|refine ar ?_|refine a8 ?_|refine aF ?_|refine aa ?_|refine ae a6 rfl rfl ?_)
  refine aA rfl rfl ?_
  unfold fM
  rw [decide_eq_false hC]
  rfl
 have hC := Decidable.not_not.1 hC
 repeat' (first|refine ah ?_|refine a7 ?_|refine aq ?_|refine au ?_|refine a8 ?_|refine aa ?_|refine ae a6 rfl rfl ?_)
 refine aN [0, 16] (α := Nat) (fun i => [(17, aM i)]) (fun i => i ≤ s.size ∧ ∀ j, j < i → rf j (mx s j) = true) (fun _ => []) (fun i => s.size - i) 0 rfl ⟨rfl, trivial⟩ ⟨Nat.zero_le _, fun j hj => absurd hj (Nat.not_lt_zero _)⟩ (fun _ _ h => h) fun i hi => ?_
 try dsimp only [Gr, Gq, Gp, Gj]
 repeat' (first|refine ah ?_|refine a7 ?_|refine a8 ?_|refine aa ?_|refine ae a6 rfl rfl ?_)
 refine aw rfl (fun h => ?_) (fun h => ?_)
 ·have hil : i < s.size := by have := Gz h; omega
  obtain ⟨c, hc⟩ := vz hil
  have hb := og hc
  repeat' (first|refine ah ?_|refine a7 ?_|refine aq ?_|refine au ?_|refine a8 ?_|refine aa ?_|refine ae a6 rfl rfl ?_)
  refine vj a6 rfl rfl rfl rfl (by omega) (by rw [Int.toNat_natCast]; exact hc) rfl ?_
  generalize (c.toNat : Int) = z at *
  repeat' (first|refine ah ?_|refine a7 ?_|refine a8 ?_|refine aa ?_|refine ae a6 rfl rfl ?_|(apply bA;refine bh ?_)|fail)
  refine cZ (t := 5) [0, 3, 4, 16, 17] (ng z = true ∨ z = 95 ∨ z = 46) rfl (fun Q' K => ?_) ?_
  ·clear hi hb hc h
   repeat' (first|refine aa ?_|refine ae a6 rfl rfl ?_|refine aG rfl rfl ?_|refine aL rfl rfl rfl rfl ?_|refine bc rfl rfl rfl (fun _ => ?_) (fun _ => ?_))
   all_goals exact K _ _ rfl rfl (by simp_all)
  repeat' (first|refine ah ?_|refine a7 ?_|refine a8 ?_|refine ae a6 rfl rfl ?_)
  refine cZ (t := 6) [0, 5, 16, 17] (0 < i ∧ ((48 ≤ z ∧ z ≤ 57) ∨ z = 45)) rfl (fun Q' K => ?_) ?_
  ·clear hi hb hc h
   repeat' (first|refine aa ?_|refine ae a6 rfl rfl ?_|refine aG rfl rfl ?_|refine aL rfl rfl rfl rfl ?_|refine dm rfl rfl rfl ?_|refine bc rfl rfl rfl (fun _ => ?_) (fun _ => ?_))
   all_goals exact K _ _ rfl rfl (by simp_all <;> omega)
  repeat' (first|refine ah ?_|refine a7 ?_|refine a8 ?_|refine ae a6 rfl rfl ?_)
  refine dJ [0, 16, 17] (rf i z = false) rfl (fun Q' K => ?_) (fun h2 => ?_) (fun h2 => ?_)
  ·clear hi hb hc h
   repeat' (first|refine aa ?_|refine ae a6 rfl rfl ?_|refine aG rfl rfl ?_|refine aL rfl rfl rfl rfl ?_|refine bc rfl rfl rfl (fun _ => ?_) (fun _ => ?_))
   all_goals exact K _ _ rfl rfl (by clear K; unfold rf; grind)
  ·repeat' (first|refine ah ?_|refine a7 ?_|refine ar ?_|refine a8 ?_|refine aF ?_|refine aT ?_|refine bE ?_|refine aa ?_|refine ae a6 rfl rfl ?_)
   refine aA rfl rfl ?_
   unfold fM
   rw [n8 hil (by rw [hb]; exact h2), Bool.and_false]
  ·repeat' (first|refine a7 ?_|refine au ?_|refine a8 ?_|refine aI ?_|refine aa ?_|refine ae a6 rfl rfl ?_|(apply aW; refine aV ?_)|fail)
   refine aC (i + 1) rfl ⟨by rw [Gw]; rfl, trivial⟩ ⟨by omega, fun j hj => ?_⟩ (by omega) (fun _ _ h => h)
   by_cases e : j = i
   ·subst e; rw [hb]; simpa using h2
   ·exact hi.2 j (by omega)
 ·have hil : i = s.size := by have := Gy h; omega
  subst hil
  repeat' (first|refine ah ?_|refine a7 ?_|refine ar ?_|refine aR ?_|refine a8 ?_|refine av ?_|refine aB ?_|refine ay ?_|refine aa ?_|refine ae a6 rfl rfl ?_)
  refine aA rfl rfl ?_
  unfold fM
  rw [decide_eq_true hC, mp.2 hi.2]
  rfl
instance (s : ByteArray) : AD Tryz.prog 120 [kf s] (cF (fM s)) := ⟨ug s⟩
end Go.Proofs.YtjjpkibjffmceaaGreat
namespace Go.Proofs.YtjjpkibjffmceaaGreat
open Go.RowKit
attribute [local irreducible] AT bT AX AO Av Kt bk ej DA cX
def fB {α : Type} (l : List α) (w : Nat → α → Int) (i : Nat) : Int := match l[i]? with | some x => w i x | none => 0
def da {α : Type} (l : List α) (w : Nat → α → Int) : Int × Int := dp (fB l w) l.length
def ck {α : Type} (most : Int) (l : List α) (w : Nat → α → Int) : Int × Int := dc most (fB l w) l.length
theorem gT {α : Type} {l : List α} {w : Nat → α → Int} {i : Nat} {x : α} (h : l[i]? = some x) : fB l w i = w i x := by unfold fB; rw [h]
theorem qb {α : Type} {l : List α} {w : Nat → α → Int} (h : ∀ i x, l[i]? = some x → w i x = 0) (i : Nat) : fB l w i = 0 := by
 unfold fB
 split
 ·exact h _ _ (by assumption)
 ·rfl
theorem fc {α : Type} {l : List α} {w : Nat → α → Int} (h : ∀ i x, l[i]? = some x → w i x = 0) : da l w = (0, 0) := q8 fun i _ => qb h i
theorem dR {α : Type} {most : Int} {l : List α} {w : Nat → α → Int} (hm : (l.length : Int) ≤ most) (h : ∀ i x, l[i]? = some x → w i x = 0) : ck most l w = (0, 0) := xe hm fun i _ => qb h i
theorem dk {α : Type} {P : Program} {g : FuncId} {caps : List AV} {l : List α} {el : α → AV} {w : Nat → α → Int} (h : ∀ (i : Nat) x, l[i]? = some x → bO P g ([aM i, el x] ++ caps) (aM (w i x))) : ∀ (i : Nat) x (L : AL), l[i]? = some x → True → AC P g ([aM i, el x] ++ caps) L fun c _ => c = aM (fB l w i) ∧ (fB l w i = 0 → True) := by
 intro i x L hx _
 rw [gT hx]
 exact ((h i x hx).any L).mono fun c L' ⟨h1, _⟩ => ⟨h1, fun _ => trivial⟩
theorem pv {α : Type} {P : Program} {g : FuncId} {caps : List AV} {l : List α} {el : α → AV} {w : Nat → α → Int} {L0 : AL} (h : ∀ (i : Nat) x, l[i]? = some x → AC P g ([aM i, el x] ++ caps) L0 fun c L' => c = aM (w i x) ∧ L' = L0) : ∀ (i : Nat) x (L : AL), l[i]? = some x → L = L0 → AC P g ([aM i, el x] ++ caps) L fun c L' => c = aM (fB l w i) ∧ (fB l w i = 0 → L' = L0) := by
 intro i x L hx hL
 subst hL
 rw [gT hx]
 exact (h i x hx).mono fun c L' ⟨h1, h2⟩ => ⟨h1, fun _ => h2⟩
theorem uN (n : Int) : bO Tryz.prog 250 [aM n] (cF (fN n)) := by
 refine aP Tryz.func250 rfl Tryz.ntmps250 rfl fun B => ?_
 repeat' (first|refine ah ?_|refine a7 ?_|refine a8 ?_|refine aa ?_|refine ae a6 rfl rfl ?_)
 refine cZ (t := 2) [] (fN n = true) rfl (fun Q' K => ?_) ?_
 ·repeat' (first|refine aa ?_|refine ae a6 rfl rfl ?_|refine aG rfl rfl ?_|refine aL rfl rfl rfl rfl ?_|refine bc rfl rfl rfl (fun _ => ?_) (fun _ => ?_))
  all_goals exact K _ _ rfl rfl (by clear K; unfold fN; grind)
 repeat' (first|refine ar ?_|refine a8 ?_)
 refine aA rfl rfl ?_
 simp
instance (n : Int) : AD Tryz.prog 250 [aM n] (cF (fN n)) := ⟨uN n⟩
def f3 (n : Int) : Int → List Int → Bool
 | last, [] => decide (last = n - 1)
 | last, e :: r => if e ≥ n ∨ e < last + 2 then false else f3 n e r
def nr (p : ei) : Bool := fN p.X && fN p.Y
def gx (pts : List ei) (ends : List Int) : Bool := decide (pts.length ≤ 200 ∧ ends.length ≤ 40) && (pts.all nr && f3 pts.length (-1) ends)
theorem se {n last : Int} {l : List Int} {i : Nat} {e : Int} (h : l[i]? = some e) : f3 n last (l.drop i) = if e ≥ n ∨ e < last + 2 then false else f3 n e (l.drop (i + 1)) := by
 obtain ⟨hi, hx⟩ := Gn h
 rw [List.drop_eq_getElem_cons hi, hx]
 rfl
set_option maxHeartbeats 1000000 in
theorem rk (pts : List ei) (ends : List Int) : bO Tryz.prog 216 [.agg [.imm 3 (pts.map cP), .imm 1 (aU ends)]] (cF (gx pts ends)) := by
 refine aP Tryz.func216 rfl Tryz.ntmps216 rfl fun B => ?_
 repeat' (first|refine ah ?_|refine a7 ?_|refine a8 ?_|refine aa ?_|refine ae a6 rfl rfl ?_|refine be ?_|fail)
 refine dJ [1] (¬ (pts.length ≤ 200 ∧ ends.length ≤ 40)) rfl (fun Q' K => ?_) (fun hC => ?_) (fun hC => ?_)
 ·repeat' (first|refine aa ?_|refine ae a6 rfl rfl ?_|refine aG rfl rfl ?_|refine aL rfl rfl rfl rfl ?_|refine bc rfl rfl rfl (fun _ => ?_) (fun _ => ?_))
  all_goals exact K _ _ rfl rfl (by clear K; simp_all [aQ] <;> omega)
 ·repeat' (first|refine ah ?_|refine a7 ?_|refine ar ?_|refine a8 ?_|refine aF ?_|refine aa ?_|refine ae a6 rfl rfl ?_)
  refine aA rfl rfl ?_
  unfold gx
  rw [decide_eq_false hC]
  rfl
 have hC := Decidable.not_not.1 hC
 have hlm : (pts.map cP).length = pts.length := Gu ..
 repeat' (first|refine ah ?_|refine a7 ?_|refine aq ?_|refine au ?_|refine a8 ?_|refine aa ?_|refine ae a6 rfl rfl ?_)
 refine aN [1, 19, 20] (α := Nat) (fun i => [(21, aM i)]) (fun i => i ≤ pts.length ∧ (pts.take i).all nr = true) (fun _ => []) (fun i => pts.length - i) 0 rfl ⟨rfl, trivial⟩ ⟨Nat.zero_le _, by simp⟩ (fun _ _ h => h) fun i hi => ?_
 try dsimp only [Gr, Gq, Gp, Gj]
 repeat' (first|refine ah ?_|refine a7 ?_|refine a8 ?_|refine aa ?_|refine ae a6 rfl rfl ?_)
 refine aw rfl (fun h => ?_) (fun h => ?_)
 ·have hil : i < pts.length := by have := Gz h; simp at this; omega
  obtain ⟨z, hz⟩ : ∃ z, pts[i]? = some z := ⟨_, Ds hil⟩
  have hzg := bj (c := cP) hz
  clear h
  repeat' (first|refine ah ?_|refine a7 ?_|refine aq ?_|refine au ?_|refine a8 ?_|refine aa ?_|refine ae a6 rfl rfl ?_|(apply aY; first|refine aX a6 ?_|refine aS a6 ?_)|(apply aH; first|refine ai 4 a6 0 rfl rfl rfl rfl rfl rfl rfl rfl ?_|refine ai 4 a6 1 rfl rfl rfl rfl rfl rfl rfl rfl ?_|refine ai 4 a6 2 rfl rfl rfl rfl rfl rfl rfl rfl ?_|refine aj a6 0 rfl rfl rfl rfl rfl rfl rfl ?_|refine aj a6 1 rfl rfl rfl rfl rfl rfl rfl ?_|refine aj a6 2 rfl rfl rfl rfl rfl rfl rfl ?_|refine aj a6 3 rfl rfl rfl rfl rfl rfl rfl ?_|fail)|refine b5 a6 fun _=>?_|(apply bA;refine bh ?_)|fail)
  refine dJ [1, 19, 20, 21] (nr z = false) rfl (fun Q' K => ?_) (fun h2 => ?_) (fun h2 => ?_)
  ·clear hi hzg
   repeat' (first|refine aa ?_|refine ae a6 rfl rfl ?_|refine aG rfl rfl ?_|refine aL rfl rfl rfl rfl ?_|(apply bA;refine bh ?_)|refine bc rfl rfl rfl (fun _ => ?_) (fun _ => ?_))
   all_goals exact K _ _ rfl rfl (by clear K; unfold nr; simp_all)
  ·repeat' (first|refine ah ?_|refine a7 ?_|refine ar ?_|refine a8 ?_|refine aF ?_|refine aT ?_|refine bE ?_|refine aa ?_|refine ae a6 rfl rfl ?_)
   refine aA rfl rfl ?_
   unfold gx
   rw [show pts.all nr = false by
    rw [List.all_eq_false]
    exact ⟨z, Gx hz, by simp [h2]⟩]
   simp
  ·repeat' (first|refine a7 ?_|refine au ?_|refine a8 ?_|refine aI ?_|refine aa ?_|refine ae a6 rfl rfl ?_|(apply aW; refine aV ?_)|fail)
   refine aC (i + 1) rfl ⟨by rw [Gw]; rfl, trivial⟩ ⟨by omega, ?_⟩ (by omega) (fun _ _ h => h)
   rw [List.take_add_one, hz, List.all_append, hi.2]
   simpa using h2
 have hil : i = pts.length := by have := Gy h; simp at this; omega
 subst hil
 rw [List.take_length] at hi
 have hall := hi.2
 clear hi h
 have hval : gx pts ends = f3 pts.length (-1) ends := by
  unfold gx
  rw [decide_eq_true hC, hall]
  rfl
 rw [hval]
 repeat' (first|refine ah ?_|refine a7 ?_|refine aq ?_|refine aR ?_|refine a8 ?_|refine av ?_|refine aB ?_|refine ay ?_|refine aa ?_|refine ae a6 rfl rfl ?_)
 refine aN [1, 37, 38] (α := Nat × Int) (fun x => [(39, aM x.1), (5, aM x.2)]) (fun x => x.1 ≤ ends.length ∧ -1 ≤ x.2 ∧ x.2 ≤ 1000 ∧ f3 pts.length (-1) ends = f3 pts.length x.2 (ends.drop x.1)) (fun _ => []) (fun x => ends.length - x.1) (0, -1) rfl ⟨rfl, rfl, trivial⟩ ⟨Nat.zero_le _, by decide, by decide, rfl⟩ (fun _ _ h => h) ?_
 rintro ⟨i, last⟩ ⟨hi, hl0, hl1, he⟩
 dsimp only at hi hl0 hl1 he ⊢
 try dsimp only [Gr, Gq, Gp, Gj]
 repeat' (first|refine ah ?_|refine a7 ?_|refine a8 ?_|refine aa ?_|refine ae a6 rfl rfl ?_)
 refine aw rfl (fun h => ?_) (fun h => ?_)
 ·have hil : i < ends.length := by have := Gz h; simp [aQ] at this; omega
  obtain ⟨z, hz⟩ : ∃ z, ends[i]? = some z := ⟨_, Ds hil⟩
  have hzg := bN hz
  rw [se hz] at he
  clear h
  repeat' (first|refine ah ?_|refine a7 ?_|refine aq ?_|refine au ?_|refine a8 ?_|refine aa ?_|refine ae a6 rfl rfl ?_|(apply aY; first|refine aX a6 ?_|refine aS a6 ?_)|fail)
  refine dJ [1, 7, 37, 38, 39] (z ≥ pts.length ∨ z < last + 2) rfl (fun Q' K => ?_) (fun h2 => ?_) (fun h2 => ?_)
  ·clear hi hzg he hval
   repeat' (first|refine aa ?_|refine ae a6 rfl rfl ?_|refine aG rfl rfl ?_|refine aL rfl rfl rfl rfl ?_|(apply aW; refine aV ?_)|refine bc rfl rfl rfl (fun _ => ?_) (fun _ => ?_))
   all_goals exact K _ _ rfl rfl (by clear K; simp_all <;> omega)
  ·rw [if_pos h2] at he
   repeat' (first|refine ah ?_|refine a7 ?_|refine ar ?_|refine a8 ?_|refine aF ?_|refine aT ?_|refine bE ?_|refine aa ?_|refine ae a6 rfl rfl ?_)
   refine aA rfl rfl ?_
   rw [he]
  ·rw [if_neg h2] at he
   repeat' (first|refine a7 ?_|refine au ?_|refine a8 ?_|refine aI ?_|refine aa ?_|refine ae a6 rfl rfl ?_|(apply aW; refine aV ?_)|fail)
   exact aC (i + 1, z) rfl ⟨by rw [Gw]; rfl, rfl, trivial⟩ ⟨by dsimp only; omega, by dsimp only; omega, by dsimp only; omega, he⟩ (by dsimp only; omega) (fun _ _ h => h)
 ·have hil : i = ends.length := by have := Gy h; simp [aQ] at this; omega
  subst hil
  rw [List.drop_length] at he
  repeat' (first|refine ah ?_|refine a7 ?_|refine ar ?_|refine aR ?_|refine a8 ?_|refine av ?_|refine aB ?_|refine ay ?_|refine aa ?_|refine ae a6 rfl rfl ?_|(apply aW; refine aV ?_)|fail)
  refine aA rfl rfl ?_
  rw [he]
  simp [f3]
def Em (_ : Nat) (p : ei) : Int := dX (!([p.X, p.Y].all fN)) 30
theorem uH (i : Nat) (p : ei) : bO Tryz.prog 215 [aM i, .agg (cP p)] (aM (Em i p)) := by
 refine aP Tryz.func215 rfl Tryz.ntmps215 rfl fun B => ?_
 repeat' (first|refine ah ?_|refine a7 ?_|refine ar ?_|refine a8 ?_|refine aa ?_|refine ae a6 rfl rfl ?_|refine be ?_|refine bz a6 ?_|(apply bA;refine bh ?_)|fail)
 exact aA rfl rfl rfl
def ii (g : bf) : Int := if g.Advance < 0 ∨ g.Advance > 16384 then 1 else if g.Points.length > 200 ∨ g.Ends.length > 40 then 2 else if (da g.Points Em).1 ≠ 0 then (da g.Points Em).1 else dX (!(gx g.Points g.Ends)) 31
theorem xc (g : bf) : bO Tryz.prog 161 [.agg (bb g)] (aM (ii g)) := by
 refine aP Tryz.func161 rfl Tryz.ntmps161 rfl fun B => ?_
 unfold ii
 repeat' (first|refine ah ?_|refine a7 ?_|refine aq ?_|refine a8 ?_|refine aa ?_|refine ae a6 rfl rfl ?_|refine be ?_|fail)
 refine dJ [1] (g.Advance < 0 ∨ g.Advance > 16384) rfl (fun Q' K => ?_) (fun hC => ?_) (fun hC => ?_)
 ·repeat' (first|refine aa ?_|refine ae a6 rfl rfl ?_|refine aG rfl rfl ?_|refine aL rfl rfl rfl rfl ?_|refine bc rfl rfl rfl (fun _ => ?_) (fun _ => ?_))
  all_goals exact K _ _ rfl rfl (by clear K; grind)
 ·rw [if_pos hC]
  repeat' (first|refine ah ?_|refine a7 ?_|refine ar ?_|refine a8 ?_|refine aF ?_|refine aT ?_|refine aa ?_|refine ae a6 rfl rfl ?_)
  exact aA rfl rfl rfl
 rw [if_neg hC]
 repeat' (first|refine ah ?_|refine a7 ?_|refine ae a6 rfl rfl ?_)
 refine dJ [1] (g.Points.length > 200 ∨ g.Ends.length > 40) rfl (fun Q' K => ?_) (fun hC => ?_) (fun hC => ?_)
 ·repeat' (first|refine aa ?_|refine ae a6 rfl rfl ?_|refine aG rfl rfl ?_|refine aL rfl rfl rfl rfl ?_|refine bc rfl rfl rfl (fun _ => ?_) (fun _ => ?_))
  all_goals exact K _ _ rfl rfl (by clear K; simp_all [aQ] <;> omega)
 ·rw [if_pos hC]
  repeat' (first|refine ah ?_|refine a7 ?_|refine ar ?_|refine a8 ?_|refine aF ?_|refine aT ?_|refine aa ?_|refine ae a6 rfl rfl ?_)
  exact aA rfl rfl rfl
 rw [if_neg hC]
 repeat' (first|refine ah ?_|refine a7 ?_|refine au ?_|refine a8 ?_|refine aI ?_|refine ae a6 rfl rfl ?_)
 refine b7 [] [] (AK (u := .sc (.func (.func 215) #[] #[])) (g := 215) (caps := []) rfl g.Points _ (fun _ _ => True) [] trivial (dk (fun i x _ => uH i x))) rfl rfl (Gm _) rfl fun c L1 hc => ?_
 have hc : c = cq (da g.Points Em) := hc
 subst hc
 unfold cq
 repeat' (first|refine ah ?_|refine a7 ?_|refine a8 ?_|refine aa ?_|refine ae a6 rfl rfl ?_)
 refine aw rfl (fun h => ?_) (fun h => ?_)
 ·rw [if_pos (Gz h)]
  repeat' (first|refine ah ?_|refine a7 ?_|refine ar ?_|refine a8 ?_|refine aF ?_|refine aa ?_|refine ae a6 rfl rfl ?_)
  exact aA rfl rfl rfl
 ·rw [if_neg (Gy h)]
  repeat' (first|refine ah ?_|refine a7 ?_|refine au ?_|refine a8 ?_|refine ae a6 rfl rfl ?_)
  refine bh (hc := ⟨rk g.Points g.Ends⟩) ?_
  repeat' (first|refine ar ?_|refine a8 ?_|refine aa ?_|refine ae a6 rfl rfl ?_|(apply bA;refine bh ?_)|fail)
  exact aA rfl rfl rfl
instance (g : bf) : AD Tryz.prog 161 [.agg (bb g)] (aM (ii g)) := ⟨xc g⟩
end Go.Proofs.YtjjpkibjffmceaaGreat
namespace Go.Proofs.YtjjpkibjffmceaaGreat
open Go.RowKit
attribute [local irreducible] AT bT AX AO Av Kt bk ej DA cX
open Go.MapKept
def yo (_ : Nat) (i : eb) : Int := if i.Op < 1 ∨ i.Op > 39 then 50 else if i.A < -999999999 ∨ i.A > 999999999 then 3 else 0
theorem rp (n : Nat) (i : eb) : bO Tryz.prog 199 [aM n, .agg (dH i)] (aM (yo n i)) := by
 refine aP Tryz.func199 rfl Tryz.ntmps199 rfl fun B => ?_
 unfold yo
 repeat' (first|refine ah ?_|refine a7 ?_|refine aq ?_|refine a8 ?_|refine aa ?_|refine ae a6 rfl rfl ?_|refine be ?_|fail)
 refine dJ [3] (i.Op < 1 ∨ i.Op > 39) rfl (fun Q' K => ?_) (fun hC => ?_) (fun hC => ?_)
 ·repeat' (first|refine aa ?_|refine ae a6 rfl rfl ?_|refine aG rfl rfl ?_|refine aL rfl rfl rfl rfl ?_|refine bc rfl rfl rfl (fun _ => ?_) (fun _ => ?_))
  all_goals exact K _ _ rfl rfl (by clear K; grind)
 ·rw [if_pos hC]
  repeat' (first|refine ah ?_|refine a7 ?_|refine ar ?_|refine a8 ?_|refine aF ?_|refine aT ?_|refine aa ?_|refine ae a6 rfl rfl ?_)
  exact aA rfl rfl rfl
 rw [if_neg hC]
 repeat' (first|refine ah ?_|refine a7 ?_|refine ae a6 rfl rfl ?_)
 refine dJ [] (i.A < -999999999 ∨ i.A > 999999999) rfl (fun Q' K => ?_) (fun hC => ?_) (fun hC => ?_)
 ·repeat' (first|refine aa ?_|refine ae a6 rfl rfl ?_|refine aG rfl rfl ?_|refine aL rfl rfl rfl rfl ?_|refine bc rfl rfl rfl (fun _ => ?_) (fun _ => ?_))
  all_goals exact K _ _ rfl rfl (by clear K; grind)
 ·rw [if_pos hC]
  repeat' (first|refine ah ?_|refine a7 ?_|refine ar ?_|refine a8 ?_|refine aF ?_|refine aT ?_|refine aa ?_|refine ae a6 rfl rfl ?_)
  exact aA rfl rfl rfl
 rw [if_neg hC]
 repeat' (first|refine ah ?_|refine a7 ?_|refine au ?_|refine ar ?_|refine a8 ?_|refine aI ?_|refine aa ?_|refine ae a6 rfl rfl ?_)
 exact aA rfl rfl rfl
def lY (l : List eb) : Int := (ck 200 l yo).1
theorem sS (l : List eb) : bO Tryz.prog 141 [.imm 2 (l.map dH)] (aM (lY l)) := by
 refine aP Tryz.func141 rfl Tryz.ntmps141 rfl fun B => ?_
 repeat' (first|refine ah ?_|refine a7 ?_|refine a8 ?_|refine aa ?_|refine ae a6 rfl rfl ?_|(apply bA;refine bh ?_)|fail)
 refine cV (f := 242) (cs := []) [] [] (BD (g := 199) (caps := []) rfl l 200 _ (fun _ _ => True) [] trivial (fun _ => dk fun i x _ => rp i x)) rfl rfl rfl (Gm _) rfl rfl fun c L1 hc => ?_
 have hc : c = cq (ck 200 l yo) := hc
 subst hc
 unfold cq
 repeat' (first|refine ah ?_|refine a7 ?_|refine ar ?_|refine a8 ?_|refine aa ?_|refine ae a6 rfl rfl ?_)
 exact aA rfl rfl rfl
instance (l : List eb) : AD Tryz.prog 141 [.imm 2 (l.map dH)] (aM (lY l)) := ⟨sS l⟩
def kI (f : aJ) (_ : Nat) (p : cB) : Int := if jS f p.Glyph = false then 32 else dX (!([p.X, p.Y].all fN)) 30
theorem u7 (f : aJ) (n : Nat) (p : cB) : bO Tryz.prog 163 [aM n, .agg (cn p), .iptr (bZ f)] (aM (kI f n p)) := by
 refine aP Tryz.func163 rfl Tryz.ntmps163 rfl fun B => ?_
 unfold kI
 repeat' (first|refine ah ?_|refine a7 ?_|refine a8 ?_|refine aa ?_|refine ae a6 rfl rfl ?_|refine be ?_|(apply bA;refine bh ?_)|fail)
 refine aw rfl (fun h => ?_) (fun h => ?_)
 ·rw [if_pos (by simpa using h)]
  repeat' (first|refine ah ?_|refine a7 ?_|refine ar ?_|refine a8 ?_|refine aF ?_|refine aa ?_|refine ae a6 rfl rfl ?_)
  exact aA rfl rfl rfl
 ·rw [if_neg (by simpa using h)]
  repeat' (first|refine ah ?_|refine a7 ?_|refine au ?_|refine ar ?_|refine a8 ?_|refine aa ?_|refine ae a6 rfl rfl ?_|refine bz a6 ?_|(apply bA;refine bh ?_)|fail)
  exact aA rfl rfl rfl
def kT (g : bf) (i : Nat) (a : dt) : Int := if (a.Kind < 1 ∨ a.Kind > 4) ∨ (a.Class < 0 ∨ a.Class > 15) ∨ ((a.Kind = 3 ∨ a.Kind = 4) ∧ a.Class ≠ 0) ∨ [a.X, a.Y].all fN = false ∨ (a.Kind = 2 ∧ g.Mark = false) ∨ (∃ b ∈ g.Anchors.take i, b.Kind = a.Kind ∧ b.Class = a.Class) then 35 else 0
def pD (f : aJ) (g : bf) (i : Nat) (d : dB) : Int := if d.Region < 0 ∨ d.Region ≥ f.Regions.length then 61 else if (d.Point < -1 ∨ d.Point ≥ g.Points.length) ∨ [d.X, d.Y].all fN = false ∨ (d.Point = -1 ∧ d.Y ≠ 0) then 30 else if (match i with | 0 => false | j + 1 => match g.Deltas[j]? with | some b => decide (d.Region < b.Region ∨ (d.Region = b.Region ∧ d.Point ≤ b.Point)) | none => false) = true then 24 else 0
theorem tw (b : Bool) : AC Tryz.prog 166 [cF b] [] fun c L => ∃ m, c = .fn 221 [.iptr [cF b], .iptr [.sc (.map (some m))]] ∧ L = [(m, gJ fun _ _ => none)] := by
 refine aP Tryz.func166 rfl Tryz.ntmps166 rfl fun B => ?_
 repeat' (first|refine ah ?_|refine a7 ?_|refine a8 ?_|refine aa ?_|refine ae a6 rfl rfl ?_|refine be ?_|fail)
 refine ur fun m => ?_
 repeat' (first|refine ah ?_|refine a7 ?_|refine ar ?_|refine a8 ?_|refine aa ?_|refine ae a6 rfl rfl ?_|(apply aH; first|refine ai 3 a6 0 rfl rfl rfl rfl rfl rfl rfl rfl ?_|refine ai 3 a6 1 rfl rfl rfl rfl rfl rfl rfl rfl ?_|refine ai 3 a6 2 rfl rfl rfl rfl rfl rfl rfl rfl ?_|refine aj a6 0 rfl rfl rfl rfl rfl rfl rfl ?_|refine aj a6 1 rfl rfl rfl rfl rfl rfl rfl ?_|refine aj a6 2 rfl rfl rfl rfl rfl rfl rfl ?_|refine aj a6 3 rfl rfl rfl rfl rfl rfl rfl ?_|fail)|refine b5 a6 fun _=>?_|fail)
 exact aA rfl rfl ⟨_, rfl, rfl⟩
theorem wh (r p : Int) : AC Tryz.prog 168 [aM r, aM p] [] fun c L => ∃ b, c = .fn 224 [.iptr [aM r], .iptr [aM p], .sc (.pointer (some ⟨b, 0, none⟩))] ∧ L = [(b, .box [aM 0, aM 0] 321)] := by
 refine aP Tryz.func168 rfl Tryz.ntmps168 rfl fun B => ?_
 repeat' (first|refine ah ?_|refine a7 ?_|refine ar ?_|refine a8 ?_|refine aa ?_|refine ae a6 rfl rfl ?_|refine be ?_|refine b5 a6 fun _=>?_|fail)
 exact aA rfl rfl ⟨_, rfl, rfl⟩
theorem u5 (e : Int) : bO Tryz.prog 159 [.iptr [aM e]] (cq (e, 0)) := by
 refine aP Tryz.func159 rfl Tryz.ntmps159 rfl fun B => ?_
 repeat' (first|refine ah ?_|refine a7 ?_|refine ar ?_|refine a8 ?_|refine aa ?_|refine ae a6 rfl rfl ?_)
 exact b6 rfl rfl rfl rfl
theorem u6 (g : bf) : bO Tryz.prog 160 [.iptr (bb g)] (cq (ii g, 0)) := by
 refine aP Tryz.func160 rfl Tryz.ntmps160 rfl fun B => ?_
 repeat' (first|refine ah ?_|refine a7 ?_|refine ar ?_|refine a8 ?_|refine aa ?_|refine ae a6 rfl rfl ?_|(apply bA;refine bh ?_)|fail)
 exact b6 rfl rfl rfl rfl
theorem u9 (g : bf) : bO Tryz.prog 169 [.iptr (bb g)] (cq (lY g.Hint, 0)) := by
 refine aP Tryz.func169 rfl Tryz.ntmps169 rfl fun B => ?_
 repeat' (first|refine ah ?_|refine a7 ?_|refine ar ?_|refine a8 ?_|refine aa ?_|refine ae a6 rfl rfl ?_|(apply bA;refine bh ?_)|fail)
 exact b6 rfl rfl rfl rfl
def g9 (l : List (Int × Int)) : Int × Int := match l with
 | [] => (0, 0)
 | x :: r => if x.1 = 0 then g9 r else x
theorem jl : ∀ l : List Lk, qk l = g9 (l.map fun x => (x.e, x.n))
 | [] => rfl
 | x :: r => by simp only [qk, Gp, g9]; rw [jl r]
theorem oz : ∀ {l : List (Int × Int)}, (∀ x ∈ l, x.1 = 0) → g9 l = (0, 0)
 | [], _ => rfl
 | x :: r, h => by unfold g9; rw [if_pos (h x (List.mem_cons_self ..))]; exact oz fun y hy => h y (Gt _ hy)
def mF (f : aJ) (g : bf) (name : Int) : Int := (g9 [(name, 0), (ii g, 0), ck 8 g.Parts (kI f), ck 16 g.Anchors (kT g), ck 400 g.Deltas (pD f g), (lY g.Hint, 0)]).1
end Go.Proofs.YtjjpkibjffmceaaGreat
