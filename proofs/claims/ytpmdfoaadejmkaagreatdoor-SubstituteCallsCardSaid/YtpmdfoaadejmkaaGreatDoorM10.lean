/-
  The program: what the first look tells that finds something wrong.
-/
import Derived.Test.YtpmdfoaadejmkaaGreatDoorM09
import Derived.Test.YtpmdfoaadejmkaaGreatDoorM08
import Derived.Test.YtpmdfoaadejmkaaGreatDoorM05
import Derived.Test.YtpmdfoaadejmkaaGreatDoorM07
namespace Go.Proofs.YtpmdfoaadejmkaaGreatDoor
open Go.RowKit
attribute [local irreducible] AT bf AX AO Av Kt aZ df DA cA
structure Lk where
 f : FuncId
 caps : List AV
 L : AL
 e : Int
 n : Int
def Lk.ok (x : Lk) : Prop := bi Tryz.prog x.f ∧ AC Tryz.prog x.f x.caps x.L fun c _ => c = bK (x.e, x.n)
def oq : List Lk → Int × Int
 | [] => (0, 0)
 | x :: r => if x.e = 0 then oq r else (x.e, x.n)
def AM (l : List Lk) : AL := (l.map Lk.L).flatten
def sg : List Lk → Prop
 | [] => True
 | x :: r => x.ok ∧ (x.e = 0 → sg r)
def Cu (x : Lk) : List AV := [.fn x.f x.caps]
theorem wG {l : List Lk} {i : Nat} {x : Lk} (h : l[i]? = some x) : oq (l.drop i) = if x.e = 0 then oq (l.drop (i + 1)) else (x.e, x.n) := by
 obtain ⟨hi, hx⟩ := Dp h
 rw [List.drop_eq_getElem_cons hi, hx]
 rfl
theorem uB {l : List Lk} {i : Nat} {x : Lk} (h : l[i]? = some x) (hk : sg (l.drop i)) : x.ok ∧ (x.e = 0 → sg (l.drop (i + 1))) := by
 obtain ⟨hi, hx⟩ := Dp h
 rw [List.drop_eq_getElem_cons hi, hx] at hk
 exact hk
theorem qI : ∀ {l : List Lk}, (oq l).1 = 0 → oq l = (0, 0)
 | [], _ => rfl
 | x :: r, h => by
  unfold oq at h ⊢
  split
  ·rename_i h0
   rw [if_pos h0] at h
   exact qI h
  ·rename_i h0
   rw [if_neg h0] at h
   exact absurd h h0
theorem wH {l : List Lk} {i : Nat} {x : Lk} (h : l[i]? = some x) : AM (l.drop i) = x.L ++ AM (l.drop (i + 1)) := by
 obtain ⟨hi, hx⟩ := Dp h
 unfold AM
 rw [List.drop_eq_getElem_cons hi, hx]
 rfl
theorem um {σ0 : bJ} {l : Nat} (ls : List Lk) (hok : sg ls) (E : AL) (E' : Int → Int → AL) (hy : ∀ e n, e ≠ 0 → AY Tryz.prog σ0 l [az e, az n] E fun c L => c = dx false ∧ L = E' e n) :
  zS Tryz.prog σ0 197 [.sc (.func (.yield l) #[] #[]), .iptr [.imm 1 (ls.map Cu)]] (AM ls ++ E) fun _ L => L = if (oq ls).1 = 0 then E else E' (oq ls).1 (oq ls).2 := by
 refine vB Tryz.func197 rfl Tryz.ntmps197 rfl fun B hB => ?_
 repeat' (first|refine a8 ?_|refine a0 ?_|refine aj ?_|refine a5 ?_|refine a6 ?_|refine a7 a4 rfl rfl ?_)
 refine cf 7 rfl rfl fun hlen => ?_
 rw [Du] at hlen
 refine aK [0, 7, 8] (α := Nat) (fun i => [(9, az i)]) (fun i => i ≤ ls.length ∧ oq ls = oq (ls.drop i) ∧ sg (ls.drop i)) (fun i => AM (ls.drop i) ++ E) (fun i => ls.length - i) 0 rfl ⟨rfl, trivial⟩ ⟨Nat.zero_le _, rfl, hok⟩ (fun _ _ h => h) fun i ⟨hi, he, hok⟩ => ?_
 try dsimp only [Ds, Dr, Dq, Dn]
 repeat' (first|refine a8 ?_|refine a0 ?_|refine a5 ?_|refine a6 ?_|refine a7 a4 rfl rfl ?_)
 refine aq rfl (fun h => ?_) (fun h => ?_)
 ·have hil : i < ls.length := by have := Dz h; simp at this; omega
  obtain ⟨x, hx⟩ : ∃ z, ls[i]? = some z := ⟨_, Bj hil⟩
  have hzg := bV (c := Cu) hx
  obtain ⟨⟨hcf, hac⟩, hok⟩ := uB hx hok
  rw [wG hx] at he
  rw [wH hx]
  repeat' (first|refine a8 ?_|refine a0 ?_|refine aj ?_|refine ah ?_|refine a5 ?_|refine a6 ?_|refine a7 a4 rfl rfl ?_|(apply aE; first|refine aD a4 ?_|refine aA a4 ?_)|fail)
  refine cF (cs := []) x.L (AM (ls.drop (i + 1)) ++ E) (by simpa using hac) rfl rfl rfl (by rw [List.append_assoc]) rfl rfl fun c L1 hc => ?_
  subst hc
  refine aP (bZ (List.sublist_append_right ..)) ?_
  unfold bK
  repeat' (first|refine a8 ?_|refine a0 ?_|refine a5 ?_|refine a6 ?_|refine a7 a4 rfl rfl ?_)
  by_cases h0 : x.e = 0
  ·rw [if_pos h0] at he
   rw [h0]
   repeat' (first|refine a0 ?_|refine ah ?_|refine a5 ?_|refine aH ?_|refine a6 ?_|refine a7 a4 rfl rfl ?_|refine aw rfl rfl rfl rfl ?_|(apply aS; refine aR ?_)|refine bB rfl ?_)
   exact ay (i + 1) rfl ⟨by rw [Dv]; rfl, trivial⟩ ⟨by omega, he, hok h0⟩ (by omega) (fun _ _ h => h)
  ·rw [if_neg h0] at he
   rw [show decide (x.e ≠ 0) = true from decide_eq_true h0]
   repeat' (first|refine a7 a4 rfl rfl ?_|refine an rfl rfl ?_)
   refine aP (bZ (List.sublist_append_right ..)) ?_
   refine tw E [] hB (hy x.e x.n h0) rfl rfl rfl (bz rfl) rfl rfl fun c L1 ⟨hc, hL⟩ => ?_
   subst hc; subst hL
   rw [List.append_nil]
   repeat' (first|refine ae ?_|refine a5 ?_|refine am ?_|refine aI ?_|refine bc ?_|refine a6 ?_|refine a7 a4 rfl rfl ?_|refine an rfl rfl ?_|refine br rfl ?_)
   refine m8 rfl ?_
   rw [he, if_neg h0]
 ·have hil : i = ls.length := by have := Dy h; simp at this; omega
  subst hil
  rw [List.drop_length] at he ⊢
  repeat' (first|refine aL ?_|refine ar ?_|refine av ?_|refine au ?_)
  refine c8 rfl ?_
  rw [he]
  rfl
theorem rU (l : List (List AV)) : bk Tryz.prog 111 [.imm 1 l] (.fn 197 [.iptr [.imm 1 l]]) := by
 refine aB Tryz.func111 rfl Tryz.ntmps111 rfl fun B => ?_
 repeat' (first|refine a8 ?_|refine a0 ?_|refine ae ?_|refine a5 ?_|refine a6 ?_|refine a7 a4 rfl rfl ?_|refine aX ?_|fail)
 exact ak rfl rfl rfl
instance (l : List (List AV)) : AD Tryz.prog 111 [.imm 1 l] (.fn 197 [.iptr [.imm 1 l]]) := ⟨rU l⟩
theorem x6 {p q : Nat × AB} {l l2 : AL} : (p :: q :: (l ++ l2)).Perm (l ++ (p :: q :: l2)) := by
 have := (List.perm_append_comm (l₁ := [p, q]) (l₂ := l)).append_right l2
 simpa using this
set_option maxHeartbeats 1000000 in
theorem ge (ls : List Lk) (hok : sg ls) : AC Tryz.prog 47 [.imm 1 (ls.map Cu)] (AM ls) fun c _ => c = bK (oq ls) := by
 refine vA Tryz.func47 rfl Tryz.ntmps47 rfl fun B => ?_
 repeat' (first|refine a8 ?_|refine a0 ?_|refine aj ?_|refine a5 ?_|refine a6 ?_|refine a7 a4 rfl rfl ?_|refine aY a4 fun _=>?_|(apply bb;refine b4 ?_)|fail)
 rename_i b2 b3
 refine qc (ps := [8, 9]) rfl fun σ0 l db rec hrec => ?_
 have hy : ∀ e n : Int, e ≠ 0 → AY Tryz.prog σ0 l [az e, az n] ([(b3, .box [az 0] 3), (b2, .box [az 0] 35), (db, pR)] ++ [(l, kB rec)]) fun c L => c = dx false ∧ L = [(b3, .box [az n] 3), (b2, .box [az e] 35), (db, pR)] ++ [(l, kB { ({ rec with state := .busy } : Loop) with state := .done, pending := some .ret })] := by
  intro e n he
  refine zG hrec rfl rfl fun B1 hB1 => ?_
  repeat' (first|refine a8 ?_|refine a0 ?_|refine a5 ?_|refine a6 ?_|refine a7 a4 rfl rfl ?_)
  refine qd hrec.state ?_
  repeat' (first|refine a8 ?_|refine a0 ?_|refine aj ?_|refine ae ?_|refine a5 ?_|refine aI ?_|refine a6 ?_|refine a7 a4 rfl rfl ?_|(apply aO; first|refine aa a4 0 rfl rfl rfl rfl rfl rfl rfl ?_|refine aa a4 1 rfl rfl rfl rfl rfl rfl rfl ?_|refine aa a4 2 rfl rfl rfl rfl rfl rfl rfl ?_|refine aa a4 3 rfl rfl rfl rfl rfl rfl rfl ?_|fail))
  refine rH (L := [(b3, .box [az n] 3), (b2, .box [az e] 35), (db, pR)]) ?_
  exact ⟨rfl, rfl⟩
 refine ⟨_, (um ls hok _ _ hy).perm ?_, fun c L' hL' => ?_⟩
 ·simp only [List.append_assoc, Ds, Dr]
  exact x6
 ·by_cases h0 : (oq ls).1 = 0
  ·rw [if_pos h0] at hL'
   subst hL'
   refine ⟨rec, _, Do _, (by rw [hrec.state]; intro h; cases h), ?_⟩
   rw [hrec.pending]
   show AX _ _ _ _ _ _ _ _
   repeat' (first|refine a8 ?_|refine a0 ?_|refine ae ?_|refine a5 ?_|refine aH ?_|refine a6 ?_|(apply aO; first|refine aa a4 0 rfl rfl rfl rfl rfl rfl rfl ?_|refine aa a4 1 rfl rfl rfl rfl rfl rfl rfl ?_|refine aa a4 2 rfl rfl rfl rfl rfl rfl rfl ?_|refine aa a4 3 rfl rfl rfl rfl rfl rfl rfl ?_|fail))
   refine m9 (cs := [az 0, az 0]) [db] [(b3, .box [az 0] 3), (b2, .box [az 0] 35)] rfl (Do _) ?_ ?_
   ·exact ⟨⟨b2, 1, _, _, rfl, rfl, .inl ⟨cg a4 rfl, rfl⟩⟩, ⟨b3, 0, _, _, rfl, rfl, .inl ⟨cg a4 rfl, rfl⟩⟩, trivial⟩
   ·have : oq ls = (0, 0) := qI h0
    rw [this]
    rfl
  ·rw [if_neg h0] at hL'
   subst hL'
   refine ⟨_, _, Do _, (by intro h; cases h), ?_⟩
   show AX _ _ _ _ _ _ _ _
   repeat' (first|refine am ?_|refine aI ?_)
   refine m9 (cs := [az (oq ls).1, az (oq ls).2]) [db] [(b3, .box [az (oq ls).2] 3), (b2, .box [az (oq ls).1] 35)] rfl (Do _) ?_ rfl
   exact ⟨⟨b2, 1, _, _, rfl, rfl, .inl ⟨cg a4 rfl, rfl⟩⟩, ⟨b3, 0, _, _, rfl, rfl, .inl ⟨cg a4 rfl, rfl⟩⟩, trivial⟩
def D9 (l : List Int) (n : Nat) : List Int := ((List.range n).map Int.ofNat).filter (l.contains ·)
theorem qF (a b : List Int) : aU a ++ aU b = aU (a ++ b) := by simp [aU]
def d4 (b : Bool) (e : Int) : Int := bif b then e else 0
theorem xG (b : Bool) (e : Int) : bk Tryz.prog 78 [dx b, az e] (az (d4 b e)) := by
 refine aB Tryz.func78 rfl Tryz.ntmps78 rfl fun B => ?_
 repeat' (first|refine a8 ?_|refine a0 ?_|refine a5 ?_|refine a6 ?_|refine a7 a4 rfl rfl ?_)
 refine aq rfl (fun h => ?_) (fun h => ?_)
 ·subst h
  repeat' (first|refine a8 ?_|refine a0 ?_|refine ae ?_|refine a5 ?_|refine am ?_|refine a6 ?_|refine a7 a4 rfl rfl ?_)
  exact ak rfl rfl rfl
 ·subst h
  repeat' (first|refine a8 ?_|refine a0 ?_|refine ah ?_|refine ae ?_|refine a5 ?_|refine a6 ?_|refine a7 a4 rfl rfl ?_)
  exact ak rfl rfl rfl
instance (b : Bool) (e : Int) : AD Tryz.prog 78 [dx b, az e] (az (d4 b e)) := ⟨xG b e⟩
def eQ (z : Int) : Bool := decide (-16384 ≤ z ∧ z ≤ 16384)
theorem pf (l : List Int) : bk Tryz.prog 79 [.imm 1 (aU l)] (dx (l.all eQ)) := by
 refine aB Tryz.func79 rfl Tryz.ntmps79 rfl fun B => ?_
 refine cf 0 rfl rfl fun hlen => ?_
 rw [b6] at hlen
 repeat' (first|refine a8 ?_|refine a0 ?_|refine aj ?_|refine a5 ?_|refine a6 ?_|refine a7 a4 rfl rfl ?_)
 refine aK [5, 6] (α := Nat) (fun i => [(7, az i)]) (fun i => i ≤ l.length ∧ (l.take i).all eQ = true) (fun _ => []) (fun i => l.length - i) 0 rfl ⟨rfl, trivial⟩ ⟨Nat.zero_le _, by simp⟩ (fun _ _ h => h) fun i hi => ?_
 try dsimp only [Ds, Dr, Dq, Dn]
 repeat' (first|refine a8 ?_|refine a0 ?_|refine a5 ?_|refine a6 ?_|refine a7 a4 rfl rfl ?_)
 refine aq rfl (fun h => ?_) (fun h => ?_)
 ·have hil : i < l.length := by have := Dz h; rw [b6] at this; omega
  obtain ⟨z, hz⟩ : ∃ z, l[i]? = some z := ⟨_, Bj hil⟩
  have hzg := bI hz
  repeat' (first|refine a8 ?_|refine a0 ?_|refine aj ?_|refine ah ?_|refine a5 ?_|refine a6 ?_|refine a7 a4 rfl rfl ?_|(apply aE; first|refine aD a4 ?_|refine aA a4 ?_)|fail)
  refine bG [5, 6, 7] (eQ z = false) rfl (fun Q' K => ?_) (fun hC => ?_) (fun hC => ?_)
  ·repeat' (first|refine a6 ?_|refine a7 a4 rfl rfl ?_|refine an rfl rfl ?_|refine aw rfl rfl rfl rfl ?_|refine aG rfl rfl rfl (fun _ => ?_) (fun _ => ?_))
   all_goals exact K _ _ rfl rfl (by unfold eQ; simp_all <;> omega)
  ·repeat' (first|refine a8 ?_|refine a0 ?_|refine ae ?_|refine a5 ?_|refine am ?_|refine aI ?_|refine bc ?_|refine a6 ?_|refine a7 a4 rfl rfl ?_)
   refine ak rfl rfl ?_
   rw [show l.all eQ = false by
    rw [List.all_eq_false]
    exact ⟨z, Dw hz, by simp [hC]⟩]
  ·repeat' (first|refine a0 ?_|refine ah ?_|refine a5 ?_|refine aH ?_|refine a6 ?_|refine a7 a4 rfl rfl ?_|(apply aS; refine aR ?_)|fail)
   refine ay (i + 1) rfl ⟨by rw [Dv]; rfl, trivial⟩ ⟨by omega, ?_⟩ (by omega) (fun _ _ h => h)
   rw [List.take_add_one, hz, List.all_append, hi.2]
   simpa using hC
 ·have hil : i = l.length := by have := Dy h; rw [b6] at this; omega
  subst hil
  rw [List.take_length] at hi
  repeat' (first|refine a8 ?_|refine a0 ?_|refine ae ?_|refine aL ?_|refine a5 ?_|refine ar ?_|refine av ?_|refine au ?_|refine a6 ?_|refine a7 a4 rfl rfl ?_)
  refine ak rfl rfl ?_
  rw [hi.2]
instance (x : Int) : AD Tryz.prog 79 [.imm 1 [[az x]]] (dx ([x].all eQ)) := ⟨pf [x]⟩
instance (x y : Int) : AD Tryz.prog 79 [.imm 1 [[az x], [az y]]] (dx ([x, y].all eQ)) := ⟨pf [x, y]⟩
instance (x y z : Int) : AD Tryz.prog 79 [.imm 1 [[az x], [az y], [az z]]] (dx ([x, y, z].all eQ)) := ⟨pf [x, y, z]⟩
def j7 (f : aM) (n : Int) : Bool := decide (0 ≤ n ∧ n < f.Glyphs.length)
theorem qG (f : aM) (n : Int) : bk Tryz.prog 119 [cx f, az n] (dx (j7 f n)) := by
 refine aB Tryz.func119 rfl Tryz.ntmps119 rfl fun B => ?_
 repeat' (first|refine a8 ?_|refine a0 ?_|refine a5 ?_|refine a6 ?_|refine a7 a4 rfl rfl ?_|refine aX ?_|fail)
 refine cE (t := 4) [] (j7 f n = true) rfl (fun Q' K => ?_) ?_
 ·repeat' (first|refine a6 ?_|refine a7 a4 rfl rfl ?_|refine an rfl rfl ?_|refine aw rfl rfl rfl rfl ?_|refine aG rfl rfl rfl (fun _ => ?_) (fun _ => ?_))
  all_goals exact K _ _ rfl rfl (by unfold j7; simp_all <;> omega)
 repeat' (first|refine ae ?_|refine a5 ?_)
 refine ak rfl rfl ?_
 simp
instance (f : aM) (n : Int) : AD Tryz.prog 119 [cx f, az n] (dx (j7 f n)) := ⟨qG f n⟩
def mH (right taken : Bool) : Int := bif right then (bif taken then 24 else 0) else 23
theorem nI (a b : Bool) : bk Tryz.prog 53 [dx a, dx b] (az (mH a b)) := by
 refine aB Tryz.func53 rfl Tryz.ntmps53 rfl fun B => ?_
 repeat' (first|refine a8 ?_|refine a0 ?_|refine aj ?_|refine a5 ?_|refine a6 ?_|refine a7 a4 rfl rfl ?_)
 refine aq rfl (fun h => ?_) (fun h => ?_)
 ·repeat' (first|refine a8 ?_|refine a0 ?_|refine ae ?_|refine a5 ?_|refine am ?_|refine aI ?_|refine a6 ?_|refine a7 a4 rfl rfl ?_)
  refine ak rfl rfl ?_
  cases a with
  | true => cases h
  | false => rfl
 ·repeat' (first|refine a8 ?_|refine a0 ?_|refine a5 ?_|refine a6 ?_|refine a7 a4 rfl rfl ?_)
  have ha : a = true := by cases a with
   | true => rfl
   | false => cases h
  subst ha
  refine aq rfl (fun h => ?_) (fun h => ?_)
  ·subst h
   repeat' (first|refine a8 ?_|refine a0 ?_|refine ae ?_|refine a5 ?_|refine am ?_|refine aI ?_|refine a6 ?_|refine a7 a4 rfl rfl ?_)
   exact ak rfl rfl rfl
  ·subst h
   repeat' (first|refine a8 ?_|refine a0 ?_|refine ah ?_|refine ae ?_|refine a5 ?_|refine aH ?_|refine a6 ?_|refine a7 a4 rfl rfl ?_)
   exact ak rfl rfl rfl
instance (a b : Bool) : AD Tryz.prog 53 [dx a, dx b] (az (mH a b)) := ⟨nI a b⟩
def lC (c : Int) : Bool := decide ((65 ≤ c ∧ c ≤ 90) ∨ (97 ≤ c ∧ c ≤ 122))
abbrev U8 (c : Int) : AV := .sc (.int .u8 c)
theorem p7 (c : Int) : bk Tryz.prog 125 [U8 c] (dx (lC c)) := by
 refine aB Tryz.func125 rfl Tryz.ntmps125 rfl fun B => ?_
 repeat' (first|refine a8 ?_|refine a0 ?_|refine a5 ?_|refine a6 ?_|refine a7 a4 rfl rfl ?_)
 refine cE (t := 2) [] (lC c = true) rfl (fun Q' K => ?_) ?_
 ·repeat' (first|refine a6 ?_|refine a7 a4 rfl rfl ?_|refine an rfl rfl ?_|refine aw rfl rfl rfl rfl ?_|refine cV rfl rfl rfl ?_|refine aG rfl rfl rfl (fun _ => ?_) (fun _ => ?_))
  all_goals exact K _ _ rfl rfl (by unfold lC; simp_all <;> omega)
 repeat' (first|refine ae ?_|refine a5 ?_)
 refine ak rfl rfl ?_
 simp
instance (c : Int) : AD Tryz.prog 125 [U8 c] (dx (lC c)) := ⟨p7 c⟩
section
variable {P : Program} {tt : TT} {r : Option Nat} {ops : Array Oper} {Q : Exit → Act → World → Prop} {nt : Nat} {D : List Deferred} {fr : bw} {B : Bs} {L : AL} {rest : List Oper} {d : Nat} {ty t : TypeId} {pos : String} {af : Array Edge} {x y z : Operand}
theorem tv (ok : dg P tt) {s : ByteArray} {k : IntKind} {i : Int} {c : UInt8} {ti : TI} (ht : cG tt t = some ti) (hk : ti.k = .str) (hx : aW fr x = some (.sc (.string s))) (hy : aW fr y = some (.sc (.int k i))) (h0 : 0 ≤ i) (hu : s[i.toNat]? = some c) (hd : Nat.ble nt d = false) (h : bf P r ops Q nt D rest ((d, U8 c.toNat) :: fr) B L) : bf P r ops Q nt D (⟨some d, .index t x y, ty, pos, af, none⟩ :: rest) fr B L := bT (rx (ok.str ht hk) hx hy h0 hu) hd rfl h
end
def kN (s : ByteArray) (i : Nat) : Int := match s[i]? with | some c => c.toNat | none => 0
theorem mw {s : ByteArray} {i : Nat} {c : UInt8} (h : s[i]? = some c) : kN s i = c.toNat := by unfold kN; rw [h]
def pY (n : Nat) (p : Nat → Bool) : Bool := (List.range n).all p
theorem kH {n : Nat} {p : Nat → Bool} : pY n p = true ↔ ∀ i, i < n → p i = true := by simp [pY]
theorem lp {n : Nat} {p : Nat → Bool} {i : Nat} (hi : i < n) (h : p i = false) : pY n p = false := by
 rw [Bool.eq_false_iff]
 intro hh
 rw [kH.1 hh i hi] at h
 cases h
theorem tJ {s : ByteArray} {i : Nat} (h : i < s.size) : ∃ c, s[i]? = some c := ⟨s[i], by simp [h]⟩
def eP (s : ByteArray) : Bool := decide (1 ≤ s.size ∧ s.size ≤ 8) && pY s.size fun i => lC (kN s i)
theorem nG (s : ByteArray) : bk Tryz.prog 66 [vq s] (dx (eP s)) := by
 refine aB Tryz.func66 rfl Tryz.ntmps66 rfl fun B => ?_
 repeat' (first|refine a8 ?_|refine a0 ?_|refine a5 ?_|refine a6 ?_|refine a7 a4 rfl rfl ?_)
 refine bG [0] (¬ (1 ≤ s.size ∧ s.size ≤ 8)) rfl (fun Q' K => ?_) (fun hC => ?_) (fun hC => ?_)
 ·repeat' (first|refine a6 ?_|refine a7 a4 rfl rfl ?_|refine an rfl rfl ?_|refine aw rfl rfl rfl rfl ?_|refine aG rfl rfl rfl (fun _ => ?_) (fun _ => ?_))
  all_goals exact K _ _ rfl rfl (by simp_all <;> omega)
 ·repeat' (first|refine a8 ?_|refine a0 ?_|refine ae ?_|refine a5 ?_|refine am ?_|refine a6 ?_|refine a7 a4 rfl rfl ?_)
  refine ak rfl rfl ?_
  unfold eP
  rw [decide_eq_false hC]
  rfl
 have hC := Decidable.not_not.1 hC
 repeat' (first|refine a8 ?_|refine a0 ?_|refine aj ?_|refine ah ?_|refine a5 ?_|refine a6 ?_|refine a7 a4 rfl rfl ?_)
 refine aK [0, 13] (α := Nat) (fun i => [(14, az i)]) (fun i => i ≤ s.size ∧ ∀ j, j < i → lC (kN s j) = true) (fun _ => []) (fun i => s.size - i) 0 rfl ⟨rfl, trivial⟩ ⟨Nat.zero_le _, fun j hj => absurd hj (Nat.not_lt_zero _)⟩ (fun _ _ h => h) fun i hi => ?_
 try dsimp only [Ds, Dr, Dq, Dn]
 repeat' (first|refine a8 ?_|refine a0 ?_|refine a5 ?_|refine a6 ?_|refine a7 a4 rfl rfl ?_)
 refine aq rfl (fun h => ?_) (fun h => ?_)
 ·have hil : i < s.size := by have := Dz h; omega
  obtain ⟨c, hc⟩ := tJ hil
  have hb := mw hc
  repeat' (first|refine a8 ?_|refine a0 ?_|refine aj ?_|refine ah ?_|refine a5 ?_|refine a6 ?_|refine a7 a4 rfl rfl ?_)
  refine tv a4 rfl rfl rfl rfl (by omega) (by rw [Int.toNat_natCast]; exact hc) rfl ?_
  repeat' (first|refine a5 ?_|refine a6 ?_|refine a7 a4 rfl rfl ?_|(apply bb;refine b4 ?_)|fail)
  refine aq rfl (fun h2 => ?_) (fun h2 => ?_)
  ·repeat' (first|refine a8 ?_|refine a0 ?_|refine ae ?_|refine a5 ?_|refine am ?_|refine aI ?_|refine bc ?_|refine a6 ?_|refine a7 a4 rfl rfl ?_)
   refine ak rfl rfl ?_
   unfold eP
   rw [lp hil (by rw [hb]; simpa using h2), Bool.and_false]
  ·repeat' (first|refine a0 ?_|refine ah ?_|refine a5 ?_|refine aH ?_|refine a6 ?_|refine a7 a4 rfl rfl ?_|(apply aS; refine aR ?_)|fail)
   refine ay (i + 1) rfl ⟨by rw [Dv]; rfl, trivial⟩ ⟨by omega, fun j hj => ?_⟩ (by omega) (fun _ _ h => h)
   by_cases e : j = i
   ·subst e; rw [hb]; simpa using h2
   ·exact hi.2 j (by omega)
 ·have hil : i = s.size := by have := Dy h; omega
  subst hil
  repeat' (first|refine a8 ?_|refine a0 ?_|refine ae ?_|refine aL ?_|refine a5 ?_|refine ar ?_|refine av ?_|refine au ?_|refine a6 ?_|refine a7 a4 rfl rfl ?_)
  refine ak rfl rfl ?_
  unfold eP
  rw [decide_eq_true hC, kH.2 hi.2]
  rfl
instance (s : ByteArray) : AD Tryz.prog 66 [vq s] (dx (eP s)) := ⟨nG s⟩
def pp (i : Nat) (c : Int) : Bool := decide ((lC c = true ∨ c = 95 ∨ c = 46) ∨ (0 < i ∧ ((48 ≤ c ∧ c ≤ 57) ∨ c = 45)))
def gN (s : ByteArray) : Bool := decide (1 ≤ s.size ∧ s.size ≤ 16) && pY s.size fun i => pp i (kN s i)
set_option maxHeartbeats 1000000 in
theorem sa (s : ByteArray) : bk Tryz.prog 54 [vq s] (dx (gN s)) := by
 refine aB Tryz.func54 rfl Tryz.ntmps54 rfl fun B => ?_
 repeat' (first|refine a8 ?_|refine a0 ?_|refine a5 ?_|refine a6 ?_|refine a7 a4 rfl rfl ?_)
 refine bG [0] (¬ (1 ≤ s.size ∧ s.size ≤ 16)) rfl (fun Q' K => ?_) (fun hC => ?_) (fun hC => ?_)
 ·repeat' (first|refine a6 ?_|refine a7 a4 rfl rfl ?_|refine an rfl rfl ?_|refine aw rfl rfl rfl rfl ?_|refine aG rfl rfl rfl (fun _ => ?_) (fun _ => ?_))
  all_goals exact K _ _ rfl rfl (by simp_all <;> omega)
 ·repeat' (first|refine a8 ?_|refine a0 ?_|refine ae ?_|refine a5 ?_|refine am ?_|refine a6 ?_|refine a7 a4 rfl rfl ?_)
  refine ak rfl rfl ?_
  unfold gN
  rw [decide_eq_false hC]
  rfl
 have hC := Decidable.not_not.1 hC
 repeat' (first|refine a8 ?_|refine a0 ?_|refine aj ?_|refine ah ?_|refine a5 ?_|refine a6 ?_|refine a7 a4 rfl rfl ?_)
 refine aK [0, 16] (α := Nat) (fun i => [(17, az i)]) (fun i => i ≤ s.size ∧ ∀ j, j < i → pp j (kN s j) = true) (fun _ => []) (fun i => s.size - i) 0 rfl ⟨rfl, trivial⟩ ⟨Nat.zero_le _, fun j hj => absurd hj (Nat.not_lt_zero _)⟩ (fun _ _ h => h) fun i hi => ?_
 try dsimp only [Ds, Dr, Dq, Dn]
 repeat' (first|refine a8 ?_|refine a0 ?_|refine a5 ?_|refine a6 ?_|refine a7 a4 rfl rfl ?_)
 refine aq rfl (fun h => ?_) (fun h => ?_)
 ·have hil : i < s.size := by have := Dz h; omega
  obtain ⟨c, hc⟩ := tJ hil
  have hb := mw hc
  repeat' (first|refine a8 ?_|refine a0 ?_|refine aj ?_|refine ah ?_|refine a5 ?_|refine a6 ?_|refine a7 a4 rfl rfl ?_)
  refine tv a4 rfl rfl rfl rfl (by omega) (by rw [Int.toNat_natCast]; exact hc) rfl ?_
  generalize (c.toNat : Int) = z at *
  repeat' (first|refine a8 ?_|refine a0 ?_|refine a5 ?_|refine a6 ?_|refine a7 a4 rfl rfl ?_|(apply bb;refine b4 ?_)|fail)
  refine cE (t := 5) [0, 3, 4, 16, 17] (lC z = true ∨ z = 95 ∨ z = 46) rfl (fun Q' K => ?_) ?_
  ·clear hi hb hc h
   repeat' (first|refine a6 ?_|refine a7 a4 rfl rfl ?_|refine an rfl rfl ?_|refine aw rfl rfl rfl rfl ?_|refine aG rfl rfl rfl (fun _ => ?_) (fun _ => ?_))
   all_goals exact K _ _ rfl rfl (by simp_all)
  repeat' (first|refine a8 ?_|refine a0 ?_|refine a5 ?_|refine a7 a4 rfl rfl ?_)
  refine cE (t := 6) [0, 5, 16, 17] (0 < i ∧ ((48 ≤ z ∧ z ≤ 57) ∨ z = 45)) rfl (fun Q' K => ?_) ?_
  ·clear hi hb hc h
   repeat' (first|refine a6 ?_|refine a7 a4 rfl rfl ?_|refine an rfl rfl ?_|refine aw rfl rfl rfl rfl ?_|refine cV rfl rfl rfl ?_|refine aG rfl rfl rfl (fun _ => ?_) (fun _ => ?_))
   all_goals exact K _ _ rfl rfl (by simp_all <;> omega)
  repeat' (first|refine a8 ?_|refine a0 ?_|refine a5 ?_|refine a7 a4 rfl rfl ?_)
  refine bG [0, 16, 17] (pp i z = false) rfl (fun Q' K => ?_) (fun h2 => ?_) (fun h2 => ?_)
  ·clear hi hb hc h
   repeat' (first|refine a6 ?_|refine a7 a4 rfl rfl ?_|refine an rfl rfl ?_|refine aw rfl rfl rfl rfl ?_|refine aG rfl rfl rfl (fun _ => ?_) (fun _ => ?_))
   all_goals exact K _ _ rfl rfl (by clear K; unfold pp; grind)
  ·repeat' (first|refine a8 ?_|refine a0 ?_|refine ae ?_|refine a5 ?_|refine am ?_|refine aI ?_|refine bc ?_|refine a6 ?_|refine a7 a4 rfl rfl ?_)
   refine ak rfl rfl ?_
   unfold gN
   rw [lp hil (by rw [hb]; exact h2), Bool.and_false]
  ·repeat' (first|refine a0 ?_|refine ah ?_|refine a5 ?_|refine aH ?_|refine a6 ?_|refine a7 a4 rfl rfl ?_|(apply aS; refine aR ?_)|fail)
   refine ay (i + 1) rfl ⟨by rw [Dv]; rfl, trivial⟩ ⟨by omega, fun j hj => ?_⟩ (by omega) (fun _ _ h => h)
   by_cases e : j = i
   ·subst e; rw [hb]; simpa using h2
   ·exact hi.2 j (by omega)
 ·have hil : i = s.size := by have := Dy h; omega
  subst hil
  repeat' (first|refine a8 ?_|refine a0 ?_|refine ae ?_|refine aL ?_|refine a5 ?_|refine ar ?_|refine av ?_|refine au ?_|refine a6 ?_|refine a7 a4 rfl rfl ?_)
  refine ak rfl rfl ?_
  unfold gN
  rw [decide_eq_true hC, kH.2 hi.2]
  rfl
instance (s : ByteArray) : AD Tryz.prog 54 [vq s] (dx (gN s)) := ⟨sa s⟩
end Go.Proofs.YtpmdfoaadejmkaaGreatDoor
namespace Go.Proofs.YtpmdfoaadejmkaaGreatDoor
open Go.RowKit
attribute [local irreducible] AT bf AX AO Av Kt aZ df DA cA
def eG {α : Type} (l : List α) (w : Nat → α → Int) (i : Nat) : Int := match l[i]? with | some x => w i x | none => 0
def cm {α : Type} (l : List α) (w : Nat → α → Int) : Int × Int := ct (eG l w) l.length
def c5 {α : Type} (most : Int) (l : List α) (w : Nat → α → Int) : Int × Int := cq most (eG l w) l.length
theorem fi {α : Type} {l : List α} {w : Nat → α → Int} {i : Nat} {x : α} (h : l[i]? = some x) : eG l w i = w i x := by unfold eG; rw [h]
theorem co {α : Type} {P : Program} {g : FuncId} {caps : List AV} {l : List α} {el : α → AV} {w : Nat → α → Int} (h : ∀ (i : Nat) x, l[i]? = some x → bk P g ([az i, el x] ++ caps) (az (w i x))) : ∀ (i : Nat) x (L : AL), l[i]? = some x → True → AC P g ([az i, el x] ++ caps) L fun c _ => c = az (eG l w i) ∧ (eG l w i = 0 → True) := by
 intro i x L hx _
 rw [fi hx]
 exact ((h i x hx).any L).mono fun c L' ⟨h1, _⟩ => ⟨h1, fun _ => trivial⟩
theorem ny {α : Type} {P : Program} {g : FuncId} {caps : List AV} {l : List α} {el : α → AV} {w : Nat → α → Int} {L0 : AL} (h : ∀ (i : Nat) x, l[i]? = some x → AC P g ([az i, el x] ++ caps) L0 fun c L' => c = az (w i x) ∧ L' = L0) : ∀ (i : Nat) x (L : AL), l[i]? = some x → L = L0 → AC P g ([az i, el x] ++ caps) L fun c L' => c = az (eG l w i) ∧ (eG l w i = 0 → L' = L0) := by
 intro i x L hx hL
 subst hL
 rw [fi hx]
 exact (h i x hx).mono fun c L' ⟨h1, h2⟩ => ⟨h1, fun _ => h2⟩
theorem sM (n : Int) : bk Tryz.prog 263 [az n] (dx (eQ n)) := by
 refine aB Tryz.func263 rfl Tryz.ntmps263 rfl fun B => ?_
 repeat' (first|refine a8 ?_|refine a0 ?_|refine a5 ?_|refine a6 ?_|refine a7 a4 rfl rfl ?_)
 refine cE (t := 2) [] (eQ n = true) rfl (fun Q' K => ?_) ?_
 ·repeat' (first|refine a6 ?_|refine a7 a4 rfl rfl ?_|refine an rfl rfl ?_|refine aw rfl rfl rfl rfl ?_|refine aG rfl rfl rfl (fun _ => ?_) (fun _ => ?_))
  all_goals exact K _ _ rfl rfl (by clear K; unfold eQ; grind)
 repeat' (first|refine ae ?_|refine a5 ?_)
 refine ak rfl rfl ?_
 simp
instance (n : Int) : AD Tryz.prog 263 [az n] (dx (eQ n)) := ⟨sM n⟩
def ip (n : Int) : Int → List Int → Bool
 | last, [] => decide (last = n - 1)
 | last, e :: r => if e ≥ n ∨ e < last + 2 then false else ip n e r
def qV (p : i7) : Bool := eQ p.X && eQ p.Y
def gn (pts : List i7) (ends : List Int) : Bool := decide (pts.length ≤ 200 ∧ ends.length ≤ 40) && (pts.all qV && ip pts.length (-1) ends)
theorem qw {n last : Int} {l : List Int} {i : Nat} {e : Int} (h : l[i]? = some e) : ip n last (l.drop i) = if e ≥ n ∨ e < last + 2 then false else ip n e (l.drop (i + 1)) := by
 obtain ⟨hi, hx⟩ := Dp h
 rw [List.drop_eq_getElem_cons hi, hx]
 rfl
set_option maxHeartbeats 1000000 in
theorem pw (pts : List i7) (ends : List Int) : bk Tryz.prog 200 [.agg [.imm 3 (pts.map fw), .imm 1 (aU ends)]] (dx (gn pts ends)) := by
 refine aB Tryz.func200 rfl Tryz.ntmps200 rfl fun B => ?_
 repeat' (first|refine a8 ?_|refine a0 ?_|refine a5 ?_|refine a6 ?_|refine a7 a4 rfl rfl ?_|refine aX ?_|fail)
 refine bG [1] (¬ (pts.length ≤ 200 ∧ ends.length ≤ 40)) rfl (fun Q' K => ?_) (fun hC => ?_) (fun hC => ?_)
 ·repeat' (first|refine a6 ?_|refine a7 a4 rfl rfl ?_|refine an rfl rfl ?_|refine aw rfl rfl rfl rfl ?_|refine aG rfl rfl rfl (fun _ => ?_) (fun _ => ?_))
  all_goals exact K _ _ rfl rfl (by clear K; simp_all [b6] <;> omega)
 ·repeat' (first|refine a8 ?_|refine a0 ?_|refine ae ?_|refine a5 ?_|refine am ?_|refine a6 ?_|refine a7 a4 rfl rfl ?_)
  refine ak rfl rfl ?_
  unfold gn
  rw [decide_eq_false hC]
  rfl
 have hC := Decidable.not_not.1 hC
 have hlm : (pts.map fw).length = pts.length := Du ..
 repeat' (first|refine a8 ?_|refine a0 ?_|refine aj ?_|refine ah ?_|refine a5 ?_|refine a6 ?_|refine a7 a4 rfl rfl ?_)
 refine aK [1, 19, 20] (α := Nat) (fun i => [(21, az i)]) (fun i => i ≤ pts.length ∧ (pts.take i).all qV = true) (fun _ => []) (fun i => pts.length - i) 0 rfl ⟨rfl, trivial⟩ ⟨Nat.zero_le _, by simp⟩ (fun _ _ h => h) fun i hi => ?_
 try dsimp only [Ds, Dr, Dq, Dn]
 repeat' (first|refine a8 ?_|refine a0 ?_|refine a5 ?_|refine a6 ?_|refine a7 a4 rfl rfl ?_)
 refine aq rfl (fun h => ?_) (fun h => ?_)
 ·have hil : i < pts.length := by have := Dz h; simp at this; omega
  obtain ⟨z, hz⟩ : ∃ z, pts[i]? = some z := ⟨_, Bj hil⟩
  have hzg := bV (c := fw) hz
  clear h
  repeat' (first|refine a8 ?_|refine a0 ?_|refine aj ?_|refine ah ?_|refine a5 ?_|refine a6 ?_|refine a7 a4 rfl rfl ?_|(apply aE; first|refine aD a4 ?_|refine aA a4 ?_)|(apply aO; first|refine a9 4 a4 0 rfl rfl rfl rfl rfl rfl rfl rfl ?_|refine a9 4 a4 1 rfl rfl rfl rfl rfl rfl rfl rfl ?_|refine a9 4 a4 2 rfl rfl rfl rfl rfl rfl rfl rfl ?_|refine aa a4 0 rfl rfl rfl rfl rfl rfl rfl ?_|refine aa a4 1 rfl rfl rfl rfl rfl rfl rfl ?_|refine aa a4 2 rfl rfl rfl rfl rfl rfl rfl ?_|refine aa a4 3 rfl rfl rfl rfl rfl rfl rfl ?_|fail)|refine aY a4 fun _=>?_|(apply bb;refine b4 ?_)|fail)
  refine bG [1, 19, 20, 21] (qV z = false) rfl (fun Q' K => ?_) (fun h2 => ?_) (fun h2 => ?_)
  ·clear hi hzg
   repeat' (first|refine a6 ?_|refine a7 a4 rfl rfl ?_|refine an rfl rfl ?_|refine aw rfl rfl rfl rfl ?_|(apply bb;refine b4 ?_)|refine aG rfl rfl rfl (fun _ => ?_) (fun _ => ?_))
   all_goals exact K _ _ rfl rfl (by clear K; unfold qV; simp_all)
  ·repeat' (first|refine a8 ?_|refine a0 ?_|refine ae ?_|refine a5 ?_|refine am ?_|refine aI ?_|refine bc ?_|refine a6 ?_|refine a7 a4 rfl rfl ?_)
   refine ak rfl rfl ?_
   unfold gn
   rw [show pts.all qV = false by
    rw [List.all_eq_false]
    exact ⟨z, Dw hz, by simp [h2]⟩]
   simp
  ·repeat' (first|refine a0 ?_|refine ah ?_|refine a5 ?_|refine aH ?_|refine a6 ?_|refine a7 a4 rfl rfl ?_|(apply aS; refine aR ?_)|fail)
   refine ay (i + 1) rfl ⟨by rw [Dv]; rfl, trivial⟩ ⟨by omega, ?_⟩ (by omega) (fun _ _ h => h)
   rw [List.take_add_one, hz, List.all_append, hi.2]
   simpa using h2
 have hil : i = pts.length := by have := Dy h; simp at this; omega
 subst hil
 rw [List.take_length] at hi
 have hall := hi.2
 clear hi h
 have hval : gn pts ends = ip pts.length (-1) ends := by
  unfold gn
  rw [decide_eq_true hC, hall]
  rfl
 rw [hval]
 repeat' (first|refine a8 ?_|refine a0 ?_|refine aj ?_|refine aL ?_|refine a5 ?_|refine ar ?_|refine av ?_|refine au ?_|refine a6 ?_|refine a7 a4 rfl rfl ?_)
 refine aK [1, 37, 38] (α := Nat × Int) (fun x => [(39, az x.1), (5, az x.2)]) (fun x => x.1 ≤ ends.length ∧ -1 ≤ x.2 ∧ x.2 ≤ 1000 ∧ ip pts.length (-1) ends = ip pts.length x.2 (ends.drop x.1)) (fun _ => []) (fun x => ends.length - x.1) (0, -1) rfl ⟨rfl, rfl, trivial⟩ ⟨Nat.zero_le _, by decide, by decide, rfl⟩ (fun _ _ h => h) ?_
 rintro ⟨i, last⟩ ⟨hi, hl0, hl1, he⟩
 dsimp only at hi hl0 hl1 he ⊢
 try dsimp only [Ds, Dr, Dq, Dn]
 repeat' (first|refine a8 ?_|refine a0 ?_|refine a5 ?_|refine a6 ?_|refine a7 a4 rfl rfl ?_)
 refine aq rfl (fun h => ?_) (fun h => ?_)
 ·have hil : i < ends.length := by have := Dz h; simp [b6] at this; omega
  obtain ⟨z, hz⟩ : ∃ z, ends[i]? = some z := ⟨_, Bj hil⟩
  have hzg := bI hz
  rw [qw hz] at he
  clear h
  repeat' (first|refine a8 ?_|refine a0 ?_|refine aj ?_|refine ah ?_|refine a5 ?_|refine a6 ?_|refine a7 a4 rfl rfl ?_|(apply aE; first|refine aD a4 ?_|refine aA a4 ?_)|fail)
  refine bG [1, 7, 37, 38, 39] (z ≥ pts.length ∨ z < last + 2) rfl (fun Q' K => ?_) (fun h2 => ?_) (fun h2 => ?_)
  ·clear hi hzg he hval
   repeat' (first|refine a6 ?_|refine a7 a4 rfl rfl ?_|refine an rfl rfl ?_|refine aw rfl rfl rfl rfl ?_|(apply aS; refine aR ?_)|refine aG rfl rfl rfl (fun _ => ?_) (fun _ => ?_))
   all_goals exact K _ _ rfl rfl (by clear K; simp_all <;> omega)
  ·rw [if_pos h2] at he
   repeat' (first|refine a8 ?_|refine a0 ?_|refine ae ?_|refine a5 ?_|refine am ?_|refine aI ?_|refine bc ?_|refine a6 ?_|refine a7 a4 rfl rfl ?_)
   refine ak rfl rfl ?_
   rw [he]
  ·rw [if_neg h2] at he
   repeat' (first|refine a0 ?_|refine ah ?_|refine a5 ?_|refine aH ?_|refine a6 ?_|refine a7 a4 rfl rfl ?_|(apply aS; refine aR ?_)|fail)
   exact ay (i + 1, z) rfl ⟨by rw [Dv]; rfl, rfl, trivial⟩ ⟨by dsimp only; omega, by dsimp only; omega, by dsimp only; omega, he⟩ (by dsimp only; omega) (fun _ _ h => h)
 ·have hil : i = ends.length := by have := Dy h; simp [b6] at this; omega
  subst hil
  rw [List.drop_length] at he
  repeat' (first|refine a8 ?_|refine a0 ?_|refine ae ?_|refine aL ?_|refine a5 ?_|refine ar ?_|refine av ?_|refine au ?_|refine a6 ?_|refine a7 a4 rfl rfl ?_|(apply aS; refine aR ?_)|fail)
  refine ak rfl rfl ?_
  rw [he]
  simp [ip]
def Cg (_ : Nat) (p : i7) : Int := d4 (!([p.X, p.Y].all eQ)) 30
theorem sE (i : Nat) (p : i7) : bk Tryz.prog 199 [az i, .agg (fw p)] (az (Cg i p)) := by
 refine aB Tryz.func199 rfl Tryz.ntmps199 rfl fun B => ?_
 repeat' (first|refine a8 ?_|refine a0 ?_|refine ae ?_|refine a5 ?_|refine a6 ?_|refine a7 a4 rfl rfl ?_|refine aX ?_|refine cj a4 ?_|(apply bb;refine b4 ?_)|fail)
 exact ak rfl rfl rfl
def gT (g : b9) : Int := if g.Advance < 0 ∨ g.Advance > 16384 then 1 else if g.Points.length > 200 ∨ g.Ends.length > 40 then 2 else if (cm g.Points Cg).1 ≠ 0 then (cm g.Points Cg).1 else d4 (!(gn g.Points g.Ends)) 31
theorem v6 (g : b9) : bk Tryz.prog 116 [.agg (c7 g)] (az (gT g)) := by
 refine aB Tryz.func116 rfl Tryz.ntmps116 rfl fun B => ?_
 unfold gT
 repeat' (first|refine a8 ?_|refine a0 ?_|refine aj ?_|refine a5 ?_|refine a6 ?_|refine a7 a4 rfl rfl ?_|refine aX ?_|fail)
 refine bG [1] (g.Advance < 0 ∨ g.Advance > 16384) rfl (fun Q' K => ?_) (fun hC => ?_) (fun hC => ?_)
 ·repeat' (first|refine a6 ?_|refine a7 a4 rfl rfl ?_|refine an rfl rfl ?_|refine aw rfl rfl rfl rfl ?_|refine aG rfl rfl rfl (fun _ => ?_) (fun _ => ?_))
  all_goals exact K _ _ rfl rfl (by clear K; grind)
 ·rw [if_pos hC]
  repeat' (first|refine a8 ?_|refine a0 ?_|refine ae ?_|refine a5 ?_|refine am ?_|refine aI ?_|refine a6 ?_|refine a7 a4 rfl rfl ?_)
  exact ak rfl rfl rfl
 rw [if_neg hC]
 repeat' (first|refine a8 ?_|refine a0 ?_|refine a7 a4 rfl rfl ?_)
 refine bG [1] (g.Points.length > 200 ∨ g.Ends.length > 40) rfl (fun Q' K => ?_) (fun hC => ?_) (fun hC => ?_)
 ·repeat' (first|refine a6 ?_|refine a7 a4 rfl rfl ?_|refine an rfl rfl ?_|refine aw rfl rfl rfl rfl ?_|refine aG rfl rfl rfl (fun _ => ?_) (fun _ => ?_))
  all_goals exact K _ _ rfl rfl (by clear K; simp_all [b6] <;> omega)
 ·rw [if_pos hC]
  repeat' (first|refine a8 ?_|refine a0 ?_|refine ae ?_|refine a5 ?_|refine am ?_|refine aI ?_|refine a6 ?_|refine a7 a4 rfl rfl ?_)
  exact ak rfl rfl rfl
 rw [if_neg hC]
 repeat' (first|refine a8 ?_|refine a0 ?_|refine ah ?_|refine a5 ?_|refine aH ?_|refine a7 a4 rfl rfl ?_)
 refine aN [] [] (yu (u := .sc (.func (.func 199) #[] #[])) (g := 199) (caps := []) rfl g.Points _ (fun _ _ => True) [] trivial (co (fun i x _ => sE i x))) rfl rfl (Do _) rfl fun c L1 hc => ?_
 have hc : c = bK (cm g.Points Cg) := hc
 subst hc
 unfold bK
 repeat' (first|refine a8 ?_|refine a0 ?_|refine a5 ?_|refine a6 ?_|refine a7 a4 rfl rfl ?_)
 refine aq rfl (fun h => ?_) (fun h => ?_)
 ·rw [if_pos (Dz h)]
  repeat' (first|refine a8 ?_|refine a0 ?_|refine ae ?_|refine a5 ?_|refine am ?_|refine a6 ?_|refine a7 a4 rfl rfl ?_)
  exact ak rfl rfl rfl
 ·rw [if_neg (Dy h)]
  repeat' (first|refine a8 ?_|refine a0 ?_|refine ah ?_|refine a5 ?_|refine a7 a4 rfl rfl ?_)
  refine b4 (hc := ⟨pw g.Points g.Ends⟩) ?_
  repeat' (first|refine ae ?_|refine a5 ?_|refine a6 ?_|refine a7 a4 rfl rfl ?_|(apply bb;refine b4 ?_)|fail)
  exact ak rfl rfl rfl
instance (g : b9) : AD Tryz.prog 116 [.agg (c7 g)] (az (gT g)) := ⟨v6 g⟩
end Go.Proofs.YtpmdfoaadejmkaaGreatDoor
namespace Go.Proofs.YtpmdfoaadejmkaaGreatDoor
open Go.RowKit
attribute [local irreducible] AT bf AX AO Av Kt aZ df DA cA
open Go.MapKept
def yN (_ : Nat) (i : gy) : Int := if i.Op < 1 ∨ i.Op > 39 then 50 else if i.A < -999999999 ∨ i.A > 999999999 then 3 else 0
theorem pA (n : Nat) (i : gy) : bk Tryz.prog 154 [az n, .agg (ie i)] (az (yN n i)) := by
 refine aB Tryz.func154 rfl Tryz.ntmps154 rfl fun B => ?_
 unfold yN
 repeat' (first|refine a8 ?_|refine a0 ?_|refine aj ?_|refine a5 ?_|refine a6 ?_|refine a7 a4 rfl rfl ?_|refine aX ?_|fail)
 refine bG [3] (i.Op < 1 ∨ i.Op > 39) rfl (fun Q' K => ?_) (fun hC => ?_) (fun hC => ?_)
 ·repeat' (first|refine a6 ?_|refine a7 a4 rfl rfl ?_|refine an rfl rfl ?_|refine aw rfl rfl rfl rfl ?_|refine aG rfl rfl rfl (fun _ => ?_) (fun _ => ?_))
  all_goals exact K _ _ rfl rfl (by clear K; grind)
 ·rw [if_pos hC]
  repeat' (first|refine a8 ?_|refine a0 ?_|refine ae ?_|refine a5 ?_|refine am ?_|refine aI ?_|refine a6 ?_|refine a7 a4 rfl rfl ?_)
  exact ak rfl rfl rfl
 rw [if_neg hC]
 repeat' (first|refine a8 ?_|refine a0 ?_|refine a7 a4 rfl rfl ?_)
 refine bG [] (i.A < -999999999 ∨ i.A > 999999999) rfl (fun Q' K => ?_) (fun hC => ?_) (fun hC => ?_)
 ·repeat' (first|refine a6 ?_|refine a7 a4 rfl rfl ?_|refine an rfl rfl ?_|refine aw rfl rfl rfl rfl ?_|refine aG rfl rfl rfl (fun _ => ?_) (fun _ => ?_))
  all_goals exact K _ _ rfl rfl (by clear K; grind)
 ·rw [if_pos hC]
  repeat' (first|refine a8 ?_|refine a0 ?_|refine ae ?_|refine a5 ?_|refine am ?_|refine aI ?_|refine a6 ?_|refine a7 a4 rfl rfl ?_)
  exact ak rfl rfl rfl
 rw [if_neg hC]
 repeat' (first|refine a8 ?_|refine a0 ?_|refine ah ?_|refine ae ?_|refine a5 ?_|refine aH ?_|refine a6 ?_|refine a7 a4 rfl rfl ?_)
 exact ak rfl rfl rfl
def nd (l : List gy) : Int := (c5 200 l yN).1
theorem qU (l : List gy) : bk Tryz.prog 75 [.imm 2 (l.map ie)] (az (nd l)) := by
 refine aB Tryz.func75 rfl Tryz.ntmps75 rfl fun B => ?_
 repeat' (first|refine a8 ?_|refine a0 ?_|refine a5 ?_|refine a6 ?_|refine a7 a4 rfl rfl ?_|(apply bb;refine b4 ?_)|fail)
 refine cF (f := 227) (cs := []) [] [] (zi (g := 154) (caps := []) rfl l 200 _ (fun _ _ => True) [] trivial (fun _ => co fun i x _ => pA i x)) rfl rfl rfl (Do _) rfl rfl fun c L1 hc => ?_
 have hc : c = bK (c5 200 l yN) := hc
 subst hc
 unfold bK
 repeat' (first|refine a8 ?_|refine a0 ?_|refine ae ?_|refine a5 ?_|refine a6 ?_|refine a7 a4 rfl rfl ?_)
 exact ak rfl rfl rfl
instance (l : List gy) : AD Tryz.prog 75 [.imm 2 (l.map ie)] (az (nd l)) := ⟨qU l⟩
def lJ (f : aM) (_ : Nat) (p : cQ) : Int := if j7 f p.Glyph = false then 32 else d4 (!([p.X, p.Y].all eQ)) 30
theorem s5 (f : aM) (n : Nat) (p : cQ) : bk Tryz.prog 118 [az n, .agg (eX p), .iptr (bU f)] (az (lJ f n p)) := by
 refine aB Tryz.func118 rfl Tryz.ntmps118 rfl fun B => ?_
 unfold lJ
 repeat' (first|refine a8 ?_|refine a0 ?_|refine a5 ?_|refine a6 ?_|refine a7 a4 rfl rfl ?_|refine aX ?_|(apply bb;refine b4 ?_)|fail)
 refine aq rfl (fun h => ?_) (fun h => ?_)
 ·rw [if_pos (by simpa using h)]
  repeat' (first|refine a8 ?_|refine a0 ?_|refine ae ?_|refine a5 ?_|refine am ?_|refine a6 ?_|refine a7 a4 rfl rfl ?_)
  exact ak rfl rfl rfl
 ·rw [if_neg (by simpa using h)]
  repeat' (first|refine a8 ?_|refine a0 ?_|refine ah ?_|refine ae ?_|refine a5 ?_|refine a6 ?_|refine a7 a4 rfl rfl ?_|refine cj a4 ?_|(apply bb;refine b4 ?_)|fail)
  exact ak rfl rfl rfl
def kI (g : b9) (i : Nat) (a : dt) : Int := if (a.Kind < 1 ∨ a.Kind > 4) ∨ (a.Class < 0 ∨ a.Class > 15) ∨ ((a.Kind = 3 ∨ a.Kind = 4) ∧ a.Class ≠ 0) ∨ [a.X, a.Y].all eQ = false ∨ (a.Kind = 2 ∧ g.Mark = false) ∨ (∃ b ∈ g.Anchors.take i, b.Kind = a.Kind ∧ b.Class = a.Class) then 35 else 0
def qp (f : aM) (g : b9) (i : Nat) (d : f0) : Int := if d.Region < 0 ∨ d.Region ≥ f.Regions.length then 61 else if (d.Point < -1 ∨ d.Point ≥ g.Points.length) ∨ [d.X, d.Y].all eQ = false ∨ (d.Point = -1 ∧ d.Y ≠ 0) then 30 else if (match i with | 0 => false | j + 1 => match g.Deltas[j]? with | some b => decide (d.Region < b.Region ∨ (d.Region = b.Region ∧ d.Point ≤ b.Point)) | none => false) = true then 24 else 0
theorem rz (b : Bool) : AC Tryz.prog 121 [dx b] [] fun c L => ∃ m, c = .fn 205 [.iptr [dx b], .iptr [.sc (.map (some m))]] ∧ L = [(m, f9 fun _ _ => none)] := by
 refine aB Tryz.func121 rfl Tryz.ntmps121 rfl fun B => ?_
 repeat' (first|refine a8 ?_|refine a0 ?_|refine a5 ?_|refine a6 ?_|refine a7 a4 rfl rfl ?_|refine aX ?_|fail)
 refine sp fun m => ?_
 repeat' (first|refine a8 ?_|refine a0 ?_|refine ae ?_|refine a5 ?_|refine a6 ?_|refine a7 a4 rfl rfl ?_|(apply aO; first|refine a9 3 a4 0 rfl rfl rfl rfl rfl rfl rfl rfl ?_|refine a9 3 a4 1 rfl rfl rfl rfl rfl rfl rfl rfl ?_|refine a9 3 a4 2 rfl rfl rfl rfl rfl rfl rfl rfl ?_|refine aa a4 0 rfl rfl rfl rfl rfl rfl rfl ?_|refine aa a4 1 rfl rfl rfl rfl rfl rfl rfl ?_|refine aa a4 2 rfl rfl rfl rfl rfl rfl rfl ?_|refine aa a4 3 rfl rfl rfl rfl rfl rfl rfl ?_|fail)|refine aY a4 fun _=>?_|fail)
 exact ak rfl rfl ⟨_, rfl, rfl⟩
theorem ul (r p : Int) : AC Tryz.prog 123 [az r, az p] [] fun c L => ∃ b, c = .fn 208 [.iptr [az r], .iptr [az p], .sc (.pointer (some ⟨b, 0, none⟩))] ∧ L = [(b, .box [az 0, az 0] 296)] := by
 refine aB Tryz.func123 rfl Tryz.ntmps123 rfl fun B => ?_
 repeat' (first|refine a8 ?_|refine a0 ?_|refine ae ?_|refine a5 ?_|refine a6 ?_|refine a7 a4 rfl rfl ?_|refine aX ?_|refine aY a4 fun _=>?_|fail)
 exact ak rfl rfl ⟨_, rfl, rfl⟩
theorem s3 (e : Int) : bk Tryz.prog 114 [.iptr [az e]] (bK (e, 0)) := by
 refine aB Tryz.func114 rfl Tryz.ntmps114 rfl fun B => ?_
 repeat' (first|refine a8 ?_|refine a0 ?_|refine ae ?_|refine a5 ?_|refine a6 ?_|refine a7 a4 rfl rfl ?_)
 exact aJ rfl rfl rfl rfl
theorem s4 (g : b9) : bk Tryz.prog 115 [.iptr (c7 g)] (bK (gT g, 0)) := by
 refine aB Tryz.func115 rfl Tryz.ntmps115 rfl fun B => ?_
 repeat' (first|refine a8 ?_|refine a0 ?_|refine ae ?_|refine a5 ?_|refine a6 ?_|refine a7 a4 rfl rfl ?_|(apply bb;refine b4 ?_)|fail)
 exact aJ rfl rfl rfl rfl
theorem s6 (g : b9) : bk Tryz.prog 124 [.iptr (c7 g)] (bK (nd g.Hint, 0)) := by
 refine aB Tryz.func124 rfl Tryz.ntmps124 rfl fun B => ?_
 repeat' (first|refine a8 ?_|refine a0 ?_|refine ae ?_|refine a5 ?_|refine a6 ?_|refine a7 a4 rfl rfl ?_|(apply bb;refine b4 ?_)|fail)
 exact aJ rfl rfl rfl rfl
def fy (l : List (Int × Int)) : Int × Int := match l with
 | [] => (0, 0)
 | x :: r => if x.1 = 0 then fy r else x
theorem gO : ∀ l : List Lk, oq l = fy (l.map fun x => (x.e, x.n))
 | [] => rfl
 | x :: r => by simp only [oq, Dq, fy]; rw [gO r]
def mM (f : aM) (g : b9) (name : Int) : Int := (fy [(name, 0), (gT g, 0), c5 8 g.Parts (lJ f), c5 16 g.Anchors (kI g), c5 400 g.Deltas (qp f g), (nd g.Hint, 0)]).1
end Go.Proofs.YtpmdfoaadejmkaaGreatDoor
