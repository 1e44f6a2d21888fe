/-
  The program: what the first look tells that finds something wrong.
-/
import Derived.Test.YtpmdfoaadejmkaaGreatDoorM09
import Derived.Test.YtpmdfoaadejmkaaGreatDoorM08
import Derived.Test.YtpmdfoaadejmkaaGreatDoorM05
import Derived.Test.YtpmdfoaadejmkaaGreatDoorM07
namespace Go.Proofs.YtpmdfoaadejmkaaGreatDoor
open Go.RowKit
attribute [local irreducible] AT bh AX AO Av Kt b6 di DA cC
structure Lk where
 f : FuncId
 caps : List AV
 L : AL
 e : Int
 n : Int
def Lk.ok (x : Lk) : Prop := bj Tryz.prog x.f ∧ AC Tryz.prog x.f x.caps x.L fun c _ => c = bL (x.e, x.n)
def ou : List Lk → Int × Int
 | [] => (0, 0)
 | x :: r => if x.e = 0 then ou r else (x.e, x.n)
def AR (l : List Lk) : AL := (l.map Lk.L).flatten
def sh : List Lk → Prop
 | [] => True
 | x :: r => x.ok ∧ (x.e = 0 → sh r)
def CA (x : Lk) : List AV := [.fn x.f x.caps]
theorem wO {l : List Lk} {i : Nat} {x : Lk} (h : l[i]? = some x) : ou (l.drop i) = if x.e = 0 then ou (l.drop (i + 1)) else (x.e, x.n) := by
 obtain ⟨hi, hx⟩ := Dp h
 rw [List.drop_eq_getElem_cons hi, hx]
 rfl
theorem uG {l : List Lk} {i : Nat} {x : Lk} (h : l[i]? = some x) (hk : sh (l.drop i)) : x.ok ∧ (x.e = 0 → sh (l.drop (i + 1))) := by
 obtain ⟨hi, hx⟩ := Dp h
 rw [List.drop_eq_getElem_cons hi, hx] at hk
 exact hk
theorem qK : ∀ {l : List Lk}, (ou l).1 = 0 → ou l = (0, 0)
 | [], _ => rfl
 | x :: r, h => by
  unfold ou at h ⊢
  split
  ·rename_i h0
   rw [if_pos h0] at h
   exact qK h
  ·rename_i h0
   rw [if_neg h0] at h
   exact absurd h h0
theorem wP {l : List Lk} {i : Nat} {x : Lk} (h : l[i]? = some x) : AR (l.drop i) = x.L ++ AR (l.drop (i + 1)) := by
 obtain ⟨hi, hx⟩ := Dp h
 unfold AR
 rw [List.drop_eq_getElem_cons hi, hx]
 rfl
theorem ut {σ0 : bK} {l : Nat} (ls : List Lk) (hok : sh ls) (E : AL) (E' : Int → Int → AL) (hy : ∀ e n, e ≠ 0 → AY Tryz.prog σ0 l [aA e, aA n] E fun c L => c = dx false ∧ L = E' e n) :
  zW Tryz.prog σ0 197 [.sc (.func (.yield l) #[] #[]), .iptr [.imm 1 (ls.map CA)]] (AR ls ++ E) fun _ L => L = if (ou ls).1 = 0 then E else E' (ou ls).1 (ou ls).2 := by
 refine vI Tryz.func197 rfl Tryz.ntmps197 rfl fun B hB => ?_
 repeat' (first|refine a9 ?_|refine a4 ?_|refine ak ?_|refine a6 ?_|refine a7 ?_|refine a8 a5 rfl rfl ?_)
 refine ci 7 rfl rfl fun hlen => ?_
 rw [Du] at hlen
 refine aL [0, 7, 8] (α := Nat) (fun i => [(9, aA i)]) (fun i => i ≤ ls.length ∧ ou ls = ou (ls.drop i) ∧ sh (ls.drop i)) (fun i => AR (ls.drop i) ++ E) (fun i => ls.length - i) 0 rfl ⟨rfl, trivial⟩ ⟨Nat.zero_le _, rfl, hok⟩ (fun _ _ h => h) fun i ⟨hi, he, hok⟩ => ?_
 try dsimp only [Ds, Dr, Dq, Dn]
 repeat' (first|refine a9 ?_|refine a4 ?_|refine a6 ?_|refine a7 ?_|refine a8 a5 rfl rfl ?_)
 refine ar rfl (fun h => ?_) (fun h => ?_)
 ·have hil : i < ls.length := by have := Dz h; simp at this; omega
  obtain ⟨x, hx⟩ : ∃ z, ls[i]? = some z := ⟨_, Bn hil⟩
  have hzg := bW (c := CA) hx
  obtain ⟨⟨hcf, hac⟩, hok⟩ := uG hx hok
  rw [wO hx] at he
  rw [wP hx]
  repeat' (first|refine a9 ?_|refine a4 ?_|refine ak ?_|refine ai ?_|refine a6 ?_|refine a7 ?_|refine a8 a5 rfl rfl ?_|(apply aF; first|refine aE a5 ?_|refine aB a5 ?_)|fail)
  refine cH (cs := []) x.L (AR (ls.drop (i + 1)) ++ E) (by simpa using hac) rfl rfl rfl (by rw [List.append_assoc]) rfl rfl fun c L1 hc => ?_
  subst hc
  refine aR (cf (List.sublist_append_right ..)) ?_
  unfold bL
  repeat' (first|refine a9 ?_|refine a4 ?_|refine a6 ?_|refine a7 ?_|refine a8 a5 rfl rfl ?_)
  by_cases h0 : x.e = 0
  ·rw [if_pos h0] at he
   rw [h0]
   repeat' (first|refine a4 ?_|refine ai ?_|refine a6 ?_|refine aH ?_|refine a7 ?_|refine a8 a5 rfl rfl ?_|refine ax rfl rfl rfl rfl ?_|(apply aU; refine aS ?_)|refine bC rfl ?_)
   exact az (i + 1) rfl ⟨by rw [Dv]; rfl, trivial⟩ ⟨by omega, he, hok h0⟩ (by omega) (fun _ _ h => h)
  ·rw [if_neg h0] at he
   rw [show decide (x.e ≠ 0) = true from decide_eq_true h0]
   repeat' (first|refine a8 a5 rfl rfl ?_|refine am rfl rfl ?_)
   refine aR (cf (List.sublist_append_right ..)) ?_
   refine tD E [] hB (hy x.e x.n h0) rfl rfl rfl (bA rfl) rfl rfl fun c L1 ⟨hc, hL⟩ => ?_
   subst hc; subst hL
   rw [List.append_nil]
   repeat' (first|refine ah ?_|refine a6 ?_|refine aq ?_|refine aJ ?_|refine bf ?_|refine a7 ?_|refine a8 a5 rfl rfl ?_|refine am rfl rfl ?_|refine bv rfl ?_)
   refine mg rfl ?_
   rw [he, if_neg h0]
 ·have hil : i = ls.length := by have := Dy h; simp at this; omega
  subst hil
  rw [List.drop_length] at he ⊢
  repeat' (first|refine aM ?_|refine au ?_|refine aw ?_|refine av ?_)
  refine c8 rfl ?_
  rw [he]
  rfl
theorem rU (l : List (List AV)) : bn Tryz.prog 111 [.imm 1 l] (.fn 197 [.iptr [.imm 1 l]]) := by
 refine aC Tryz.func111 rfl Tryz.ntmps111 rfl fun B => ?_
 repeat' (first|refine a9 ?_|refine a4 ?_|refine ah ?_|refine a6 ?_|refine a7 ?_|refine a8 a5 rfl rfl ?_|refine aZ ?_|fail)
 exact an rfl rfl rfl
instance (l : List (List AV)) : AD Tryz.prog 111 [.imm 1 l] (.fn 197 [.iptr [.imm 1 l]]) := ⟨rU l⟩
theorem xe {p q : Nat × AB} {l l2 : AL} : (p :: q :: (l ++ l2)).Perm (l ++ (p :: q :: l2)) := by
 have := (List.perm_append_comm (l₁ := [p, q]) (l₂ := l)).append_right l2
 simpa using this
set_option maxHeartbeats 1000000 in
theorem gk (ls : List Lk) (hok : sh ls) : AC Tryz.prog 47 [.imm 1 (ls.map CA)] (AR ls) fun c _ => c = bL (ou ls) := by
 refine vH Tryz.func47 rfl Tryz.ntmps47 rfl fun B => ?_
 repeat' (first|refine a9 ?_|refine a4 ?_|refine ak ?_|refine a6 ?_|refine a7 ?_|refine a8 a5 rfl rfl ?_|refine b4 a5 fun _=>?_|(apply bc;refine b7 ?_)|fail)
 rename_i b2 b3
 refine qf (ps := [8, 9]) rfl fun σ0 l db rec hrec => ?_
 have hy : ∀ e n : Int, e ≠ 0 → AY Tryz.prog σ0 l [aA e, aA n] ([(b3, .box [aA 0] 3), (b2, .box [aA 0] 35), (db, pT)] ++ [(l, kG rec)]) fun c L => c = dx false ∧ L = [(b3, .box [aA n] 3), (b2, .box [aA e] 35), (db, pT)] ++ [(l, kG { ({ rec with state := .busy } : Loop) with state := .done, pending := some .ret })] := by
  intro e n he
  refine zN hrec rfl rfl fun B1 hB1 => ?_
  repeat' (first|refine a9 ?_|refine a4 ?_|refine a6 ?_|refine a7 ?_|refine a8 a5 rfl rfl ?_)
  refine qg hrec.state ?_
  repeat' (first|refine a9 ?_|refine a4 ?_|refine ak ?_|refine ah ?_|refine a6 ?_|refine aJ ?_|refine a7 ?_|refine a8 a5 rfl rfl ?_|(apply aP; first|refine ad a5 0 rfl rfl rfl rfl rfl rfl rfl ?_|refine ad a5 1 rfl rfl rfl rfl rfl rfl rfl ?_|refine ad a5 2 rfl rfl rfl rfl rfl rfl rfl ?_|refine ad a5 3 rfl rfl rfl rfl rfl rfl rfl ?_|fail))
  refine rH (L := [(b3, .box [aA n] 3), (b2, .box [aA e] 35), (db, pT)]) ?_
  exact ⟨rfl, rfl⟩
 refine ⟨_, (ut ls hok _ _ hy).perm ?_, fun c L' hL' => ?_⟩
 ·simp only [List.append_assoc, Ds, Dr]
  exact xe
 ·by_cases h0 : (ou ls).1 = 0
  ·rw [if_pos h0] at hL'
   subst hL'
   refine ⟨rec, _, Do _, (by rw [hrec.state]; intro h; cases h), ?_⟩
   rw [hrec.pending]
   show AX _ _ _ _ _ _ _ _
   repeat' (first|refine a9 ?_|refine a4 ?_|refine ah ?_|refine a6 ?_|refine aH ?_|refine a7 ?_|(apply aP; first|refine ad a5 0 rfl rfl rfl rfl rfl rfl rfl ?_|refine ad a5 1 rfl rfl rfl rfl rfl rfl rfl ?_|refine ad a5 2 rfl rfl rfl rfl rfl rfl rfl ?_|refine ad a5 3 rfl rfl rfl rfl rfl rfl rfl ?_|fail))
   refine mh (cs := [aA 0, aA 0]) [db] [(b3, .box [aA 0] 3), (b2, .box [aA 0] 35)] rfl (Do _) ?_ ?_
   ·exact ⟨⟨b2, 1, _, _, rfl, rfl, .inl ⟨ck a5 rfl, rfl⟩⟩, ⟨b3, 0, _, _, rfl, rfl, .inl ⟨ck a5 rfl, rfl⟩⟩, trivial⟩
   ·have : ou ls = (0, 0) := qK h0
    rw [this]
    rfl
  ·rw [if_neg h0] at hL'
   subst hL'
   refine ⟨_, _, Do _, (by intro h; cases h), ?_⟩
   show AX _ _ _ _ _ _ _ _
   repeat' (first|refine aq ?_|refine aJ ?_)
   refine mh (cs := [aA (ou ls).1, aA (ou ls).2]) [db] [(b3, .box [aA (ou ls).2] 3), (b2, .box [aA (ou ls).1] 35)] rfl (Do _) ?_ rfl
   exact ⟨⟨b2, 1, _, _, rfl, rfl, .inl ⟨ck a5 rfl, rfl⟩⟩, ⟨b3, 0, _, _, rfl, rfl, .inl ⟨ck a5 rfl, rfl⟩⟩, trivial⟩
def Dg (l : List Int) (n : Nat) : List Int := ((List.range n).map Int.ofNat).filter (l.contains ·)
theorem qH (a b : List Int) : aT a ++ aT b = aT (a ++ b) := by simp [aT]
def d6 (b : Bool) (e : Int) : Int := bif b then e else 0
theorem xO (b : Bool) (e : Int) : bn Tryz.prog 78 [dx b, aA e] (aA (d6 b e)) := by
 refine aC Tryz.func78 rfl Tryz.ntmps78 rfl fun B => ?_
 repeat' (first|refine a9 ?_|refine a4 ?_|refine a6 ?_|refine a7 ?_|refine a8 a5 rfl rfl ?_)
 refine ar rfl (fun h => ?_) (fun h => ?_)
 ·subst h
  repeat' (first|refine a9 ?_|refine a4 ?_|refine ah ?_|refine a6 ?_|refine aq ?_|refine a7 ?_|refine a8 a5 rfl rfl ?_)
  exact an rfl rfl rfl
 ·subst h
  repeat' (first|refine a9 ?_|refine a4 ?_|refine ai ?_|refine ah ?_|refine a6 ?_|refine a7 ?_|refine a8 a5 rfl rfl ?_)
  exact an rfl rfl rfl
instance (b : Bool) (e : Int) : AD Tryz.prog 78 [dx b, aA e] (aA (d6 b e)) := ⟨xO b e⟩
def eT (z : Int) : Bool := decide (-16384 ≤ z ∧ z ≤ 16384)
theorem ph (l : List Int) : bn Tryz.prog 79 [.imm 1 (aT l)] (dx (l.all eT)) := by
 refine aC Tryz.func79 rfl Tryz.ntmps79 rfl fun B => ?_
 refine ci 0 rfl rfl fun hlen => ?_
 rw [aW] at hlen
 repeat' (first|refine a9 ?_|refine a4 ?_|refine ak ?_|refine a6 ?_|refine a7 ?_|refine a8 a5 rfl rfl ?_)
 refine aL [5, 6] (α := Nat) (fun i => [(7, aA i)]) (fun i => i ≤ l.length ∧ (l.take i).all eT = true) (fun _ => []) (fun i => l.length - i) 0 rfl ⟨rfl, trivial⟩ ⟨Nat.zero_le _, by simp⟩ (fun _ _ h => h) fun i hi => ?_
 try dsimp only [Ds, Dr, Dq, Dn]
 repeat' (first|refine a9 ?_|refine a4 ?_|refine a6 ?_|refine a7 ?_|refine a8 a5 rfl rfl ?_)
 refine ar rfl (fun h => ?_) (fun h => ?_)
 ·have hil : i < l.length := by have := Dz h; rw [aW] at this; omega
  obtain ⟨z, hz⟩ : ∃ z, l[i]? = some z := ⟨_, Bn hil⟩
  have hzg := bJ hz
  repeat' (first|refine a9 ?_|refine a4 ?_|refine ak ?_|refine ai ?_|refine a6 ?_|refine a7 ?_|refine a8 a5 rfl rfl ?_|(apply aF; first|refine aE a5 ?_|refine aB a5 ?_)|fail)
  refine bH [5, 6, 7] (eT z = false) rfl (fun Q' K => ?_) (fun hC => ?_) (fun hC => ?_)
  ·repeat' (first|refine a7 ?_|refine a8 a5 rfl rfl ?_|refine am rfl rfl ?_|refine ax rfl rfl rfl rfl ?_|refine aI rfl rfl rfl (fun _ => ?_) (fun _ => ?_))
   all_goals exact K _ _ rfl rfl (by unfold eT; simp_all <;> omega)
  ·repeat' (first|refine a9 ?_|refine a4 ?_|refine ah ?_|refine a6 ?_|refine aq ?_|refine aJ ?_|refine bf ?_|refine a7 ?_|refine a8 a5 rfl rfl ?_)
   refine an rfl rfl ?_
   rw [show l.all eT = false by
    rw [List.all_eq_false]
    exact ⟨z, Dw hz, by simp [hC]⟩]
  ·repeat' (first|refine a4 ?_|refine ai ?_|refine a6 ?_|refine aH ?_|refine a7 ?_|refine a8 a5 rfl rfl ?_|(apply aU; refine aS ?_)|fail)
   refine az (i + 1) rfl ⟨by rw [Dv]; rfl, trivial⟩ ⟨by omega, ?_⟩ (by omega) (fun _ _ h => h)
   rw [List.take_add_one, hz, List.all_append, hi.2]
   simpa using hC
 ·have hil : i = l.length := by have := Dy h; rw [aW] at this; omega
  subst hil
  rw [List.take_length] at hi
  repeat' (first|refine a9 ?_|refine a4 ?_|refine ah ?_|refine aM ?_|refine a6 ?_|refine au ?_|refine aw ?_|refine av ?_|refine a7 ?_|refine a8 a5 rfl rfl ?_)
  refine an rfl rfl ?_
  rw [hi.2]
instance (x : Int) : AD Tryz.prog 79 [.imm 1 [[aA x]]] (dx ([x].all eT)) := ⟨ph [x]⟩
instance (x y : Int) : AD Tryz.prog 79 [.imm 1 [[aA x], [aA y]]] (dx ([x, y].all eT)) := ⟨ph [x, y]⟩
instance (x y z : Int) : AD Tryz.prog 79 [.imm 1 [[aA x], [aA y], [aA z]]] (dx ([x, y, z].all eT)) := ⟨ph [x, y, z]⟩
def jd (f : aN) (n : Int) : Bool := decide (0 ≤ n ∧ n < f.Glyphs.length)
theorem qI (f : aN) (n : Int) : bn Tryz.prog 119 [cz f, aA n] (dx (jd f n)) := by
 refine aC Tryz.func119 rfl Tryz.ntmps119 rfl fun B => ?_
 repeat' (first|refine a9 ?_|refine a4 ?_|refine a6 ?_|refine a7 ?_|refine a8 a5 rfl rfl ?_|refine aZ ?_|fail)
 refine cA (t := 4) [] (jd f n = true) rfl (fun Q' K => ?_) ?_
 ·repeat' (first|refine a7 ?_|refine a8 a5 rfl rfl ?_|refine am rfl rfl ?_|refine ax rfl rfl rfl rfl ?_|refine aI rfl rfl rfl (fun _ => ?_) (fun _ => ?_))
  all_goals exact K _ _ rfl rfl (by unfold jd; simp_all <;> omega)
 repeat' (first|refine ah ?_|refine a6 ?_)
 refine an rfl rfl ?_
 simp
instance (f : aN) (n : Int) : AD Tryz.prog 119 [cz f, aA n] (dx (jd f n)) := ⟨qI f n⟩
def mN (right taken : Bool) : Int := bif right then (bif taken then 24 else 0) else 23
theorem nL (a b : Bool) : bn Tryz.prog 53 [dx a, dx b] (aA (mN a b)) := by
 refine aC Tryz.func53 rfl Tryz.ntmps53 rfl fun B => ?_
 repeat' (first|refine a9 ?_|refine a4 ?_|refine ak ?_|refine a6 ?_|refine a7 ?_|refine a8 a5 rfl rfl ?_)
 refine ar rfl (fun h => ?_) (fun h => ?_)
 ·repeat' (first|refine a9 ?_|refine a4 ?_|refine ah ?_|refine a6 ?_|refine aq ?_|refine aJ ?_|refine a7 ?_|refine a8 a5 rfl rfl ?_)
  refine an rfl rfl ?_
  cases a with
  | true => cases h
  | false => rfl
 ·repeat' (first|refine a9 ?_|refine a4 ?_|refine a6 ?_|refine a7 ?_|refine a8 a5 rfl rfl ?_)
  have ha : a = true := by cases a with
   | true => rfl
   | false => cases h
  subst ha
  refine ar rfl (fun h => ?_) (fun h => ?_)
  ·subst h
   repeat' (first|refine a9 ?_|refine a4 ?_|refine ah ?_|refine a6 ?_|refine aq ?_|refine aJ ?_|refine a7 ?_|refine a8 a5 rfl rfl ?_)
   exact an rfl rfl rfl
  ·subst h
   repeat' (first|refine a9 ?_|refine a4 ?_|refine ai ?_|refine ah ?_|refine a6 ?_|refine aH ?_|refine a7 ?_|refine a8 a5 rfl rfl ?_)
   exact an rfl rfl rfl
instance (a b : Bool) : AD Tryz.prog 53 [dx a, dx b] (aA (mN a b)) := ⟨nL a b⟩
def lJ (c : Int) : Bool := decide ((65 ≤ c ∧ c ≤ 90) ∨ (97 ≤ c ∧ c ≤ 122))
abbrev U8 (c : Int) : AV := .sc (.int .u8 c)
theorem p8 (c : Int) : bn Tryz.prog 125 [U8 c] (dx (lJ c)) := by
 refine aC Tryz.func125 rfl Tryz.ntmps125 rfl fun B => ?_
 repeat' (first|refine a9 ?_|refine a4 ?_|refine a6 ?_|refine a7 ?_|refine a8 a5 rfl rfl ?_)
 refine cA (t := 2) [] (lJ c = true) rfl (fun Q' K => ?_) ?_
 ·repeat' (first|refine a7 ?_|refine a8 a5 rfl rfl ?_|refine am rfl rfl ?_|refine ax rfl rfl rfl rfl ?_|refine cW rfl rfl rfl ?_|refine aI rfl rfl rfl (fun _ => ?_) (fun _ => ?_))
  all_goals exact K _ _ rfl rfl (by unfold lJ; simp_all <;> omega)
 repeat' (first|refine ah ?_|refine a6 ?_)
 refine an rfl rfl ?_
 simp
instance (c : Int) : AD Tryz.prog 125 [U8 c] (dx (lJ c)) := ⟨p8 c⟩
section
variable {P : Program} {tt : TT} {r : Option Nat} {ops : Array Oper} {Q : Exit → Act → World → Prop} {nt : Nat} {D : List Deferred} {fr : bw} {B : Bs} {L : AL} {rest : List Oper} {d : Nat} {ty t : TypeId} {pos : String} {af : Array Edge} {x y z : Operand}
theorem tC (ok : dl P tt) {s : ByteArray} {k : IntKind} {i : Int} {c : UInt8} {ti : TI} (ht : cI tt t = some ti) (hk : ti.k = .str) (hx : aX fr x = some (.sc (.string s))) (hy : aX fr y = some (.sc (.int k i))) (h0 : 0 ≤ i) (hu : s[i.toNat]? = some c) (hd : Nat.ble nt d = false) (h : bh P r ops Q nt D rest ((d, U8 c.toNat) :: fr) B L) : bh P r ops Q nt D (⟨some d, .index t x y, ty, pos, af, none⟩ :: rest) fr B L := bO (rx (ok.str ht hk) hx hy h0 hu) hd rfl h
end
def kS (s : ByteArray) (i : Nat) : Int := match s[i]? with | some c => c.toNat | none => 0
theorem mD {s : ByteArray} {i : Nat} {c : UInt8} (h : s[i]? = some c) : kS s i = c.toNat := by unfold kS; rw [h]
def q4 (n : Nat) (p : Nat → Bool) : Bool := (List.range n).all p
theorem kM {n : Nat} {p : Nat → Bool} : q4 n p = true ↔ ∀ i, i < n → p i = true := by simp [q4]
theorem lx {n : Nat} {p : Nat → Bool} {i : Nat} (hi : i < n) (h : p i = false) : q4 n p = false := by
 rw [Bool.eq_false_iff]
 intro hh
 rw [kM.1 hh i hi] at h
 cases h
theorem tQ {s : ByteArray} {i : Nat} (h : i < s.size) : ∃ c, s[i]? = some c := ⟨s[i], by simp [h]⟩
def eS (s : ByteArray) : Bool := decide (1 ≤ s.size ∧ s.size ≤ 8) && q4 s.size fun i => lJ (kS s i)
theorem nK (s : ByteArray) : bn Tryz.prog 66 [vy s] (dx (eS s)) := by
 refine aC Tryz.func66 rfl Tryz.ntmps66 rfl fun B => ?_
 repeat' (first|refine a9 ?_|refine a4 ?_|refine a6 ?_|refine a7 ?_|refine a8 a5 rfl rfl ?_)
 refine bH [0] (¬ (1 ≤ s.size ∧ s.size ≤ 8)) rfl (fun Q' K => ?_) (fun hC => ?_) (fun hC => ?_)
 ·repeat' (first|refine a7 ?_|refine a8 a5 rfl rfl ?_|refine am rfl rfl ?_|refine ax rfl rfl rfl rfl ?_|refine aI rfl rfl rfl (fun _ => ?_) (fun _ => ?_))
  all_goals exact K _ _ rfl rfl (by simp_all <;> omega)
 ·repeat' (first|refine a9 ?_|refine a4 ?_|refine ah ?_|refine a6 ?_|refine aq ?_|refine a7 ?_|refine a8 a5 rfl rfl ?_)
  refine an rfl rfl ?_
  unfold eS
  rw [decide_eq_false hC]
  rfl
 have hC := Decidable.not_not.1 hC
 repeat' (first|refine a9 ?_|refine a4 ?_|refine ak ?_|refine ai ?_|refine a6 ?_|refine a7 ?_|refine a8 a5 rfl rfl ?_)
 refine aL [0, 13] (α := Nat) (fun i => [(14, aA i)]) (fun i => i ≤ s.size ∧ ∀ j, j < i → lJ (kS s j) = true) (fun _ => []) (fun i => s.size - i) 0 rfl ⟨rfl, trivial⟩ ⟨Nat.zero_le _, fun j hj => absurd hj (Nat.not_lt_zero _)⟩ (fun _ _ h => h) fun i hi => ?_
 try dsimp only [Ds, Dr, Dq, Dn]
 repeat' (first|refine a9 ?_|refine a4 ?_|refine a6 ?_|refine a7 ?_|refine a8 a5 rfl rfl ?_)
 refine ar rfl (fun h => ?_) (fun h => ?_)
 ·have hil : i < s.size := by have := Dz h; omega
  obtain ⟨c, hc⟩ := tQ hil
  have hb := mD hc
  repeat' (first|refine a9 ?_|refine a4 ?_|refine ak ?_|refine ai ?_|refine a6 ?_|refine a7 ?_|refine a8 a5 rfl rfl ?_)
  refine tC a5 rfl rfl rfl rfl (by omega) (by rw [Int.toNat_natCast]; exact hc) rfl ?_
  repeat' (first|refine a6 ?_|refine a7 ?_|refine a8 a5 rfl rfl ?_|(apply bc;refine b7 ?_)|fail)
  refine ar rfl (fun h2 => ?_) (fun h2 => ?_)
  ·repeat' (first|refine a9 ?_|refine a4 ?_|refine ah ?_|refine a6 ?_|refine aq ?_|refine aJ ?_|refine bf ?_|refine a7 ?_|refine a8 a5 rfl rfl ?_)
   refine an rfl rfl ?_
   unfold eS
   rw [lx hil (by rw [hb]; simpa using h2), Bool.and_false]
  ·repeat' (first|refine a4 ?_|refine ai ?_|refine a6 ?_|refine aH ?_|refine a7 ?_|refine a8 a5 rfl rfl ?_|(apply aU; refine aS ?_)|fail)
   refine az (i + 1) rfl ⟨by rw [Dv]; rfl, trivial⟩ ⟨by omega, fun j hj => ?_⟩ (by omega) (fun _ _ h => h)
   by_cases e : j = i
   ·subst e; rw [hb]; simpa using h2
   ·exact hi.2 j (by omega)
 ·have hil : i = s.size := by have := Dy h; omega
  subst hil
  repeat' (first|refine a9 ?_|refine a4 ?_|refine ah ?_|refine aM ?_|refine a6 ?_|refine au ?_|refine aw ?_|refine av ?_|refine a7 ?_|refine a8 a5 rfl rfl ?_)
  refine an rfl rfl ?_
  unfold eS
  rw [decide_eq_true hC, kM.2 hi.2]
  rfl
instance (s : ByteArray) : AD Tryz.prog 66 [vy s] (dx (eS s)) := ⟨nK s⟩
def pt (i : Nat) (c : Int) : Bool := decide ((lJ c = true ∨ c = 95 ∨ c = 46) ∨ (0 < i ∧ ((48 ≤ c ∧ c ≤ 57) ∨ c = 45)))
def gR (s : ByteArray) : Bool := decide (1 ≤ s.size ∧ s.size ≤ 16) && q4 s.size fun i => pt i (kS s i)
set_option maxHeartbeats 1000000 in
theorem sa (s : ByteArray) : bn Tryz.prog 54 [vy s] (dx (gR s)) := by
 refine aC Tryz.func54 rfl Tryz.ntmps54 rfl fun B => ?_
 repeat' (first|refine a9 ?_|refine a4 ?_|refine a6 ?_|refine a7 ?_|refine a8 a5 rfl rfl ?_)
 refine bH [0] (¬ (1 ≤ s.size ∧ s.size ≤ 16)) rfl (fun Q' K => ?_) (fun hC => ?_) (fun hC => ?_)
 ·repeat' (first|refine a7 ?_|refine a8 a5 rfl rfl ?_|refine am rfl rfl ?_|refine ax rfl rfl rfl rfl ?_|refine aI rfl rfl rfl (fun _ => ?_) (fun _ => ?_))
  all_goals exact K _ _ rfl rfl (by simp_all <;> omega)
 ·repeat' (first|refine a9 ?_|refine a4 ?_|refine ah ?_|refine a6 ?_|refine aq ?_|refine a7 ?_|refine a8 a5 rfl rfl ?_)
  refine an rfl rfl ?_
  unfold gR
  rw [decide_eq_false hC]
  rfl
 have hC := Decidable.not_not.1 hC
 repeat' (first|refine a9 ?_|refine a4 ?_|refine ak ?_|refine ai ?_|refine a6 ?_|refine a7 ?_|refine a8 a5 rfl rfl ?_)
 refine aL [0, 16] (α := Nat) (fun i => [(17, aA i)]) (fun i => i ≤ s.size ∧ ∀ j, j < i → pt j (kS s j) = true) (fun _ => []) (fun i => s.size - i) 0 rfl ⟨rfl, trivial⟩ ⟨Nat.zero_le _, fun j hj => absurd hj (Nat.not_lt_zero _)⟩ (fun _ _ h => h) fun i hi => ?_
 try dsimp only [Ds, Dr, Dq, Dn]
 repeat' (first|refine a9 ?_|refine a4 ?_|refine a6 ?_|refine a7 ?_|refine a8 a5 rfl rfl ?_)
 refine ar rfl (fun h => ?_) (fun h => ?_)
 ·have hil : i < s.size := by have := Dz h; omega
  obtain ⟨c, hc⟩ := tQ hil
  have hb := mD hc
  repeat' (first|refine a9 ?_|refine a4 ?_|refine ak ?_|refine ai ?_|refine a6 ?_|refine a7 ?_|refine a8 a5 rfl rfl ?_)
  refine tC a5 rfl rfl rfl rfl (by omega) (by rw [Int.toNat_natCast]; exact hc) rfl ?_
  generalize (c.toNat : Int) = z at *
  repeat' (first|refine a9 ?_|refine a4 ?_|refine a6 ?_|refine a7 ?_|refine a8 a5 rfl rfl ?_|(apply bc;refine b7 ?_)|fail)
  refine cA (t := 5) [0, 3, 4, 16, 17] (lJ z = true ∨ z = 95 ∨ z = 46) rfl (fun Q' K => ?_) ?_
  ·clear hi hb hc h
   repeat' (first|refine a7 ?_|refine a8 a5 rfl rfl ?_|refine am rfl rfl ?_|refine ax rfl rfl rfl rfl ?_|refine aI rfl rfl rfl (fun _ => ?_) (fun _ => ?_))
   all_goals exact K _ _ rfl rfl (by simp_all)
  repeat' (first|refine a9 ?_|refine a4 ?_|refine a6 ?_|refine a8 a5 rfl rfl ?_)
  refine cA (t := 6) [0, 5, 16, 17] (0 < i ∧ ((48 ≤ z ∧ z ≤ 57) ∨ z = 45)) rfl (fun Q' K => ?_) ?_
  ·clear hi hb hc h
   repeat' (first|refine a7 ?_|refine a8 a5 rfl rfl ?_|refine am rfl rfl ?_|refine ax rfl rfl rfl rfl ?_|refine cW rfl rfl rfl ?_|refine aI rfl rfl rfl (fun _ => ?_) (fun _ => ?_))
   all_goals exact K _ _ rfl rfl (by simp_all <;> omega)
  repeat' (first|refine a9 ?_|refine a4 ?_|refine a6 ?_|refine a8 a5 rfl rfl ?_)
  refine bH [0, 16, 17] (pt i z = false) rfl (fun Q' K => ?_) (fun h2 => ?_) (fun h2 => ?_)
  ·clear hi hb hc h
   repeat' (first|refine a7 ?_|refine a8 a5 rfl rfl ?_|refine am rfl rfl ?_|refine ax rfl rfl rfl rfl ?_|refine aI rfl rfl rfl (fun _ => ?_) (fun _ => ?_))
   all_goals exact K _ _ rfl rfl (by clear K; unfold pt; grind)
  ·repeat' (first|refine a9 ?_|refine a4 ?_|refine ah ?_|refine a6 ?_|refine aq ?_|refine aJ ?_|refine bf ?_|refine a7 ?_|refine a8 a5 rfl rfl ?_)
   refine an rfl rfl ?_
   unfold gR
   rw [lx hil (by rw [hb]; exact h2), Bool.and_false]
  ·repeat' (first|refine a4 ?_|refine ai ?_|refine a6 ?_|refine aH ?_|refine a7 ?_|refine a8 a5 rfl rfl ?_|(apply aU; refine aS ?_)|fail)
   refine az (i + 1) rfl ⟨by rw [Dv]; rfl, trivial⟩ ⟨by omega, fun j hj => ?_⟩ (by omega) (fun _ _ h => h)
   by_cases e : j = i
   ·subst e; rw [hb]; simpa using h2
   ·exact hi.2 j (by omega)
 ·have hil : i = s.size := by have := Dy h; omega
  subst hil
  repeat' (first|refine a9 ?_|refine a4 ?_|refine ah ?_|refine aM ?_|refine a6 ?_|refine au ?_|refine aw ?_|refine av ?_|refine a7 ?_|refine a8 a5 rfl rfl ?_)
  refine an rfl rfl ?_
  unfold gR
  rw [decide_eq_true hC, kM.2 hi.2]
  rfl
instance (s : ByteArray) : AD Tryz.prog 54 [vy s] (dx (gR s)) := ⟨sa s⟩
end Go.Proofs.YtpmdfoaadejmkaaGreatDoor
namespace Go.Proofs.YtpmdfoaadejmkaaGreatDoor
open Go.RowKit
attribute [local irreducible] AT bh AX AO Av Kt b6 di DA cC
def eK {α : Type} (l : List α) (w : Nat → α → Int) (i : Nat) : Int := match l[i]? with | some x => w i x | none => 0
def co {α : Type} (l : List α) (w : Nat → α → Int) : Int × Int := cw (eK l w) l.length
def c5 {α : Type} (most : Int) (l : List α) (w : Nat → α → Int) : Int × Int := cu most (eK l w) l.length
theorem fm {α : Type} {l : List α} {w : Nat → α → Int} {i : Nat} {x : α} (h : l[i]? = some x) : eK l w i = w i x := by unfold eK; rw [h]
theorem ct {α : Type} {P : Program} {g : FuncId} {caps : List AV} {l : List α} {el : α → AV} {w : Nat → α → Int} (h : ∀ (i : Nat) x, l[i]? = some x → bn P g ([aA i, el x] ++ caps) (aA (w i x))) : ∀ (i : Nat) x (L : AL), l[i]? = some x → True → AC P g ([aA i, el x] ++ caps) L fun c _ => c = aA (eK l w i) ∧ (eK l w i = 0 → True) := by
 intro i x L hx _
 rw [fm hx]
 exact ((h i x hx).any L).mono fun c L' ⟨h1, _⟩ => ⟨h1, fun _ => trivial⟩
theorem nC {α : Type} {P : Program} {g : FuncId} {caps : List AV} {l : List α} {el : α → AV} {w : Nat → α → Int} {L0 : AL} (h : ∀ (i : Nat) x, l[i]? = some x → AC P g ([aA i, el x] ++ caps) L0 fun c L' => c = aA (w i x) ∧ L' = L0) : ∀ (i : Nat) x (L : AL), l[i]? = some x → L = L0 → AC P g ([aA i, el x] ++ caps) L fun c L' => c = aA (eK l w i) ∧ (eK l w i = 0 → L' = L0) := by
 intro i x L hx hL
 subst hL
 rw [fm hx]
 exact (h i x hx).mono fun c L' ⟨h1, h2⟩ => ⟨h1, fun _ => h2⟩
theorem sO (n : Int) : bn Tryz.prog 263 [aA n] (dx (eT n)) := by
 refine aC Tryz.func263 rfl Tryz.ntmps263 rfl fun B => ?_
 repeat' (first|refine a9 ?_|refine a4 ?_|refine a6 ?_|refine a7 ?_|refine a8 a5 rfl rfl ?_)
 refine cA (t := 2) [] (eT n = true) rfl (fun Q' K => ?_) ?_
 ·repeat' (first|refine a7 ?_|refine a8 a5 rfl rfl ?_|refine am rfl rfl ?_|refine ax rfl rfl rfl rfl ?_|refine aI rfl rfl rfl (fun _ => ?_) (fun _ => ?_))
  all_goals exact K _ _ rfl rfl (by clear K; unfold eT; grind)
 repeat' (first|refine ah ?_|refine a6 ?_)
 refine an rfl rfl ?_
 simp
instance (n : Int) : AD Tryz.prog 263 [aA n] (dx (eT n)) := ⟨sO n⟩
def it (n : Int) : Int → List Int → Bool
 | last, [] => decide (last = n - 1)
 | last, e :: r => if e ≥ n ∨ e < last + 2 then false else it n e r
def qV (p : ie) : Bool := eT p.X && eT p.Y
def gu (pts : List ie) (ends : List Int) : Bool := decide (pts.length ≤ 200 ∧ ends.length ≤ 40) && (pts.all qV && it pts.length (-1) ends)
theorem qy {n last : Int} {l : List Int} {i : Nat} {e : Int} (h : l[i]? = some e) : it n last (l.drop i) = if e ≥ n ∨ e < last + 2 then false else it n e (l.drop (i + 1)) := by
 obtain ⟨hi, hx⟩ := Dp h
 rw [List.drop_eq_getElem_cons hi, hx]
 rfl
set_option maxHeartbeats 1000000 in
theorem py (pts : List ie) (ends : List Int) : bn Tryz.prog 200 [.agg [.imm 3 (pts.map fz), .imm 1 (aT ends)]] (dx (gu pts ends)) := by
 refine aC Tryz.func200 rfl Tryz.ntmps200 rfl fun B => ?_
 repeat' (first|refine a9 ?_|refine a4 ?_|refine a6 ?_|refine a7 ?_|refine a8 a5 rfl rfl ?_|refine aZ ?_|fail)
 refine bH [1] (¬ (pts.length ≤ 200 ∧ ends.length ≤ 40)) rfl (fun Q' K => ?_) (fun hC => ?_) (fun hC => ?_)
 ·repeat' (first|refine a7 ?_|refine a8 a5 rfl rfl ?_|refine am rfl rfl ?_|refine ax rfl rfl rfl rfl ?_|refine aI rfl rfl rfl (fun _ => ?_) (fun _ => ?_))
  all_goals exact K _ _ rfl rfl (by clear K; simp_all [aW] <;> omega)
 ·repeat' (first|refine a9 ?_|refine a4 ?_|refine ah ?_|refine a6 ?_|refine aq ?_|refine a7 ?_|refine a8 a5 rfl rfl ?_)
  refine an rfl rfl ?_
  unfold gu
  rw [decide_eq_false hC]
  rfl
 have hC := Decidable.not_not.1 hC
 have hlm : (pts.map fz).length = pts.length := Du ..
 repeat' (first|refine a9 ?_|refine a4 ?_|refine ak ?_|refine ai ?_|refine a6 ?_|refine a7 ?_|refine a8 a5 rfl rfl ?_)
 refine aL [1, 19, 20] (α := Nat) (fun i => [(21, aA i)]) (fun i => i ≤ pts.length ∧ (pts.take i).all qV = true) (fun _ => []) (fun i => pts.length - i) 0 rfl ⟨rfl, trivial⟩ ⟨Nat.zero_le _, by simp⟩ (fun _ _ h => h) fun i hi => ?_
 try dsimp only [Ds, Dr, Dq, Dn]
 repeat' (first|refine a9 ?_|refine a4 ?_|refine a6 ?_|refine a7 ?_|refine a8 a5 rfl rfl ?_)
 refine ar rfl (fun h => ?_) (fun h => ?_)
 ·have hil : i < pts.length := by have := Dz h; simp at this; omega
  obtain ⟨z, hz⟩ : ∃ z, pts[i]? = some z := ⟨_, Bn hil⟩
  have hzg := bW (c := fz) hz
  clear h
  repeat' (first|refine a9 ?_|refine a4 ?_|refine ak ?_|refine ai ?_|refine a6 ?_|refine a7 ?_|refine a8 a5 rfl rfl ?_|(apply aF; first|refine aE a5 ?_|refine aB a5 ?_)|(apply aP; first|refine aa 4 a5 0 rfl rfl rfl rfl rfl rfl rfl rfl ?_|refine aa 4 a5 1 rfl rfl rfl rfl rfl rfl rfl rfl ?_|refine aa 4 a5 2 rfl rfl rfl rfl rfl rfl rfl rfl ?_|refine ad a5 0 rfl rfl rfl rfl rfl rfl rfl ?_|refine ad a5 1 rfl rfl rfl rfl rfl rfl rfl ?_|refine ad a5 2 rfl rfl rfl rfl rfl rfl rfl ?_|refine ad a5 3 rfl rfl rfl rfl rfl rfl rfl ?_|fail)|refine b4 a5 fun _=>?_|(apply bc;refine b7 ?_)|fail)
  refine bH [1, 19, 20, 21] (qV z = false) rfl (fun Q' K => ?_) (fun h2 => ?_) (fun h2 => ?_)
  ·clear hi hzg
   repeat' (first|refine a7 ?_|refine a8 a5 rfl rfl ?_|refine am rfl rfl ?_|refine ax rfl rfl rfl rfl ?_|(apply bc;refine b7 ?_)|refine aI rfl rfl rfl (fun _ => ?_) (fun _ => ?_))
   all_goals exact K _ _ rfl rfl (by clear K; unfold qV; simp_all)
  ·repeat' (first|refine a9 ?_|refine a4 ?_|refine ah ?_|refine a6 ?_|refine aq ?_|refine aJ ?_|refine bf ?_|refine a7 ?_|refine a8 a5 rfl rfl ?_)
   refine an rfl rfl ?_
   unfold gu
   rw [show pts.all qV = false by
    rw [List.all_eq_false]
    exact ⟨z, Dw hz, by simp [h2]⟩]
   simp
  ·repeat' (first|refine a4 ?_|refine ai ?_|refine a6 ?_|refine aH ?_|refine a7 ?_|refine a8 a5 rfl rfl ?_|(apply aU; refine aS ?_)|fail)
   refine az (i + 1) rfl ⟨by rw [Dv]; rfl, trivial⟩ ⟨by omega, ?_⟩ (by omega) (fun _ _ h => h)
   rw [List.take_add_one, hz, List.all_append, hi.2]
   simpa using h2
 have hil : i = pts.length := by have := Dy h; simp at this; omega
 subst hil
 rw [List.take_length] at hi
 have hall := hi.2
 clear hi h
 have hval : gu pts ends = it pts.length (-1) ends := by
  unfold gu
  rw [decide_eq_true hC, hall]
  rfl
 rw [hval]
 repeat' (first|refine a9 ?_|refine a4 ?_|refine ak ?_|refine aM ?_|refine a6 ?_|refine au ?_|refine aw ?_|refine av ?_|refine a7 ?_|refine a8 a5 rfl rfl ?_)
 refine aL [1, 37, 38] (α := Nat × Int) (fun x => [(39, aA x.1), (5, aA x.2)]) (fun x => x.1 ≤ ends.length ∧ -1 ≤ x.2 ∧ x.2 ≤ 1000 ∧ it pts.length (-1) ends = it pts.length x.2 (ends.drop x.1)) (fun _ => []) (fun x => ends.length - x.1) (0, -1) rfl ⟨rfl, rfl, trivial⟩ ⟨Nat.zero_le _, by decide, by decide, rfl⟩ (fun _ _ h => h) ?_
 rintro ⟨i, last⟩ ⟨hi, hl0, hl1, he⟩
 dsimp only at hi hl0 hl1 he ⊢
 try dsimp only [Ds, Dr, Dq, Dn]
 repeat' (first|refine a9 ?_|refine a4 ?_|refine a6 ?_|refine a7 ?_|refine a8 a5 rfl rfl ?_)
 refine ar rfl (fun h => ?_) (fun h => ?_)
 ·have hil : i < ends.length := by have := Dz h; simp [aW] at this; omega
  obtain ⟨z, hz⟩ : ∃ z, ends[i]? = some z := ⟨_, Bn hil⟩
  have hzg := bJ hz
  rw [qy hz] at he
  clear h
  repeat' (first|refine a9 ?_|refine a4 ?_|refine ak ?_|refine ai ?_|refine a6 ?_|refine a7 ?_|refine a8 a5 rfl rfl ?_|(apply aF; first|refine aE a5 ?_|refine aB a5 ?_)|fail)
  refine bH [1, 7, 37, 38, 39] (z ≥ pts.length ∨ z < last + 2) rfl (fun Q' K => ?_) (fun h2 => ?_) (fun h2 => ?_)
  ·clear hi hzg he hval
   repeat' (first|refine a7 ?_|refine a8 a5 rfl rfl ?_|refine am rfl rfl ?_|refine ax rfl rfl rfl rfl ?_|(apply aU; refine aS ?_)|refine aI rfl rfl rfl (fun _ => ?_) (fun _ => ?_))
   all_goals exact K _ _ rfl rfl (by clear K; simp_all <;> omega)
  ·rw [if_pos h2] at he
   repeat' (first|refine a9 ?_|refine a4 ?_|refine ah ?_|refine a6 ?_|refine aq ?_|refine aJ ?_|refine bf ?_|refine a7 ?_|refine a8 a5 rfl rfl ?_)
   refine an rfl rfl ?_
   rw [he]
  ·rw [if_neg h2] at he
   repeat' (first|refine a4 ?_|refine ai ?_|refine a6 ?_|refine aH ?_|refine a7 ?_|refine a8 a5 rfl rfl ?_|(apply aU; refine aS ?_)|fail)
   exact az (i + 1, z) rfl ⟨by rw [Dv]; rfl, rfl, trivial⟩ ⟨by dsimp only; omega, by dsimp only; omega, by dsimp only; omega, he⟩ (by dsimp only; omega) (fun _ _ h => h)
 ·have hil : i = ends.length := by have := Dy h; simp [aW] at this; omega
  subst hil
  rw [List.drop_length] at he
  repeat' (first|refine a9 ?_|refine a4 ?_|refine ah ?_|refine aM ?_|refine a6 ?_|refine au ?_|refine aw ?_|refine av ?_|refine a7 ?_|refine a8 a5 rfl rfl ?_|(apply aU; refine aS ?_)|fail)
  refine an rfl rfl ?_
  rw [he]
  simp [it]
def Cm (_ : Nat) (p : ie) : Int := d6 (!([p.X, p.Y].all eT)) 30
theorem sG (i : Nat) (p : ie) : bn Tryz.prog 199 [aA i, .agg (fz p)] (aA (Cm i p)) := by
 refine aC Tryz.func199 rfl Tryz.ntmps199 rfl fun B => ?_
 repeat' (first|refine a9 ?_|refine a4 ?_|refine ah ?_|refine a6 ?_|refine a7 ?_|refine a8 a5 rfl rfl ?_|refine aZ ?_|refine ce a5 ?_|(apply bc;refine b7 ?_)|fail)
 exact an rfl rfl rfl
def gX (g : bb) : Int := if g.Advance < 0 ∨ g.Advance > 16384 then 1 else if g.Points.length > 200 ∨ g.Ends.length > 40 then 2 else if (co g.Points Cm).1 ≠ 0 then (co g.Points Cm).1 else d6 (!(gu g.Points g.Ends)) 31
theorem vd (g : bb) : bn Tryz.prog 116 [.agg (c7 g)] (aA (gX g)) := by
 refine aC Tryz.func116 rfl Tryz.ntmps116 rfl fun B => ?_
 unfold gX
 repeat' (first|refine a9 ?_|refine a4 ?_|refine ak ?_|refine a6 ?_|refine a7 ?_|refine a8 a5 rfl rfl ?_|refine aZ ?_|fail)
 refine bH [1] (g.Advance < 0 ∨ g.Advance > 16384) rfl (fun Q' K => ?_) (fun hC => ?_) (fun hC => ?_)
 ·repeat' (first|refine a7 ?_|refine a8 a5 rfl rfl ?_|refine am rfl rfl ?_|refine ax rfl rfl rfl rfl ?_|refine aI rfl rfl rfl (fun _ => ?_) (fun _ => ?_))
  all_goals exact K _ _ rfl rfl (by clear K; grind)
 ·rw [if_pos hC]
  repeat' (first|refine a9 ?_|refine a4 ?_|refine ah ?_|refine a6 ?_|refine aq ?_|refine aJ ?_|refine a7 ?_|refine a8 a5 rfl rfl ?_)
  exact an rfl rfl rfl
 rw [if_neg hC]
 repeat' (first|refine a9 ?_|refine a4 ?_|refine a8 a5 rfl rfl ?_)
 refine bH [1] (g.Points.length > 200 ∨ g.Ends.length > 40) rfl (fun Q' K => ?_) (fun hC => ?_) (fun hC => ?_)
 ·repeat' (first|refine a7 ?_|refine a8 a5 rfl rfl ?_|refine am rfl rfl ?_|refine ax rfl rfl rfl rfl ?_|refine aI rfl rfl rfl (fun _ => ?_) (fun _ => ?_))
  all_goals exact K _ _ rfl rfl (by clear K; simp_all [aW] <;> omega)
 ·rw [if_pos hC]
  repeat' (first|refine a9 ?_|refine a4 ?_|refine ah ?_|refine a6 ?_|refine aq ?_|refine aJ ?_|refine a7 ?_|refine a8 a5 rfl rfl ?_)
  exact an rfl rfl rfl
 rw [if_neg hC]
 repeat' (first|refine a9 ?_|refine a4 ?_|refine ai ?_|refine a6 ?_|refine aH ?_|refine a8 a5 rfl rfl ?_)
 refine aO [] [] (yC (u := .sc (.func (.func 199) #[] #[])) (g := 199) (caps := []) rfl g.Points _ (fun _ _ => True) [] trivial (ct (fun i x _ => sG i x))) rfl rfl (Do _) rfl fun c L1 hc => ?_
 have hc : c = bL (co g.Points Cm) := hc
 subst hc
 unfold bL
 repeat' (first|refine a9 ?_|refine a4 ?_|refine a6 ?_|refine a7 ?_|refine a8 a5 rfl rfl ?_)
 refine ar rfl (fun h => ?_) (fun h => ?_)
 ·rw [if_pos (Dz h)]
  repeat' (first|refine a9 ?_|refine a4 ?_|refine ah ?_|refine a6 ?_|refine aq ?_|refine a7 ?_|refine a8 a5 rfl rfl ?_)
  exact an rfl rfl rfl
 ·rw [if_neg (Dy h)]
  repeat' (first|refine a9 ?_|refine a4 ?_|refine ai ?_|refine a6 ?_|refine a8 a5 rfl rfl ?_)
  refine b7 (hc := ⟨py g.Points g.Ends⟩) ?_
  repeat' (first|refine ah ?_|refine a6 ?_|refine a7 ?_|refine a8 a5 rfl rfl ?_|(apply bc;refine b7 ?_)|fail)
  exact an rfl rfl rfl
instance (g : bb) : AD Tryz.prog 116 [.agg (c7 g)] (aA (gX g)) := ⟨vd g⟩
end Go.Proofs.YtpmdfoaadejmkaaGreatDoor
namespace Go.Proofs.YtpmdfoaadejmkaaGreatDoor
open Go.RowKit
attribute [local irreducible] AT bh AX AO Av Kt b6 di DA cC
open Go.MapKept
def yT (_ : Nat) (i : gC) : Int := if i.Op < 1 ∨ i.Op > 39 then 50 else if i.A < -999999999 ∨ i.A > 999999999 then 3 else 0
theorem pC (n : Nat) (i : gC) : bn Tryz.prog 154 [aA n, .agg (ip i)] (aA (yT n i)) := by
 refine aC Tryz.func154 rfl Tryz.ntmps154 rfl fun B => ?_
 unfold yT
 repeat' (first|refine a9 ?_|refine a4 ?_|refine ak ?_|refine a6 ?_|refine a7 ?_|refine a8 a5 rfl rfl ?_|refine aZ ?_|fail)
 refine bH [3] (i.Op < 1 ∨ i.Op > 39) rfl (fun Q' K => ?_) (fun hC => ?_) (fun hC => ?_)
 ·repeat' (first|refine a7 ?_|refine a8 a5 rfl rfl ?_|refine am rfl rfl ?_|refine ax rfl rfl rfl rfl ?_|refine aI rfl rfl rfl (fun _ => ?_) (fun _ => ?_))
  all_goals exact K _ _ rfl rfl (by clear K; grind)
 ·rw [if_pos hC]
  repeat' (first|refine a9 ?_|refine a4 ?_|refine ah ?_|refine a6 ?_|refine aq ?_|refine aJ ?_|refine a7 ?_|refine a8 a5 rfl rfl ?_)
  exact an rfl rfl rfl
 rw [if_neg hC]
 repeat' (first|refine a9 ?_|refine a4 ?_|refine a8 a5 rfl rfl ?_)
 refine bH [] (i.A < -999999999 ∨ i.A > 999999999) rfl (fun Q' K => ?_) (fun hC => ?_) (fun hC => ?_)
 ·repeat' (first|refine a7 ?_|refine a8 a5 rfl rfl ?_|refine am rfl rfl ?_|refine ax rfl rfl rfl rfl ?_|refine aI rfl rfl rfl (fun _ => ?_) (fun _ => ?_))
  all_goals exact K _ _ rfl rfl (by clear K; grind)
 ·rw [if_pos hC]
  repeat' (first|refine a9 ?_|refine a4 ?_|refine ah ?_|refine a6 ?_|refine aq ?_|refine aJ ?_|refine a7 ?_|refine a8 a5 rfl rfl ?_)
  exact an rfl rfl rfl
 rw [if_neg hC]
 repeat' (first|refine a9 ?_|refine a4 ?_|refine ai ?_|refine ah ?_|refine a6 ?_|refine aH ?_|refine a7 ?_|refine a8 a5 rfl rfl ?_)
 exact an rfl rfl rfl
def nh (l : List gC) : Int := (c5 200 l yT).1
theorem qU (l : List gC) : bn Tryz.prog 75 [.imm 2 (l.map ip)] (aA (nh l)) := by
 refine aC Tryz.func75 rfl Tryz.ntmps75 rfl fun B => ?_
 repeat' (first|refine a9 ?_|refine a4 ?_|refine a6 ?_|refine a7 ?_|refine a8 a5 rfl rfl ?_|(apply bc;refine b7 ?_)|fail)
 refine cH (f := 227) (cs := []) [] [] (zp (g := 154) (caps := []) rfl l 200 _ (fun _ _ => True) [] trivial (fun _ => ct fun i x _ => pC i x)) rfl rfl rfl (Do _) rfl rfl fun c L1 hc => ?_
 have hc : c = bL (c5 200 l yT) := hc
 subst hc
 unfold bL
 repeat' (first|refine a9 ?_|refine a4 ?_|refine ah ?_|refine a6 ?_|refine a7 ?_|refine a8 a5 rfl rfl ?_)
 exact an rfl rfl rfl
instance (l : List gC) : AD Tryz.prog 75 [.imm 2 (l.map ip)] (aA (nh l)) := ⟨qU l⟩
def lQ (f : aN) (_ : Nat) (p : cS) : Int := if jd f p.Glyph = false then 32 else d6 (!([p.X, p.Y].all eT)) 30
theorem s5 (f : aN) (n : Nat) (p : cS) : bn Tryz.prog 118 [aA n, .agg (eZ p), .iptr (bV f)] (aA (lQ f n p)) := by
 refine aC Tryz.func118 rfl Tryz.ntmps118 rfl fun B => ?_
 unfold lQ
 repeat' (first|refine a9 ?_|refine a4 ?_|refine a6 ?_|refine a7 ?_|refine a8 a5 rfl rfl ?_|refine aZ ?_|(apply bc;refine b7 ?_)|fail)
 refine ar rfl (fun h => ?_) (fun h => ?_)
 ·rw [if_pos (by simpa using h)]
  repeat' (first|refine a9 ?_|refine a4 ?_|refine ah ?_|refine a6 ?_|refine aq ?_|refine a7 ?_|refine a8 a5 rfl rfl ?_)
  exact an rfl rfl rfl
 ·rw [if_neg (by simpa using h)]
  repeat' (first|refine a9 ?_|refine a4 ?_|refine ai ?_|refine ah ?_|refine a6 ?_|refine a7 ?_|refine a8 a5 rfl rfl ?_|refine ce a5 ?_|(apply bc;refine b7 ?_)|fail)
  exact an rfl rfl rfl
def kN (g : bb) (i : Nat) (a : dy) : Int := if (a.Kind < 1 ∨ a.Kind > 4) ∨ (a.Class < 0 ∨ a.Class > 15) ∨ ((a.Kind = 3 ∨ a.Kind = 4) ∧ a.Class ≠ 0) ∨ [a.X, a.Y].all eT = false ∨ (a.Kind = 2 ∧ g.Mark = false) ∨ (∃ b ∈ g.Anchors.take i, b.Kind = a.Kind ∧ b.Class = a.Class) then 35 else 0
def qv (f : aN) (g : bb) (i : Nat) (d : f3) : Int := if d.Region < 0 ∨ d.Region ≥ f.Regions.length then 61 else if (d.Point < -1 ∨ d.Point ≥ g.Points.length) ∨ [d.X, d.Y].all eT = false ∨ (d.Point = -1 ∧ d.Y ≠ 0) then 30 else if (match i with | 0 => false | j + 1 => match g.Deltas[j]? with | some b => decide (d.Region < b.Region ∨ (d.Region = b.Region ∧ d.Point ≤ b.Point)) | none => false) = true then 24 else 0
theorem rz (b : Bool) : AC Tryz.prog 121 [dx b] [] fun c L => ∃ m, c = .fn 205 [.iptr [dx b], .iptr [.sc (.map (some m))]] ∧ L = [(m, fc fun _ _ => none)] := by
 refine aC Tryz.func121 rfl Tryz.ntmps121 rfl fun B => ?_
 repeat' (first|refine a9 ?_|refine a4 ?_|refine a6 ?_|refine a7 ?_|refine a8 a5 rfl rfl ?_|refine aZ ?_|fail)
 refine sq fun m => ?_
 repeat' (first|refine a9 ?_|refine a4 ?_|refine ah ?_|refine a6 ?_|refine a7 ?_|refine a8 a5 rfl rfl ?_|(apply aP; first|refine aa 3 a5 0 rfl rfl rfl rfl rfl rfl rfl rfl ?_|refine aa 3 a5 1 rfl rfl rfl rfl rfl rfl rfl rfl ?_|refine aa 3 a5 2 rfl rfl rfl rfl rfl rfl rfl rfl ?_|refine ad a5 0 rfl rfl rfl rfl rfl rfl rfl ?_|refine ad a5 1 rfl rfl rfl rfl rfl rfl rfl ?_|refine ad a5 2 rfl rfl rfl rfl rfl rfl rfl ?_|refine ad a5 3 rfl rfl rfl rfl rfl rfl rfl ?_|fail)|refine b4 a5 fun _=>?_|fail)
 exact an rfl rfl ⟨_, rfl, rfl⟩
theorem ur (r p : Int) : AC Tryz.prog 123 [aA r, aA p] [] fun c L => ∃ b, c = .fn 208 [.iptr [aA r], .iptr [aA p], .sc (.pointer (some ⟨b, 0, none⟩))] ∧ L = [(b, .box [aA 0, aA 0] 296)] := by
 refine aC Tryz.func123 rfl Tryz.ntmps123 rfl fun B => ?_
 repeat' (first|refine a9 ?_|refine a4 ?_|refine ah ?_|refine a6 ?_|refine a7 ?_|refine a8 a5 rfl rfl ?_|refine aZ ?_|refine b4 a5 fun _=>?_|fail)
 exact an rfl rfl ⟨_, rfl, rfl⟩
theorem s3 (e : Int) : bn Tryz.prog 114 [.iptr [aA e]] (bL (e, 0)) := by
 refine aC Tryz.func114 rfl Tryz.ntmps114 rfl fun B => ?_
 repeat' (first|refine a9 ?_|refine a4 ?_|refine ah ?_|refine a6 ?_|refine a7 ?_|refine a8 a5 rfl rfl ?_)
 exact aK rfl rfl rfl rfl
theorem s4 (g : bb) : bn Tryz.prog 115 [.iptr (c7 g)] (bL (gX g, 0)) := by
 refine aC Tryz.func115 rfl Tryz.ntmps115 rfl fun B => ?_
 repeat' (first|refine a9 ?_|refine a4 ?_|refine ah ?_|refine a6 ?_|refine a7 ?_|refine a8 a5 rfl rfl ?_|(apply bc;refine b7 ?_)|fail)
 exact aK rfl rfl rfl rfl
theorem s6 (g : bb) : bn Tryz.prog 124 [.iptr (c7 g)] (bL (nh g.Hint, 0)) := by
 refine aC Tryz.func124 rfl Tryz.ntmps124 rfl fun B => ?_
 repeat' (first|refine a9 ?_|refine a4 ?_|refine ah ?_|refine a6 ?_|refine a7 ?_|refine a8 a5 rfl rfl ?_|(apply bc;refine b7 ?_)|fail)
 exact aK rfl rfl rfl rfl
def fC (l : List (Int × Int)) : Int × Int := match l with
 | [] => (0, 0)
 | x :: r => if x.1 = 0 then fC r else x
theorem gS : ∀ l : List Lk, ou l = fC (l.map fun x => (x.e, x.n))
 | [] => rfl
 | x :: r => by simp only [ou, Dq, fC]; rw [gS r]
def mS (f : aN) (g : bb) (name : Int) : Int := (fC [(name, 0), (gX g, 0), c5 8 g.Parts (lQ f), c5 16 g.Anchors (kN g), c5 400 g.Deltas (qv f g), (nh g.Hint, 0)]).1
end Go.Proofs.YtpmdfoaadejmkaaGreatDoor
