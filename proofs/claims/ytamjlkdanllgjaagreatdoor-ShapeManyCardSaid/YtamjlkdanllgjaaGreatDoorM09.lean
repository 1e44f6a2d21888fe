/-
  The program: what the first look tells that finds something wrong.
-/
import Derived.Test.YtamjlkdanllgjaaGreatDoorM08
import Derived.Test.YtamjlkdanllgjaaGreatDoorM07
import Derived.Test.YtamjlkdanllgjaaGreatDoorM05
import Derived.Test.YtamjlkdanllgjaaGreatDoorM06
namespace Go.Proofs.YtamjlkdanllgjaaGreatDoor
open Go.RowKit
attribute [local irreducible] AT br AX AO Av Kt aW cZ DA cw
structure Lk where
 f : FuncId
 caps : List AV
 L : AL
 e : Int
 n : Int
def Lk.ok (x : Lk) : Prop := bv Tryz.prog x.f ∧ AC Tryz.prog x.f x.caps x.L fun c _ => c = bX (x.e, x.n)
def pw : List Lk → Int × Int
 | [] => (0, 0)
 | x :: r => if x.e = 0 then pw r else (x.e, x.n)
def Dt (l : List Lk) : AL := (l.map Lk.L).flatten
def tu : List Lk → Prop
 | [] => True
 | x :: r => x.ok ∧ (x.e = 0 → tu r)
def Gh (x : Lk) : List AV := [.fn x.f x.caps]
theorem yh {l : List Lk} {i : Nat} {x : Lk} (h : l[i]? = some x) : pw (l.drop i) = if x.e = 0 then pw (l.drop (i + 1)) else (x.e, x.n) := by
 obtain ⟨hi, hx⟩ := Hq h
 rw [List.drop_eq_getElem_cons hi, hx]
 rfl
theorem w7 {l : List Lk} {i : Nat} {x : Lk} (h : l[i]? = some x) (hk : tu (l.drop i)) : x.ok ∧ (x.e = 0 → tu (l.drop (i + 1))) := by
 obtain ⟨hi, hx⟩ := Hq h
 rw [List.drop_eq_getElem_cons hi, hx] at hk
 exact hk
theorem rL : ∀ {l : List Lk}, (pw l).1 = 0 → pw l = (0, 0)
 | [], _ => rfl
 | x :: r, h => by
  unfold pw at h ⊢
  split
  ·rename_i h0
   rw [if_pos h0] at h
   exact rL h
  ·rename_i h0
   rw [if_neg h0] at h
   exact absurd h h0
theorem yi {l : List Lk} {i : Nat} {x : Lk} (h : l[i]? = some x) : Dt (l.drop i) = x.L ++ Dt (l.drop (i + 1)) := by
 obtain ⟨hi, hx⟩ := Hq h
 unfold Dt
 rw [List.drop_eq_getElem_cons hi, hx]
 rfl
theorem vJ {σ0 : bT} {l : Nat} (ls : List Lk) (hok : tu ls) (E : AL) (E' : Int → Int → AL) (hy : ∀ e n, e ≠ 0 → AY Tryz.prog σ0 l [aD e, aD n] E fun c L => c = ce false ∧ L = E' e n) :
  C5 Tryz.prog σ0 243 [.sc (.func (.yield l) #[] #[]), .iptr [.imm 1 (ls.map Gh)]] (Dt ls ++ E) fun _ L => L = if (pw ls).1 = 0 then E else E' (pw ls).1 (pw ls).2 := by
 refine sG Tryz.func243 rfl Tryz.ntmps243 rfl fun B hB => ?_
 repeat' (first|refine ae ?_|refine a6 ?_|refine ar ?_|refine a8 ?_|refine aa ?_|refine ah a7 rfl rfl ?_)
 refine cJ 7 rfl rfl fun hlen => ?_
 rw [Hv] at hlen
 refine aI [0, 7, 8] (α := Nat) (fun i => [(9, aD i)]) (fun i => i ≤ ls.length ∧ pw ls = pw (ls.drop i) ∧ tu (ls.drop i)) (fun i => Dt (ls.drop i) ++ E) (fun i => ls.length - i) 0 rfl ⟨rfl, trivial⟩ ⟨Nat.zero_le _, rfl, hok⟩ (fun _ _ h => h) fun i ⟨hi, he, hok⟩ => ?_
 try dsimp only [Ht, Hs, Hr, Hn]
 repeat' (first|refine ae ?_|refine a6 ?_|refine a8 ?_|refine aa ?_|refine ah a7 rfl rfl ?_)
 refine ay rfl (fun h => ?_) (fun h => ?_)
 ·have hil : i < ls.length := by have := Hz h; simp at this; omega
  obtain ⟨x, hx⟩ : ∃ z, ls[i]? = some z := ⟨_, Eg hil⟩
  have hzg := bO (c := Gh) hx
  obtain ⟨⟨hcf, hac⟩, hok⟩ := w7 hx hok
  rw [yh hx] at he
  rw [yi hx]
  repeat' (first|refine ae ?_|refine a6 ?_|refine ar ?_|refine aq ?_|refine a8 ?_|refine aa ?_|refine ah a7 rfl rfl ?_|(apply aO; first|refine aN a7 ?_|refine aH a7 ?_)|fail)
  refine cW (cs := []) x.L (Dt (ls.drop (i + 1)) ++ E) (by simpa using hac) rfl rfl rfl (by rw [List.append_assoc]) rfl rfl fun c L1 hc => ?_
  subst hc
  refine bq (da (List.sublist_append_right ..)) ?_
  unfold bX
  repeat' (first|refine ae ?_|refine a6 ?_|refine a8 ?_|refine aa ?_|refine ah a7 rfl rfl ?_)
  by_cases h0 : x.e = 0
  ·rw [if_pos h0] at he
   rw [h0]
   repeat' (first|refine a6 ?_|refine aq ?_|refine a8 ?_|refine aR ?_|refine aa ?_|refine ah a7 rfl rfl ?_|refine aE rfl rfl rfl rfl ?_|(apply b6; refine aZ ?_)|refine bi rfl ?_)
   exact aF (i + 1) rfl ⟨by rw [Hw]; rfl, trivial⟩ ⟨by omega, he, hok h0⟩ (by omega) (fun _ _ h => h)
  ·rw [if_neg h0] at he
   rw [show decide (x.e ≠ 0) = true from decide_eq_true h0]
   repeat' (first|refine ah a7 rfl rfl ?_|refine aB rfl rfl ?_)
   refine bq (da (List.sublist_append_right ..)) ?_
   refine mS E [] hB (hy x.e x.n h0) rfl rfl rfl (bR rfl) rfl rfl fun c L1 ⟨hc, hL⟩ => ?_
   subst hc; subst hL
   rw [List.append_nil]
   repeat' (first|refine am ?_|refine a8 ?_|refine aw ?_|refine aK ?_|refine bB ?_|refine aa ?_|refine ah a7 rfl rfl ?_|refine aB rfl rfl ?_|refine bK rfl ?_)
   refine pW rfl ?_
   rw [he, if_neg h0]
 ·have hil : i = ls.length := by have := Hy h; simp at this; omega
  subst hil
  rw [List.drop_length] at he ⊢
  repeat' (first|refine aL ?_|refine av ?_|refine aA ?_|refine az ?_)
  refine cK rfl ?_
  rw [he]
  rfl
theorem tc (l : List (List AV)) : bw Tryz.prog 170 [.imm 1 l] (.fn 243 [.iptr [.imm 1 l]]) := by
 refine aG Tryz.func170 rfl Tryz.ntmps170 rfl fun B => ?_
 repeat' (first|refine ae ?_|refine a6 ?_|refine am ?_|refine a8 ?_|refine aa ?_|refine ah a7 rfl rfl ?_|refine b9 ?_|fail)
 exact au rfl rfl rfl
instance (l : List (List AV)) : AD Tryz.prog 170 [.imm 1 l] (.fn 243 [.iptr [.imm 1 l]]) := ⟨tc l⟩
theorem yS {p q : Nat × AB} {l l2 : AL} : (p :: q :: (l ++ l2)).Perm (l ++ (p :: q :: l2)) := by
 have := (List.perm_append_comm (l₁ := [p, q]) (l₂ := l)).append_right l2
 simpa using this
set_option maxHeartbeats 1000000 in
theorem gC (ls : List Lk) (hok : tu ls) : AC Tryz.prog 104 [.imm 1 (ls.map Gh)] (Dt ls) fun c _ => c = bX (pw ls) := by
 refine n5 Tryz.func104 rfl Tryz.ntmps104 rfl fun B => ?_
 repeat' (first|refine ae ?_|refine a6 ?_|refine ar ?_|refine a8 ?_|refine aa ?_|refine ah a7 rfl rfl ?_|refine aY a7 fun _=>?_|(apply bc;refine aX ?_)|fail)
 rename_i b2 b3
 refine nf (ps := [8, 9]) rfl fun σ0 l db rec hrec => ?_
 have hy : ∀ e n : Int, e ≠ 0 → AY Tryz.prog σ0 l [aD e, aD n] ([(b3, .box [aD 0] 3), (b2, .box [aD 0] 52), (db, lu)] ++ [(l, iE rec)]) fun c L => c = ce false ∧ L = [(b3, .box [aD n] 3), (b2, .box [aD e] 52), (db, lu)] ++ [(l, iE { ({ rec with state := .busy } : Loop) with state := .done, pending := some .ret })] := by
  intro e n he
  refine xA hrec rfl rfl fun B1 hB1 => ?_
  repeat' (first|refine ae ?_|refine a6 ?_|refine a8 ?_|refine aa ?_|refine ah a7 rfl rfl ?_)
  refine ng hrec.state ?_
  repeat' (first|refine ae ?_|refine a6 ?_|refine ar ?_|refine am ?_|refine a8 ?_|refine aK ?_|refine aa ?_|refine ah a7 rfl rfl ?_|(apply aQ; first|refine aj a7 0 rfl rfl rfl rfl rfl rfl rfl ?_|refine aj a7 1 rfl rfl rfl rfl rfl rfl rfl ?_|refine aj a7 2 rfl rfl rfl rfl rfl rfl rfl ?_|refine aj a7 3 rfl rfl rfl rfl rfl rfl rfl ?_|fail))
  refine sR (L := [(b3, .box [aD n] 3), (b2, .box [aD e] 52), (db, lu)]) ?_
  exact ⟨rfl, rfl⟩
 refine ⟨_, (vJ ls hok _ _ hy).perm ?_, fun c L' hL' => ?_⟩
 ·simp only [List.append_assoc, Ht, Hs]
  exact yS
 ·by_cases h0 : (pw ls).1 = 0
  ·rw [if_pos h0] at hL'
   subst hL'
   refine ⟨rec, _, Hp _, (by rw [hrec.state]; intro h; cases h), ?_⟩
   rw [hrec.pending]
   show AX _ _ _ _ _ _ _ _
   repeat' (first|refine ae ?_|refine a6 ?_|refine am ?_|refine a8 ?_|refine aR ?_|refine aa ?_|(apply aQ; first|refine aj a7 0 rfl rfl rfl rfl rfl rfl rfl ?_|refine aj a7 1 rfl rfl rfl rfl rfl rfl rfl ?_|refine aj a7 2 rfl rfl rfl rfl rfl rfl rfl ?_|refine aj a7 3 rfl rfl rfl rfl rfl rfl rfl ?_|fail))
   refine ko (cs := [aD 0, aD 0]) [db] [(b3, .box [aD 0] 3), (b2, .box [aD 0] 52)] rfl (Hp _) ?_ ?_
   ·exact ⟨⟨b2, 1, _, _, rfl, rfl, .inl ⟨c7 a7 rfl, rfl⟩⟩, ⟨b3, 0, _, _, rfl, rfl, .inl ⟨c7 a7 rfl, rfl⟩⟩, trivial⟩
   ·have : pw ls = (0, 0) := rL h0
    rw [this]
    rfl
  ·rw [if_neg h0] at hL'
   subst hL'
   refine ⟨_, _, Hp _, (by intro h; cases h), ?_⟩
   show AX _ _ _ _ _ _ _ _
   repeat' (first|refine aw ?_|refine aK ?_)
   refine ko (cs := [aD (pw ls).1, aD (pw ls).2]) [db] [(b3, .box [aD (pw ls).2] 3), (b2, .box [aD (pw ls).1] 52)] rfl (Hp _) ?_ rfl
   exact ⟨⟨b2, 1, _, _, rfl, rfl, .inl ⟨c7 a7 rfl, rfl⟩⟩, ⟨b3, 0, _, _, rfl, rfl, .inl ⟨c7 a7 rfl, rfl⟩⟩, trivial⟩
def Hb (l : List Int) (n : Nat) : List Int := ((List.range n).map Int.ofNat).filter (l.contains ·)
theorem nN (a b : List Int) : aT a ++ aT b = aT (a ++ b) := by simp [aT]
def dp (b : Bool) (e : Int) : Int := bif b then e else 0
theorem zO (b : Bool) (e : Int) : bw Tryz.prog 135 [ce b, aD e] (aD (dp b e)) := by
 refine aG Tryz.func135 rfl Tryz.ntmps135 rfl fun B => ?_
 repeat' (first|refine ae ?_|refine a6 ?_|refine a8 ?_|refine aa ?_|refine ah a7 rfl rfl ?_)
 refine ay rfl (fun h => ?_) (fun h => ?_)
 ·subst h
  repeat' (first|refine ae ?_|refine a6 ?_|refine am ?_|refine a8 ?_|refine aw ?_|refine aa ?_|refine ah a7 rfl rfl ?_)
  exact au rfl rfl rfl
 ·subst h
  repeat' (first|refine ae ?_|refine a6 ?_|refine aq ?_|refine am ?_|refine a8 ?_|refine aa ?_|refine ah a7 rfl rfl ?_)
  exact au rfl rfl rfl
instance (b : Bool) (e : Int) : AD Tryz.prog 135 [ce b, aD e] (aD (dp b e)) := ⟨zO b e⟩
def fi (z : Int) : Bool := decide (-16384 ≤ z ∧ z ≤ 16384)
theorem qk (l : List Int) : bw Tryz.prog 136 [.imm 1 (aT l)] (ce (l.all fi)) := by
 refine aG Tryz.func136 rfl Tryz.ntmps136 rfl fun B => ?_
 refine cJ 0 rfl rfl fun hlen => ?_
 rw [bg] at hlen
 repeat' (first|refine ae ?_|refine a6 ?_|refine ar ?_|refine a8 ?_|refine aa ?_|refine ah a7 rfl rfl ?_)
 refine aI [5, 6] (α := Nat) (fun i => [(7, aD i)]) (fun i => i ≤ l.length ∧ (l.take i).all fi = true) (fun _ => []) (fun i => l.length - i) 0 rfl ⟨rfl, trivial⟩ ⟨Nat.zero_le _, by simp⟩ (fun _ _ h => h) fun i hi => ?_
 try dsimp only [Ht, Hs, Hr, Hn]
 repeat' (first|refine ae ?_|refine a6 ?_|refine a8 ?_|refine aa ?_|refine ah a7 rfl rfl ?_)
 refine ay rfl (fun h => ?_) (fun h => ?_)
 ·have hil : i < l.length := by have := Hz h; rw [bg] at this; omega
  obtain ⟨z, hz⟩ : ∃ z, l[i]? = some z := ⟨_, Eg hil⟩
  have hzg := bU hz
  repeat' (first|refine ae ?_|refine a6 ?_|refine ar ?_|refine aq ?_|refine a8 ?_|refine aa ?_|refine ah a7 rfl rfl ?_|(apply aO; first|refine aN a7 ?_|refine aH a7 ?_)|fail)
  refine co [5, 6, 7] (fi z = false) rfl (fun Q' K => ?_) (fun hC => ?_) (fun hC => ?_)
  ·repeat' (first|refine aa ?_|refine ah a7 rfl rfl ?_|refine aB rfl rfl ?_|refine aE rfl rfl rfl rfl ?_|refine aU rfl rfl rfl (fun _ => ?_) (fun _ => ?_))
   all_goals exact K _ _ rfl rfl (by unfold fi; simp_all <;> omega)
  ·repeat' (first|refine ae ?_|refine a6 ?_|refine am ?_|refine a8 ?_|refine aw ?_|refine aK ?_|refine bB ?_|refine aa ?_|refine ah a7 rfl rfl ?_)
   refine au rfl rfl ?_
   rw [show l.all fi = false by
    rw [List.all_eq_false]
    exact ⟨z, Hx hz, by simp [hC]⟩]
  ·repeat' (first|refine a6 ?_|refine aq ?_|refine a8 ?_|refine aR ?_|refine aa ?_|refine ah a7 rfl rfl ?_|(apply b6; refine aZ ?_)|fail)
   refine aF (i + 1) rfl ⟨by rw [Hw]; rfl, trivial⟩ ⟨by omega, ?_⟩ (by omega) (fun _ _ h => h)
   rw [List.take_add_one, hz, List.all_append, hi.2]
   simpa using hC
 ·have hil : i = l.length := by have := Hy h; rw [bg] at this; omega
  subst hil
  rw [List.take_length] at hi
  repeat' (first|refine ae ?_|refine a6 ?_|refine am ?_|refine aL ?_|refine a8 ?_|refine av ?_|refine aA ?_|refine az ?_|refine aa ?_|refine ah a7 rfl rfl ?_)
  refine au rfl rfl ?_
  rw [hi.2]
instance (x : Int) : AD Tryz.prog 136 [.imm 1 [[aD x]]] (ce ([x].all fi)) := ⟨qk [x]⟩
instance (x y : Int) : AD Tryz.prog 136 [.imm 1 [[aD x], [aD y]]] (ce ([x, y].all fi)) := ⟨qk [x, y]⟩
instance (x y z : Int) : AD Tryz.prog 136 [.imm 1 [[aD x], [aD y], [aD z]]] (ce ([x, y, z].all fi)) := ⟨qk [x, y, z]⟩
def jv (f : aP) (n : Int) : Bool := decide (0 ≤ n ∧ n < f.Glyphs.length)
theorem rJ (f : aP) (n : Int) : bw Tryz.prog 178 [cf f, aD n] (ce (jv f n)) := by
 refine aG Tryz.func178 rfl Tryz.ntmps178 rfl fun B => ?_
 repeat' (first|refine ae ?_|refine a6 ?_|refine a8 ?_|refine aa ?_|refine ah a7 rfl rfl ?_|refine b9 ?_|fail)
 refine cT (t := 4) [] (jv f n = true) rfl (fun Q' K => ?_) ?_
 ·repeat' (first|refine aa ?_|refine ah a7 rfl rfl ?_|refine aB rfl rfl ?_|refine aE rfl rfl rfl rfl ?_|refine aU rfl rfl rfl (fun _ => ?_) (fun _ => ?_))
  all_goals exact K _ _ rfl rfl (by unfold jv; simp_all <;> omega)
 repeat' (first|refine am ?_|refine a8 ?_)
 refine au rfl rfl ?_
 simp
instance (f : aP) (n : Int) : AD Tryz.prog 178 [cf f, aD n] (ce (jv f n)) := ⟨rJ f n⟩
def nC (right taken : Bool) : Int := bif right then (bif taken then 24 else 0) else 23
theorem oO (a b : Bool) : bw Tryz.prog 110 [ce a, ce b] (aD (nC a b)) := by
 refine aG Tryz.func110 rfl Tryz.ntmps110 rfl fun B => ?_
 repeat' (first|refine ae ?_|refine a6 ?_|refine ar ?_|refine a8 ?_|refine aa ?_|refine ah a7 rfl rfl ?_)
 refine ay rfl (fun h => ?_) (fun h => ?_)
 ·repeat' (first|refine ae ?_|refine a6 ?_|refine am ?_|refine a8 ?_|refine aw ?_|refine aK ?_|refine aa ?_|refine ah a7 rfl rfl ?_)
  refine au rfl rfl ?_
  cases a with
  | true => cases h
  | false => rfl
 ·repeat' (first|refine ae ?_|refine a6 ?_|refine a8 ?_|refine aa ?_|refine ah a7 rfl rfl ?_)
  have ha : a = true := by cases a with
   | true => rfl
   | false => cases h
  subst ha
  refine ay rfl (fun h => ?_) (fun h => ?_)
  ·subst h
   repeat' (first|refine ae ?_|refine a6 ?_|refine am ?_|refine a8 ?_|refine aw ?_|refine aK ?_|refine aa ?_|refine ah a7 rfl rfl ?_)
   exact au rfl rfl rfl
  ·subst h
   repeat' (first|refine ae ?_|refine a6 ?_|refine aq ?_|refine am ?_|refine a8 ?_|refine aR ?_|refine aa ?_|refine ah a7 rfl rfl ?_)
   exact au rfl rfl rfl
instance (a b : Bool) : AD Tryz.prog 110 [ce a, ce b] (aD (nC a b)) := ⟨oO a b⟩
def me (c : Int) : Bool := decide ((65 ≤ c ∧ c ≤ 90) ∨ (97 ≤ c ∧ c ≤ 122))
abbrev U8 (c : Int) : AV := .sc (.int .u8 c)
theorem q9 (c : Int) : bw Tryz.prog 184 [U8 c] (ce (me c)) := by
 refine aG Tryz.func184 rfl Tryz.ntmps184 rfl fun B => ?_
 repeat' (first|refine ae ?_|refine a6 ?_|refine a8 ?_|refine aa ?_|refine ah a7 rfl rfl ?_)
 refine cT (t := 2) [] (me c = true) rfl (fun Q' K => ?_) ?_
 ·repeat' (first|refine aa ?_|refine ah a7 rfl rfl ?_|refine aB rfl rfl ?_|refine aE rfl rfl rfl rfl ?_|refine cr rfl rfl rfl ?_|refine aU rfl rfl rfl (fun _ => ?_) (fun _ => ?_))
  all_goals exact K _ _ rfl rfl (by unfold me; simp_all <;> omega)
 repeat' (first|refine am ?_|refine a8 ?_)
 refine au rfl rfl ?_
 simp
instance (c : Int) : AD Tryz.prog 184 [U8 c] (ce (me c)) := ⟨q9 c⟩
section
variable {P : Program} {tt : TT} {r : Option Nat} {ops : Array Oper} {Q : Exit → Act → World → Prop} {nt : Nat} {D : List Deferred} {fr : bJ} {B : Bs} {L : AL} {rest : List Oper} {d : Nat} {ty t : TypeId} {pos : String} {af : Array Edge} {x y z : Operand}
theorem uQ (ok : dG P tt) {s : ByteArray} {k : IntKind} {i : Int} {c : UInt8} {ti : TI} (ht : cX tt t = some ti) (hk : ti.k = .str) (hx : bh fr x = some (.sc (.string s))) (hy : bh fr y = some (.sc (.int k i))) (h0 : 0 ≤ i) (hu : s[i.toNat]? = some c) (hd : Nat.ble nt d = false) (h : br P r ops Q nt D rest ((d, U8 c.toNat) :: fr) B L) : br P r ops Q nt D (⟨some d, .index t x y, ty, pos, af, none⟩ :: rest) fr B L := cg (n4 (ok.str ht hk) hx hy h0 hu) hd rfl h
end
def lq (s : ByteArray) (i : Nat) : Int := match s[i]? with | some c => c.toNat | none => 0
theorem np {s : ByteArray} {i : Nat} {c : UInt8} (h : s[i]? = some c) : lq s i = c.toNat := by unfold lq; rw [h]
def r5 (n : Nat) (p : Nat → Bool) : Bool := (List.range n).all p
theorem li {n : Nat} {p : Nat → Bool} : r5 n p = true ↔ ∀ i, i < n → p i = true := by simp [r5]
theorem lY {n : Nat} {p : Nat → Bool} {i : Nat} (hi : i < n) (h : p i = false) : r5 n p = false := by
 rw [Bool.eq_false_iff]
 intro hh
 rw [li.1 hh i hi] at h
 cases h
theorem v7 {s : ByteArray} {i : Nat} (h : i < s.size) : ∃ c, s[i]? = some c := ⟨s[i], by simp [h]⟩
def fh (s : ByteArray) : Bool := decide (1 ≤ s.size ∧ s.size ≤ 8) && r5 s.size fun i => me (lq s i)
theorem oN (s : ByteArray) : bw Tryz.prog 123 [qS s] (ce (fh s)) := by
 refine aG Tryz.func123 rfl Tryz.ntmps123 rfl fun B => ?_
 repeat' (first|refine ae ?_|refine a6 ?_|refine a8 ?_|refine aa ?_|refine ah a7 rfl rfl ?_)
 refine co [0] (¬ (1 ≤ s.size ∧ s.size ≤ 8)) rfl (fun Q' K => ?_) (fun hC => ?_) (fun hC => ?_)
 ·repeat' (first|refine aa ?_|refine ah a7 rfl rfl ?_|refine aB rfl rfl ?_|refine aE rfl rfl rfl rfl ?_|refine aU rfl rfl rfl (fun _ => ?_) (fun _ => ?_))
  all_goals exact K _ _ rfl rfl (by simp_all <;> omega)
 ·repeat' (first|refine ae ?_|refine a6 ?_|refine am ?_|refine a8 ?_|refine aw ?_|refine aa ?_|refine ah a7 rfl rfl ?_)
  refine au rfl rfl ?_
  unfold fh
  rw [decide_eq_false hC]
  rfl
 have hC := Decidable.not_not.1 hC
 repeat' (first|refine ae ?_|refine a6 ?_|refine ar ?_|refine aq ?_|refine a8 ?_|refine aa ?_|refine ah a7 rfl rfl ?_)
 refine aI [0, 13] (α := Nat) (fun i => [(14, aD i)]) (fun i => i ≤ s.size ∧ ∀ j, j < i → me (lq s j) = true) (fun _ => []) (fun i => s.size - i) 0 rfl ⟨rfl, trivial⟩ ⟨Nat.zero_le _, fun j hj => absurd hj (Nat.not_lt_zero _)⟩ (fun _ _ h => h) fun i hi => ?_
 try dsimp only [Ht, Hs, Hr, Hn]
 repeat' (first|refine ae ?_|refine a6 ?_|refine a8 ?_|refine aa ?_|refine ah a7 rfl rfl ?_)
 refine ay rfl (fun h => ?_) (fun h => ?_)
 ·have hil : i < s.size := by have := Hz h; omega
  obtain ⟨c, hc⟩ := v7 hil
  have hb := np hc
  repeat' (first|refine ae ?_|refine a6 ?_|refine ar ?_|refine aq ?_|refine a8 ?_|refine aa ?_|refine ah a7 rfl rfl ?_)
  refine uQ a7 rfl rfl rfl rfl (by omega) (by rw [Int.toNat_natCast]; exact hc) rfl ?_
  repeat' (first|refine a8 ?_|refine aa ?_|refine ah a7 rfl rfl ?_|(apply bc;refine aX ?_)|fail)
  refine ay rfl (fun h2 => ?_) (fun h2 => ?_)
  ·repeat' (first|refine ae ?_|refine a6 ?_|refine am ?_|refine a8 ?_|refine aw ?_|refine aK ?_|refine bB ?_|refine aa ?_|refine ah a7 rfl rfl ?_)
   refine au rfl rfl ?_
   unfold fh
   rw [lY hil (by rw [hb]; simpa using h2), Bool.and_false]
  ·repeat' (first|refine a6 ?_|refine aq ?_|refine a8 ?_|refine aR ?_|refine aa ?_|refine ah a7 rfl rfl ?_|(apply b6; refine aZ ?_)|fail)
   refine aF (i + 1) rfl ⟨by rw [Hw]; rfl, trivial⟩ ⟨by omega, fun j hj => ?_⟩ (by omega) (fun _ _ h => h)
   by_cases e : j = i
   ·subst e; rw [hb]; simpa using h2
   ·exact hi.2 j (by omega)
 ·have hil : i = s.size := by have := Hy h; omega
  subst hil
  repeat' (first|refine ae ?_|refine a6 ?_|refine am ?_|refine aL ?_|refine a8 ?_|refine av ?_|refine aA ?_|refine az ?_|refine aa ?_|refine ah a7 rfl rfl ?_)
  refine au rfl rfl ?_
  unfold fh
  rw [decide_eq_true hC, li.2 hi.2]
  rfl
instance (s : ByteArray) : AD Tryz.prog 123 [qS s] (ce (fh s)) := ⟨oN s⟩
def qo (i : Nat) (c : Int) : Bool := decide ((me c = true ∨ c = 95 ∨ c = 46) ∨ (0 < i ∧ ((48 ≤ c ∧ c ≤ 57) ∨ c = 45)))
def ib (s : ByteArray) : Bool := decide (1 ≤ s.size ∧ s.size ≤ 16) && r5 s.size fun i => qo i (lq s i)
set_option maxHeartbeats 1000000 in
theorem tp (s : ByteArray) : bw Tryz.prog 111 [qS s] (ce (ib s)) := by
 refine aG Tryz.func111 rfl Tryz.ntmps111 rfl fun B => ?_
 repeat' (first|refine ae ?_|refine a6 ?_|refine a8 ?_|refine aa ?_|refine ah a7 rfl rfl ?_)
 refine co [0] (¬ (1 ≤ s.size ∧ s.size ≤ 16)) rfl (fun Q' K => ?_) (fun hC => ?_) (fun hC => ?_)
 ·repeat' (first|refine aa ?_|refine ah a7 rfl rfl ?_|refine aB rfl rfl ?_|refine aE rfl rfl rfl rfl ?_|refine aU rfl rfl rfl (fun _ => ?_) (fun _ => ?_))
  all_goals exact K _ _ rfl rfl (by simp_all <;> omega)
 ·repeat' (first|refine ae ?_|refine a6 ?_|refine am ?_|refine a8 ?_|refine aw ?_|refine aa ?_|refine ah a7 rfl rfl ?_)
  refine au rfl rfl ?_
  unfold ib
  rw [decide_eq_false hC]
  rfl
 have hC := Decidable.not_not.1 hC
 repeat' (first|refine ae ?_|refine a6 ?_|refine ar ?_|refine aq ?_|refine a8 ?_|refine aa ?_|refine ah a7 rfl rfl ?_)
 refine aI [0, 16] (α := Nat) (fun i => [(17, aD i)]) (fun i => i ≤ s.size ∧ ∀ j, j < i → qo j (lq s j) = true) (fun _ => []) (fun i => s.size - i) 0 rfl ⟨rfl, trivial⟩ ⟨Nat.zero_le _, fun j hj => absurd hj (Nat.not_lt_zero _)⟩ (fun _ _ h => h) fun i hi => ?_
 try dsimp only [Ht, Hs, Hr, Hn]
 repeat' (first|refine ae ?_|refine a6 ?_|refine a8 ?_|refine aa ?_|refine ah a7 rfl rfl ?_)
 refine ay rfl (fun h => ?_) (fun h => ?_)
 ·have hil : i < s.size := by have := Hz h; omega
  obtain ⟨c, hc⟩ := v7 hil
  have hb := np hc
  repeat' (first|refine ae ?_|refine a6 ?_|refine ar ?_|refine aq ?_|refine a8 ?_|refine aa ?_|refine ah a7 rfl rfl ?_)
  refine uQ a7 rfl rfl rfl rfl (by omega) (by rw [Int.toNat_natCast]; exact hc) rfl ?_
  generalize (c.toNat : Int) = z at *
  repeat' (first|refine ae ?_|refine a6 ?_|refine a8 ?_|refine aa ?_|refine ah a7 rfl rfl ?_|(apply bc;refine aX ?_)|fail)
  refine cT (t := 5) [0, 3, 4, 16, 17] (me z = true ∨ z = 95 ∨ z = 46) rfl (fun Q' K => ?_) ?_
  ·clear hi hb hc h
   repeat' (first|refine aa ?_|refine ah a7 rfl rfl ?_|refine aB rfl rfl ?_|refine aE rfl rfl rfl rfl ?_|refine aU rfl rfl rfl (fun _ => ?_) (fun _ => ?_))
   all_goals exact K _ _ rfl rfl (by simp_all)
  repeat' (first|refine ae ?_|refine a6 ?_|refine a8 ?_|refine ah a7 rfl rfl ?_)
  refine cT (t := 6) [0, 5, 16, 17] (0 < i ∧ ((48 ≤ z ∧ z ≤ 57) ∨ z = 45)) rfl (fun Q' K => ?_) ?_
  ·clear hi hb hc h
   repeat' (first|refine aa ?_|refine ah a7 rfl rfl ?_|refine aB rfl rfl ?_|refine aE rfl rfl rfl rfl ?_|refine cr rfl rfl rfl ?_|refine aU rfl rfl rfl (fun _ => ?_) (fun _ => ?_))
   all_goals exact K _ _ rfl rfl (by simp_all <;> omega)
  repeat' (first|refine ae ?_|refine a6 ?_|refine a8 ?_|refine ah a7 rfl rfl ?_)
  refine co [0, 16, 17] (qo i z = false) rfl (fun Q' K => ?_) (fun h2 => ?_) (fun h2 => ?_)
  ·clear hi hb hc h
   repeat' (first|refine aa ?_|refine ah a7 rfl rfl ?_|refine aB rfl rfl ?_|refine aE rfl rfl rfl rfl ?_|refine aU rfl rfl rfl (fun _ => ?_) (fun _ => ?_))
   all_goals exact K _ _ rfl rfl (by clear K; unfold qo; grind)
  ·repeat' (first|refine ae ?_|refine a6 ?_|refine am ?_|refine a8 ?_|refine aw ?_|refine aK ?_|refine bB ?_|refine aa ?_|refine ah a7 rfl rfl ?_)
   refine au rfl rfl ?_
   unfold ib
   rw [lY hil (by rw [hb]; exact h2), Bool.and_false]
  ·repeat' (first|refine a6 ?_|refine aq ?_|refine a8 ?_|refine aR ?_|refine aa ?_|refine ah a7 rfl rfl ?_|(apply b6; refine aZ ?_)|fail)
   refine aF (i + 1) rfl ⟨by rw [Hw]; rfl, trivial⟩ ⟨by omega, fun j hj => ?_⟩ (by omega) (fun _ _ h => h)
   by_cases e : j = i
   ·subst e; rw [hb]; simpa using h2
   ·exact hi.2 j (by omega)
 ·have hil : i = s.size := by have := Hy h; omega
  subst hil
  repeat' (first|refine ae ?_|refine a6 ?_|refine am ?_|refine aL ?_|refine a8 ?_|refine av ?_|refine aA ?_|refine az ?_|refine aa ?_|refine ah a7 rfl rfl ?_)
  refine au rfl rfl ?_
  unfold ib
  rw [decide_eq_true hC, li.2 hi.2]
  rfl
instance (s : ByteArray) : AD Tryz.prog 111 [qS s] (ce (ib s)) := ⟨tp s⟩
end Go.Proofs.YtamjlkdanllgjaaGreatDoor
namespace Go.Proofs.YtamjlkdanllgjaaGreatDoor
open Go.RowKit
attribute [local irreducible] AT br AX AO Av Kt aW cZ DA cw
def f5 {α : Type} (l : List α) (w : Nat → α → Int) (i : Nat) : Int := match l[i]? with | some x => w i x | none => 0
def cD {α : Type} (l : List α) (w : Nat → α → Int) : Int × Int := cN (f5 l w) l.length
def ck {α : Type} (most : Int) (l : List α) (w : Nat → α → Int) : Int × Int := cI most (f5 l w) l.length
theorem fL {α : Type} {l : List α} {w : Nat → α → Int} {i : Nat} {x : α} (h : l[i]? = some x) : f5 l w i = w i x := by unfold f5; rw [h]
theorem cF {α : Type} {P : Program} {g : FuncId} {caps : List AV} {l : List α} {el : α → AV} {w : Nat → α → Int} (h : ∀ (i : Nat) x, l[i]? = some x → bw P g ([aD i, el x] ++ caps) (aD (w i x))) : ∀ (i : Nat) x (L : AL), l[i]? = some x → True → AC P g ([aD i, el x] ++ caps) L fun c _ => c = aD (f5 l w i) ∧ (f5 l w i = 0 → True) := by
 intro i x L hx _
 rw [fL hx]
 exact ((h i x hx).any L).mono fun c L' ⟨h1, _⟩ => ⟨h1, fun _ => trivial⟩
theorem oD {α : Type} {P : Program} {g : FuncId} {caps : List AV} {l : List α} {el : α → AV} {w : Nat → α → Int} {L0 : AL} (h : ∀ (i : Nat) x, l[i]? = some x → AC P g ([aD i, el x] ++ caps) L0 fun c L' => c = aD (w i x) ∧ L' = L0) : ∀ (i : Nat) x (L : AL), l[i]? = some x → L = L0 → AC P g ([aD i, el x] ++ caps) L fun c L' => c = aD (f5 l w i) ∧ (f5 l w i = 0 → L' = L0) := by
 intro i x L hx hL
 subst hL
 rw [fL hx]
 exact (h i x hx).mono fun c L' ⟨h1, h2⟩ => ⟨h1, fun _ => h2⟩
theorem u2 (n : Int) : bw Tryz.prog 308 [aD n] (ce (fi n)) := by
 refine aG Tryz.func308 rfl Tryz.ntmps308 rfl fun B => ?_
 repeat' (first|refine ae ?_|refine a6 ?_|refine a8 ?_|refine aa ?_|refine ah a7 rfl rfl ?_)
 refine cT (t := 2) [] (fi n = true) rfl (fun Q' K => ?_) ?_
 ·repeat' (first|refine aa ?_|refine ah a7 rfl rfl ?_|refine aB rfl rfl ?_|refine aE rfl rfl rfl rfl ?_|refine aU rfl rfl rfl (fun _ => ?_) (fun _ => ?_))
  all_goals exact K _ _ rfl rfl (by clear K; unfold fi; grind)
 repeat' (first|refine am ?_|refine a8 ?_)
 refine au rfl rfl ?_
 simp
instance (n : Int) : AD Tryz.prog 308 [aD n] (ce (fi n)) := ⟨u2 n⟩
def iN (n : Int) : Int → List Int → Bool
 | last, [] => decide (last = n - 1)
 | last, e :: r => if e ≥ n ∨ e < last + 2 then false else iN n e r
def s3 (p : f8) : Bool := fi p.X && fi p.Y
def gK (pts : List f8) (ends : List Int) : Bool := decide (pts.length ≤ 200 ∧ ends.length ≤ 40) && (pts.all s3 && iN pts.length (-1) ends)
theorem rB {n last : Int} {l : List Int} {i : Nat} {e : Int} (h : l[i]? = some e) : iN n last (l.drop i) = if e ≥ n ∨ e < last + 2 then false else iN n e (l.drop (i + 1)) := by
 obtain ⟨hi, hx⟩ := Hq h
 rw [List.drop_eq_getElem_cons hi, hx]
 rfl
set_option maxHeartbeats 1000000 in
theorem qw (pts : List f8) (ends : List Int) : bw Tryz.prog 246 [.agg [.imm 3 (pts.map fc), .imm 1 (aT ends)]] (ce (gK pts ends)) := by
 refine aG Tryz.func246 rfl Tryz.ntmps246 rfl fun B => ?_
 repeat' (first|refine ae ?_|refine a6 ?_|refine a8 ?_|refine aa ?_|refine ah a7 rfl rfl ?_|refine b9 ?_|fail)
 refine co [1] (¬ (pts.length ≤ 200 ∧ ends.length ≤ 40)) rfl (fun Q' K => ?_) (fun hC => ?_) (fun hC => ?_)
 ·repeat' (first|refine aa ?_|refine ah a7 rfl rfl ?_|refine aB rfl rfl ?_|refine aE rfl rfl rfl rfl ?_|refine aU rfl rfl rfl (fun _ => ?_) (fun _ => ?_))
  all_goals exact K _ _ rfl rfl (by clear K; simp_all [bg] <;> omega)
 ·repeat' (first|refine ae ?_|refine a6 ?_|refine am ?_|refine a8 ?_|refine aw ?_|refine aa ?_|refine ah a7 rfl rfl ?_)
  refine au rfl rfl ?_
  unfold gK
  rw [decide_eq_false hC]
  rfl
 have hC := Decidable.not_not.1 hC
 have hlm : (pts.map fc).length = pts.length := Hv ..
 repeat' (first|refine ae ?_|refine a6 ?_|refine ar ?_|refine aq ?_|refine a8 ?_|refine aa ?_|refine ah a7 rfl rfl ?_)
 refine aI [1, 19, 20] (α := Nat) (fun i => [(21, aD i)]) (fun i => i ≤ pts.length ∧ (pts.take i).all s3 = true) (fun _ => []) (fun i => pts.length - i) 0 rfl ⟨rfl, trivial⟩ ⟨Nat.zero_le _, by simp⟩ (fun _ _ h => h) fun i hi => ?_
 try dsimp only [Ht, Hs, Hr, Hn]
 repeat' (first|refine ae ?_|refine a6 ?_|refine a8 ?_|refine aa ?_|refine ah a7 rfl rfl ?_)
 refine ay rfl (fun h => ?_) (fun h => ?_)
 ·have hil : i < pts.length := by have := Hz h; simp at this; omega
  obtain ⟨z, hz⟩ : ∃ z, pts[i]? = some z := ⟨_, Eg hil⟩
  have hzg := bO (c := fc) hz
  clear h
  repeat' (first|refine ae ?_|refine a6 ?_|refine ar ?_|refine aq ?_|refine a8 ?_|refine aa ?_|refine ah a7 rfl rfl ?_|(apply aO; first|refine aN a7 ?_|refine aH a7 ?_)|(apply aQ; first|refine ai 4 a7 0 rfl rfl rfl rfl rfl rfl rfl rfl ?_|refine ai 4 a7 1 rfl rfl rfl rfl rfl rfl rfl rfl ?_|refine ai 4 a7 2 rfl rfl rfl rfl rfl rfl rfl rfl ?_|refine aj a7 0 rfl rfl rfl rfl rfl rfl rfl ?_|refine aj a7 1 rfl rfl rfl rfl rfl rfl rfl ?_|refine aj a7 2 rfl rfl rfl rfl rfl rfl rfl ?_|refine aj a7 3 rfl rfl rfl rfl rfl rfl rfl ?_|fail)|refine aY a7 fun _=>?_|(apply bc;refine aX ?_)|fail)
  refine co [1, 19, 20, 21] (s3 z = false) rfl (fun Q' K => ?_) (fun h2 => ?_) (fun h2 => ?_)
  ·clear hi hzg
   repeat' (first|refine aa ?_|refine ah a7 rfl rfl ?_|refine aB rfl rfl ?_|refine aE rfl rfl rfl rfl ?_|(apply bc;refine aX ?_)|refine aU rfl rfl rfl (fun _ => ?_) (fun _ => ?_))
   all_goals exact K _ _ rfl rfl (by clear K; unfold s3; simp_all)
  ·repeat' (first|refine ae ?_|refine a6 ?_|refine am ?_|refine a8 ?_|refine aw ?_|refine aK ?_|refine bB ?_|refine aa ?_|refine ah a7 rfl rfl ?_)
   refine au rfl rfl ?_
   unfold gK
   rw [show pts.all s3 = false by
    rw [List.all_eq_false]
    exact ⟨z, Hx hz, by simp [h2]⟩]
   simp
  ·repeat' (first|refine a6 ?_|refine aq ?_|refine a8 ?_|refine aR ?_|refine aa ?_|refine ah a7 rfl rfl ?_|(apply b6; refine aZ ?_)|fail)
   refine aF (i + 1) rfl ⟨by rw [Hw]; rfl, trivial⟩ ⟨by omega, ?_⟩ (by omega) (fun _ _ h => h)
   rw [List.take_add_one, hz, List.all_append, hi.2]
   simpa using h2
 have hil : i = pts.length := by have := Hy h; simp at this; omega
 subst hil
 rw [List.take_length] at hi
 have hall := hi.2
 clear hi h
 have hval : gK pts ends = iN pts.length (-1) ends := by
  unfold gK
  rw [decide_eq_true hC, hall]
  rfl
 rw [hval]
 repeat' (first|refine ae ?_|refine a6 ?_|refine ar ?_|refine aL ?_|refine a8 ?_|refine av ?_|refine aA ?_|refine az ?_|refine aa ?_|refine ah a7 rfl rfl ?_)
 refine aI [1, 37, 38] (α := Nat × Int) (fun x => [(39, aD x.1), (5, aD x.2)]) (fun x => x.1 ≤ ends.length ∧ -1 ≤ x.2 ∧ x.2 ≤ 1000 ∧ iN pts.length (-1) ends = iN pts.length x.2 (ends.drop x.1)) (fun _ => []) (fun x => ends.length - x.1) (0, -1) rfl ⟨rfl, rfl, trivial⟩ ⟨Nat.zero_le _, by decide, by decide, rfl⟩ (fun _ _ h => h) ?_
 rintro ⟨i, last⟩ ⟨hi, hl0, hl1, he⟩
 dsimp only at hi hl0 hl1 he ⊢
 try dsimp only [Ht, Hs, Hr, Hn]
 repeat' (first|refine ae ?_|refine a6 ?_|refine a8 ?_|refine aa ?_|refine ah a7 rfl rfl ?_)
 refine ay rfl (fun h => ?_) (fun h => ?_)
 ·have hil : i < ends.length := by have := Hz h; simp [bg] at this; omega
  obtain ⟨z, hz⟩ : ∃ z, ends[i]? = some z := ⟨_, Eg hil⟩
  have hzg := bU hz
  rw [rB hz] at he
  clear h
  repeat' (first|refine ae ?_|refine a6 ?_|refine ar ?_|refine aq ?_|refine a8 ?_|refine aa ?_|refine ah a7 rfl rfl ?_|(apply aO; first|refine aN a7 ?_|refine aH a7 ?_)|fail)
  refine co [1, 7, 37, 38, 39] (z ≥ pts.length ∨ z < last + 2) rfl (fun Q' K => ?_) (fun h2 => ?_) (fun h2 => ?_)
  ·clear hi hzg he hval
   repeat' (first|refine aa ?_|refine ah a7 rfl rfl ?_|refine aB rfl rfl ?_|refine aE rfl rfl rfl rfl ?_|(apply b6; refine aZ ?_)|refine aU rfl rfl rfl (fun _ => ?_) (fun _ => ?_))
   all_goals exact K _ _ rfl rfl (by clear K; simp_all <;> omega)
  ·rw [if_pos h2] at he
   repeat' (first|refine ae ?_|refine a6 ?_|refine am ?_|refine a8 ?_|refine aw ?_|refine aK ?_|refine bB ?_|refine aa ?_|refine ah a7 rfl rfl ?_)
   refine au rfl rfl ?_
   rw [he]
  ·rw [if_neg h2] at he
   repeat' (first|refine a6 ?_|refine aq ?_|refine a8 ?_|refine aR ?_|refine aa ?_|refine ah a7 rfl rfl ?_|(apply b6; refine aZ ?_)|fail)
   exact aF (i + 1, z) rfl ⟨by rw [Hw]; rfl, rfl, trivial⟩ ⟨by dsimp only; omega, by dsimp only; omega, by dsimp only; omega, he⟩ (by dsimp only; omega) (fun _ _ h => h)
 ·have hil : i = ends.length := by have := Hy h; simp [bg] at this; omega
  subst hil
  rw [List.drop_length] at he
  repeat' (first|refine ae ?_|refine a6 ?_|refine am ?_|refine aL ?_|refine a8 ?_|refine av ?_|refine aA ?_|refine az ?_|refine aa ?_|refine ah a7 rfl rfl ?_|(apply b6; refine aZ ?_)|fail)
  refine au rfl rfl ?_
  rw [he]
  simp [iN]
def FU (_ : Nat) (p : f8) : Int := dp (!([p.X, p.Y].all fi)) 30
theorem tU (i : Nat) (p : f8) : bw Tryz.prog 245 [aD i, .agg (fc p)] (aD (FU i p)) := by
 refine aG Tryz.func245 rfl Tryz.ntmps245 rfl fun B => ?_
 repeat' (first|refine ae ?_|refine a6 ?_|refine am ?_|refine a8 ?_|refine aa ?_|refine ah a7 rfl rfl ?_|refine b9 ?_|refine cE a7 ?_|(apply bc;refine aX ?_)|fail)
 exact au rfl rfl rfl
def ir (g : b7) : Int := if g.Advance < 0 ∨ g.Advance > 16384 then 1 else if g.Points.length > 200 ∨ g.Ends.length > 40 then 2 else if (cD g.Points FU).1 ≠ 0 then (cD g.Points FU).1 else dp (!(gK g.Points g.Ends)) 31
theorem wE (g : b7) : bw Tryz.prog 175 [.agg (bE g)] (aD (ir g)) := by
 refine aG Tryz.func175 rfl Tryz.ntmps175 rfl fun B => ?_
 unfold ir
 repeat' (first|refine ae ?_|refine a6 ?_|refine ar ?_|refine a8 ?_|refine aa ?_|refine ah a7 rfl rfl ?_|refine b9 ?_|fail)
 refine co [1] (g.Advance < 0 ∨ g.Advance > 16384) rfl (fun Q' K => ?_) (fun hC => ?_) (fun hC => ?_)
 ·repeat' (first|refine aa ?_|refine ah a7 rfl rfl ?_|refine aB rfl rfl ?_|refine aE rfl rfl rfl rfl ?_|refine aU rfl rfl rfl (fun _ => ?_) (fun _ => ?_))
  all_goals exact K _ _ rfl rfl (by clear K; grind)
 ·rw [if_pos hC]
  repeat' (first|refine ae ?_|refine a6 ?_|refine am ?_|refine a8 ?_|refine aw ?_|refine aK ?_|refine aa ?_|refine ah a7 rfl rfl ?_)
  exact au rfl rfl rfl
 rw [if_neg hC]
 repeat' (first|refine ae ?_|refine a6 ?_|refine ah a7 rfl rfl ?_)
 refine co [1] (g.Points.length > 200 ∨ g.Ends.length > 40) rfl (fun Q' K => ?_) (fun hC => ?_) (fun hC => ?_)
 ·repeat' (first|refine aa ?_|refine ah a7 rfl rfl ?_|refine aB rfl rfl ?_|refine aE rfl rfl rfl rfl ?_|refine aU rfl rfl rfl (fun _ => ?_) (fun _ => ?_))
  all_goals exact K _ _ rfl rfl (by clear K; simp_all [bg] <;> omega)
 ·rw [if_pos hC]
  repeat' (first|refine ae ?_|refine a6 ?_|refine am ?_|refine a8 ?_|refine aw ?_|refine aK ?_|refine aa ?_|refine ah a7 rfl rfl ?_)
  exact au rfl rfl rfl
 rw [if_neg hC]
 repeat' (first|refine ae ?_|refine a6 ?_|refine aq ?_|refine a8 ?_|refine aR ?_|refine ah a7 rfl rfl ?_)
 refine aV [] [] (AK (u := .sc (.func (.func 245) #[] #[])) (g := 245) (caps := []) rfl g.Points _ (fun _ _ => True) [] trivial (cF (fun i x _ => tU i x))) rfl rfl (Hp _) rfl fun c L1 hc => ?_
 have hc : c = bX (cD g.Points FU) := hc
 subst hc
 unfold bX
 repeat' (first|refine ae ?_|refine a6 ?_|refine a8 ?_|refine aa ?_|refine ah a7 rfl rfl ?_)
 refine ay rfl (fun h => ?_) (fun h => ?_)
 ·rw [if_pos (Hz h)]
  repeat' (first|refine ae ?_|refine a6 ?_|refine am ?_|refine a8 ?_|refine aw ?_|refine aa ?_|refine ah a7 rfl rfl ?_)
  exact au rfl rfl rfl
 ·rw [if_neg (Hy h)]
  repeat' (first|refine ae ?_|refine a6 ?_|refine aq ?_|refine a8 ?_|refine ah a7 rfl rfl ?_)
  refine aX (hc := ⟨qw g.Points g.Ends⟩) ?_
  repeat' (first|refine am ?_|refine a8 ?_|refine aa ?_|refine ah a7 rfl rfl ?_|(apply bc;refine aX ?_)|fail)
  exact au rfl rfl rfl
instance (g : b7) : AD Tryz.prog 175 [.agg (bE g)] (aD (ir g)) := ⟨wE g⟩
end Go.Proofs.YtamjlkdanllgjaaGreatDoor
namespace Go.Proofs.YtamjlkdanllgjaaGreatDoor
open Go.RowKit
attribute [local irreducible] AT br AX AO Av Kt aW cZ DA cw
open Go.MapKept
def Bd (_ : Nat) (i : eo) : Int := if i.Op < 1 ∨ i.Op > 39 then 50 else if i.A < -999999999 ∨ i.A > 999999999 then 3 else 0
theorem qA (n : Nat) (i : eo) : bw Tryz.prog 213 [aD n, .agg (f3 i)] (aD (Bd n i)) := by
 refine aG Tryz.func213 rfl Tryz.ntmps213 rfl fun B => ?_
 unfold Bd
 repeat' (first|refine ae ?_|refine a6 ?_|refine ar ?_|refine a8 ?_|refine aa ?_|refine ah a7 rfl rfl ?_|refine b9 ?_|fail)
 refine co [3] (i.Op < 1 ∨ i.Op > 39) rfl (fun Q' K => ?_) (fun hC => ?_) (fun hC => ?_)
 ·repeat' (first|refine aa ?_|refine ah a7 rfl rfl ?_|refine aB rfl rfl ?_|refine aE rfl rfl rfl rfl ?_|refine aU rfl rfl rfl (fun _ => ?_) (fun _ => ?_))
  all_goals exact K _ _ rfl rfl (by clear K; grind)
 ·rw [if_pos hC]
  repeat' (first|refine ae ?_|refine a6 ?_|refine am ?_|refine a8 ?_|refine aw ?_|refine aK ?_|refine aa ?_|refine ah a7 rfl rfl ?_)
  exact au rfl rfl rfl
 rw [if_neg hC]
 repeat' (first|refine ae ?_|refine a6 ?_|refine ah a7 rfl rfl ?_)
 refine co [] (i.A < -999999999 ∨ i.A > 999999999) rfl (fun Q' K => ?_) (fun hC => ?_) (fun hC => ?_)
 ·repeat' (first|refine aa ?_|refine ah a7 rfl rfl ?_|refine aB rfl rfl ?_|refine aE rfl rfl rfl rfl ?_|refine aU rfl rfl rfl (fun _ => ?_) (fun _ => ?_))
  all_goals exact K _ _ rfl rfl (by clear K; grind)
 ·rw [if_pos hC]
  repeat' (first|refine ae ?_|refine a6 ?_|refine am ?_|refine a8 ?_|refine aw ?_|refine aK ?_|refine aa ?_|refine ah a7 rfl rfl ?_)
  exact au rfl rfl rfl
 rw [if_neg hC]
 repeat' (first|refine ae ?_|refine a6 ?_|refine aq ?_|refine am ?_|refine a8 ?_|refine aR ?_|refine aa ?_|refine ah a7 rfl rfl ?_)
 exact au rfl rfl rfl
def oa (l : List eo) : Int := (ck 200 l Bd).1
theorem s2 (l : List eo) : bw Tryz.prog 132 [.imm 2 (l.map f3)] (aD (oa l)) := by
 refine aG Tryz.func132 rfl Tryz.ntmps132 rfl fun B => ?_
 repeat' (first|refine ae ?_|refine a6 ?_|refine a8 ?_|refine aa ?_|refine ah a7 rfl rfl ?_|(apply bc;refine aX ?_)|fail)
 refine cW (f := 273) (cs := []) [] [] (BP (g := 213) (caps := []) rfl l 200 _ (fun _ _ => True) [] trivial (fun _ => cF fun i x _ => qA i x)) rfl rfl rfl (Hp _) rfl rfl fun c L1 hc => ?_
 have hc : c = bX (ck 200 l Bd) := hc
 subst hc
 unfold bX
 repeat' (first|refine ae ?_|refine a6 ?_|refine am ?_|refine a8 ?_|refine aa ?_|refine ah a7 rfl rfl ?_)
 exact au rfl rfl rfl
instance (l : List eo) : AD Tryz.prog 132 [.imm 2 (l.map f3)] (aD (oa l)) := ⟨s2 l⟩
def mo (f : aP) (_ : Nat) (p : d6) : Int := if jv f p.Glyph = false then 32 else dp (!([p.X, p.Y].all fi)) 30
theorem th (f : aP) (n : Nat) (p : d6) : bw Tryz.prog 177 [aD n, .agg (eN p), .iptr (bH f)] (aD (mo f n p)) := by
 refine aG Tryz.func177 rfl Tryz.ntmps177 rfl fun B => ?_
 unfold mo
 repeat' (first|refine ae ?_|refine a6 ?_|refine a8 ?_|refine aa ?_|refine ah a7 rfl rfl ?_|refine b9 ?_|(apply bc;refine aX ?_)|fail)
 refine ay rfl (fun h => ?_) (fun h => ?_)
 ·rw [if_pos (by simpa using h)]
  repeat' (first|refine ae ?_|refine a6 ?_|refine am ?_|refine a8 ?_|refine aw ?_|refine aa ?_|refine ah a7 rfl rfl ?_)
  exact au rfl rfl rfl
 ·rw [if_neg (by simpa using h)]
  repeat' (first|refine ae ?_|refine a6 ?_|refine aq ?_|refine am ?_|refine a8 ?_|refine aa ?_|refine ah a7 rfl rfl ?_|refine cE a7 ?_|(apply bc;refine aX ?_)|fail)
  exact au rfl rfl rfl
def lj (g : b7) (i : Nat) (a : dI) : Int := if (a.Kind < 1 ∨ a.Kind > 4) ∨ (a.Class < 0 ∨ a.Class > 15) ∨ ((a.Kind = 3 ∨ a.Kind = 4) ∧ a.Class ≠ 0) ∨ [a.X, a.Y].all fi = false ∨ (a.Kind = 2 ∧ g.Mark = false) ∨ (∃ b ∈ g.Anchors.take i, b.Kind = a.Kind ∧ b.Class = a.Class) then 35 else 0
def rA (f : aP) (g : b7) (i : Nat) (d : eC) : Int := if d.Region < 0 ∨ d.Region ≥ f.Regions.length then 61 else if (d.Point < -1 ∨ d.Point ≥ g.Points.length) ∨ [d.X, d.Y].all fi = false ∨ (d.Point = -1 ∧ d.Y ≠ 0) then 30 else if (match i with | 0 => false | j + 1 => match g.Deltas[j]? with | some b => decide (d.Region < b.Region ∨ (d.Region = b.Region ∧ d.Point ≤ b.Point)) | none => false) = true then 24 else 0
theorem sI (b : Bool) : AC Tryz.prog 180 [ce b] [] fun c L => ∃ m, c = .fn 251 [.iptr [ce b], .iptr [.sc (.map (some m))]] ∧ L = [(m, fF fun _ _ => none)] := by
 refine aG Tryz.func180 rfl Tryz.ntmps180 rfl fun B => ?_
 repeat' (first|refine ae ?_|refine a6 ?_|refine a8 ?_|refine aa ?_|refine ah a7 rfl rfl ?_|refine b9 ?_|fail)
 refine tE fun m => ?_
 repeat' (first|refine ae ?_|refine a6 ?_|refine am ?_|refine a8 ?_|refine aa ?_|refine ah a7 rfl rfl ?_|(apply aQ; first|refine ai 3 a7 0 rfl rfl rfl rfl rfl rfl rfl rfl ?_|refine ai 3 a7 1 rfl rfl rfl rfl rfl rfl rfl rfl ?_|refine ai 3 a7 2 rfl rfl rfl rfl rfl rfl rfl rfl ?_|refine aj a7 0 rfl rfl rfl rfl rfl rfl rfl ?_|refine aj a7 1 rfl rfl rfl rfl rfl rfl rfl ?_|refine aj a7 2 rfl rfl rfl rfl rfl rfl rfl ?_|refine aj a7 3 rfl rfl rfl rfl rfl rfl rfl ?_|fail)|refine aY a7 fun _=>?_|fail)
 exact au rfl rfl ⟨_, rfl, rfl⟩
theorem vI (r p : Int) : AC Tryz.prog 182 [aD r, aD p] [] fun c L => ∃ b, c = .fn 254 [.iptr [aD r], .iptr [aD p], .sc (.pointer (some ⟨b, 0, none⟩))] ∧ L = [(b, .box [aD 0, aD 0] 364)] := by
 refine aG Tryz.func182 rfl Tryz.ntmps182 rfl fun B => ?_
 repeat' (first|refine ae ?_|refine a6 ?_|refine am ?_|refine a8 ?_|refine aa ?_|refine ah a7 rfl rfl ?_|refine b9 ?_|refine aY a7 fun _=>?_|fail)
 exact au rfl rfl ⟨_, rfl, rfl⟩
theorem tf (e : Int) : bw Tryz.prog 173 [.iptr [aD e]] (bX (e, 0)) := by
 refine aG Tryz.func173 rfl Tryz.ntmps173 rfl fun B => ?_
 repeat' (first|refine ae ?_|refine a6 ?_|refine am ?_|refine a8 ?_|refine aa ?_|refine ah a7 rfl rfl ?_)
 exact aS rfl rfl rfl rfl
theorem tg (g : b7) : bw Tryz.prog 174 [.iptr (bE g)] (bX (ir g, 0)) := by
 refine aG Tryz.func174 rfl Tryz.ntmps174 rfl fun B => ?_
 repeat' (first|refine ae ?_|refine a6 ?_|refine am ?_|refine a8 ?_|refine aa ?_|refine ah a7 rfl rfl ?_|(apply bc;refine aX ?_)|fail)
 exact aS rfl rfl rfl rfl
theorem tj (g : b7) : bw Tryz.prog 183 [.iptr (bE g)] (bX (oa g.Hint, 0)) := by
 refine aG Tryz.func183 rfl Tryz.ntmps183 rfl fun B => ?_
 repeat' (first|refine ae ?_|refine a6 ?_|refine am ?_|refine a8 ?_|refine aa ?_|refine ah a7 rfl rfl ?_|(apply bc;refine aX ?_)|fail)
 exact aS rfl rfl rfl rfl
def fS (l : List (Int × Int)) : Int × Int := match l with
 | [] => (0, 0)
 | x :: r => if x.1 = 0 then fS r else x
theorem ic : ∀ l : List Lk, pw l = fS (l.map fun x => (x.e, x.n))
 | [] => rfl
 | x :: r => by simp only [pw, Hr, fS]; rw [ic r]
def nI (f : aP) (g : b7) (name : Int) : Int := (fS [(name, 0), (ir g, 0), ck 8 g.Parts (mo f), ck 16 g.Anchors (lj g), ck 400 g.Deltas (rA f g), (oa g.Hint, 0)]).1
end Go.Proofs.YtamjlkdanllgjaaGreatDoor
