/-
  The program: what the first look tells that finds something wrong.
-/
import Derived.Test.YtjjpkibjffmceaaGreatM08
import Derived.Test.YtjjpkibjffmceaaGreatM05
import Derived.Test.YtjjpkibjffmceaaGreatM07
namespace Go.Proofs.YtjjpkibjffmceaaGreat
open Go.RowKit
attribute [local irreducible] AT bV AX AO Av Kt bC eH DA dl
structure Lk where
 f : FuncId
 caps : List AV
 L : AL
 e : Int
 n : Int
def Lk.ok (x : Lk) : Prop := bF Tryz.prog x.f ∧ AC Tryz.prog x.f x.caps x.L fun c _ => c = cA (x.e, x.n)
def qT : List Lk → Int × Int
 | [] => (0, 0)
 | x :: r => if x.e = 0 then qT r else (x.e, x.n)
def DK (l : List Lk) : AL := (l.map Lk.L).flatten
def uR : List Lk → Prop
 | [] => True
 | x :: r => x.ok ∧ (x.e = 0 → uR r)
def Fw (x : Lk) : List AV := [.fn x.f x.caps]
theorem zp {l : List Lk} {i : Nat} {x : Lk} (h : l[i]? = some x) : qT (l.drop i) = if x.e = 0 then qT (l.drop (i + 1)) else (x.e, x.n) := by
 obtain ⟨hi, hx⟩ := Gn h
 rw [List.drop_eq_getElem_cons hi, hx]
 rfl
theorem xh {l : List Lk} {i : Nat} {x : Lk} (h : l[i]? = some x) (hk : uR (l.drop i)) : x.ok ∧ (x.e = 0 → uR (l.drop (i + 1))) := by
 obtain ⟨hi, hx⟩ := Gn h
 rw [List.drop_eq_getElem_cons hi, hx] at hk
 exact hk
theorem tl : ∀ {l : List Lk}, (qT l).1 = 0 → qT l = (0, 0)
 | [], _ => rfl
 | x :: r, h => by
  unfold qT at h ⊢
  split
  ·rename_i h0
   rw [if_pos h0] at h
   exact tl h
  ·rename_i h0
   rw [if_neg h0] at h
   exact absurd h h0
theorem zq {l : List Lk} {i : Nat} {x : Lk} (h : l[i]? = some x) : DK (l.drop i) = x.L ++ DK (l.drop (i + 1)) := by
 obtain ⟨hi, hx⟩ := Gn h
 unfold DK
 rw [List.drop_eq_getElem_cons hi, hx]
 rfl
theorem wW {σ0 : cD} {l : Nat} (ls : List Lk) (hok : uR ls) (E : AL) (E' : Int → Int → AL) (hy : ∀ e n, e ≠ 0 → AY Tryz.prog σ0 l [aM e, aM n] E fun c L => c = cO false ∧ L = E' e n) :
  AH Tryz.prog σ0 213 [.sc (.func (.yield l) #[] #[]), .iptr [.imm 1 (ls.map Fw)]] (DK ls ++ E) fun _ L => L = if (qT ls).1 = 0 then E else E' (qT ls).1 (qT ls).2 := by
 refine rf Tryz.func213 rfl Tryz.ntmps213 rfl fun B hB => ?_
 repeat' (first|refine ae ?_|refine a6 ?_|refine ak ?_|refine a7 ?_|refine a8 ?_|refine aa a2 rfl rfl ?_)
 refine cG 7 rfl rfl fun hlen => ?_
 rw [Gu] at hlen
 refine aJ [0, 7, 8] (α := Nat) (fun i => [(9, aM i)]) (fun i => i ≤ ls.length ∧ qT ls = qT (ls.drop i) ∧ uR (ls.drop i)) (fun i => DK (ls.drop i) ++ E) (fun i => ls.length - i) 0 rfl ⟨rfl, trivial⟩ ⟨Nat.zero_le _, rfl, hok⟩ (fun _ _ h => h) fun i ⟨hi, he, hok⟩ => ?_
 try dsimp only [Gr, Gq, Gp, Gj]
 repeat' (first|refine ae ?_|refine a6 ?_|refine a7 ?_|refine a8 ?_|refine aa a2 rfl rfl ?_)
 refine aw rfl (fun h => ?_) (fun h => ?_)
 ·have hil : i < ls.length := by have := Gz h; simp at this; omega
  obtain ⟨x, hx⟩ : ∃ z, ls[i]? = some z := ⟨_, Ee hil⟩
  have hzg := bn (c := Fw) hx
  obtain ⟨⟨hcf, hac⟩, hok⟩ := xh hx hok
  rw [zp hx] at he
  rw [zq hx]
  repeat' (first|refine ae ?_|refine a6 ?_|refine ak ?_|refine ar ?_|refine a7 ?_|refine a8 ?_|refine aa a2 rfl rfl ?_|(apply aX; first|refine aW a2 ?_|refine aP a2 ?_)|fail)
  refine dh (cs := []) x.L (DK (ls.drop (i + 1)) ++ E) (by simpa using hac) rfl rfl rfl (by rw [List.append_assoc]) rfl rfl fun c L1 hc => ?_
  subst hc
  refine aN (bY (List.sublist_append_right ..)) ?_
  unfold cA
  repeat' (first|refine ae ?_|refine a6 ?_|refine a7 ?_|refine a8 ?_|refine aa a2 rfl rfl ?_)
  by_cases h0 : x.e = 0
  ·rw [if_pos h0] at he
   rw [h0]
   repeat' (first|refine a6 ?_|refine ar ?_|refine a7 ?_|refine aH ?_|refine a8 ?_|refine aa a2 rfl rfl ?_|refine aL rfl rfl rfl rfl ?_|(apply aV; refine aU ?_)|refine bN rfl ?_)
   exact aB (i + 1) rfl ⟨by rw [Gw]; rfl, trivial⟩ ⟨by omega, he, hok h0⟩ (by omega) (fun _ _ h => h)
  ·rw [if_neg h0] at he
   rw [show decide (x.e ≠ 0) = true from decide_eq_true h0]
   repeat' (first|refine aa a2 rfl rfl ?_|refine aF rfl rfl ?_)
   refine aN (bY (List.sublist_append_right ..)) ?_
   refine ov E [] hB (hy x.e x.n h0) rfl rfl rfl (bT rfl) rfl rfl fun c L1 ⟨hc, hL⟩ => ?_
   subst hc; subst hL
   rw [List.append_nil]
   repeat' (first|refine aq ?_|refine a7 ?_|refine aE ?_|refine aS ?_|refine bJ ?_|refine a8 ?_|refine aa a2 rfl rfl ?_|refine aF rfl rfl ?_|refine bS rfl ?_)
   refine Bc rfl ?_
   rw [he, if_neg h0]
 ·have hil : i = ls.length := by have := Gy h; simp at this; omega
  subst hil
  rw [List.drop_length] at he ⊢
  repeat' (first|refine aO ?_|refine au ?_|refine ay ?_|refine av ?_)
  refine dL rfl ?_
  rw [he]
  rfl
theorem uy (l : List (List AV)) : bQ Tryz.prog 156 [.imm 1 l] (.fn 213 [.iptr [.imm 1 l]]) := by
 refine aQ Tryz.func156 rfl Tryz.ntmps156 rfl fun B => ?_
 repeat' (first|refine ae ?_|refine a6 ?_|refine aq ?_|refine a7 ?_|refine a8 ?_|refine aa a2 rfl rfl ?_|refine bg ?_|fail)
 exact aA rfl rfl rfl
instance (l : List (List AV)) : AD Tryz.prog 156 [.imm 1 l] (.fn 213 [.iptr [.imm 1 l]]) := ⟨uy l⟩
theorem A0 {p q : Nat × AB} {l l2 : AL} : (p :: q :: (l ++ l2)).Perm (l ++ (p :: q :: l2)) := by
 have := (List.perm_append_comm (l₁ := [p, q]) (l₂ := l)).append_right l2
 simpa using this
set_option maxHeartbeats 1000000 in
theorem iX (ls : List Lk) (hok : uR ls) : AC Tryz.prog 113 [.imm 1 (ls.map Fw)] (DK ls) fun c _ => c = cA (qT ls) := by
 refine oH Tryz.func113 rfl Tryz.ntmps113 rfl fun B => ?_
 repeat' (first|refine ae ?_|refine a6 ?_|refine ak ?_|refine a7 ?_|refine a8 ?_|refine aa a2 rfl rfl ?_|refine b7 a2 fun _=>?_|(apply bh;refine bc ?_)|fail)
 rename_i b2 b3
 refine jX (ps := [8, 9]) rfl fun σ0 l db rec hrec => ?_
 have hy : ∀ e n : Int, e ≠ 0 → AY Tryz.prog σ0 l [aM e, aM n] ([(b3, .box [aM 0] 3), (b2, .box [aM 0] 44), (db, i4)] ++ [(l, gB rec)]) fun c L => c = cO false ∧ L = [(b3, .box [aM n] 3), (b2, .box [aM e] 44), (db, i4)] ++ [(l, gB { ({ rec with state := .busy } : Loop) with state := .done, pending := some .ret })] := by
  intro e n he
  refine sH hrec rfl rfl fun B1 hB1 => ?_
  repeat' (first|refine ae ?_|refine a6 ?_|refine a7 ?_|refine a8 ?_|refine aa a2 rfl rfl ?_)
  refine jY hrec.state ?_
  repeat' (first|refine ae ?_|refine a6 ?_|refine ak ?_|refine aq ?_|refine a7 ?_|refine aS ?_|refine a8 ?_|refine aa a2 rfl rfl ?_|(apply aG; first|refine ai a2 0 rfl rfl rfl rfl rfl rfl rfl ?_|refine ai a2 1 rfl rfl rfl rfl rfl rfl rfl ?_|refine ai a2 2 rfl rfl rfl rfl rfl rfl rfl ?_|refine ai a2 3 rfl rfl rfl rfl rfl rfl rfl ?_|fail))
  refine uh (L := [(b3, .box [aM n] 3), (b2, .box [aM e] 44), (db, i4)]) ?_
  exact ⟨rfl, rfl⟩
 refine ⟨_, (wW ls hok _ _ hy).perm ?_, fun c L' hL' => ?_⟩
 ·simp only [List.append_assoc, Gr, Gq]
  exact A0
 ·by_cases h0 : (qT ls).1 = 0
  ·rw [if_pos h0] at hL'
   subst hL'
   refine ⟨rec, _, Gm _, (by rw [hrec.state]; intro h; cases h), ?_⟩
   rw [hrec.pending]
   show AX _ _ _ _ _ _ _ _
   repeat' (first|refine ae ?_|refine a6 ?_|refine aq ?_|refine a7 ?_|refine aH ?_|refine a8 ?_|(apply aG; first|refine ai a2 0 rfl rfl rfl rfl rfl rfl rfl ?_|refine ai a2 1 rfl rfl rfl rfl rfl rfl rfl ?_|refine ai a2 2 rfl rfl rfl rfl rfl rfl rfl ?_|refine ai a2 3 rfl rfl rfl rfl rfl rfl rfl ?_|fail))
   refine ju (cs := [aM 0, aM 0]) [db] [(b3, .box [aM 0] 3), (b2, .box [aM 0] 44)] rfl (Gm _) ?_ ?_
   ·exact ⟨⟨b2, 1, _, _, rfl, rfl, .inl ⟨dg a2 rfl, rfl⟩⟩, ⟨b3, 0, _, _, rfl, rfl, .inl ⟨dg a2 rfl, rfl⟩⟩, trivial⟩
   ·have : qT ls = (0, 0) := tl h0
    rw [this]
    rfl
  ·rw [if_neg h0] at hL'
   subst hL'
   refine ⟨_, _, Gm _, (by intro h; cases h), ?_⟩
   show AX _ _ _ _ _ _ _ _
   repeat' (first|refine aE ?_|refine aS ?_)
   refine ju (cs := [aM (qT ls).1, aM (qT ls).2]) [db] [(b3, .box [aM (qT ls).2] 3), (b2, .box [aM (qT ls).1] 44)] rfl (Gm _) ?_ rfl
   exact ⟨⟨b2, 1, _, _, rfl, rfl, .inl ⟨dg a2 rfl, rfl⟩⟩, ⟨b3, 0, _, _, rfl, rfl, .inl ⟨dg a2 rfl, rfl⟩⟩, trivial⟩
def ek (b : Bool) (e : Int) : Int := bif b then e else 0
theorem AF (b : Bool) (e : Int) : bQ Tryz.prog 144 [cO b, aM e] (aM (ek b e)) := by
 refine aQ Tryz.func144 rfl Tryz.ntmps144 rfl fun B => ?_
 repeat' (first|refine ae ?_|refine a6 ?_|refine a7 ?_|refine a8 ?_|refine aa a2 rfl rfl ?_)
 refine aw rfl (fun h => ?_) (fun h => ?_)
 ·subst h
  repeat' (first|refine ae ?_|refine a6 ?_|refine aq ?_|refine a7 ?_|refine aE ?_|refine a8 ?_|refine aa a2 rfl rfl ?_)
  exact aA rfl rfl rfl
 ·subst h
  repeat' (first|refine ae ?_|refine a6 ?_|refine ar ?_|refine aq ?_|refine a7 ?_|refine a8 ?_|refine aa a2 rfl rfl ?_)
  exact aA rfl rfl rfl
instance (b : Bool) (e : Int) : AD Tryz.prog 144 [cO b, aM e] (aM (ek b e)) := ⟨AF b e⟩
def ga (z : Int) : Bool := decide (-16384 ≤ z ∧ z ≤ 16384)
theorem rN (l : List Int) : bQ Tryz.prog 145 [.imm 1 (aT l)] (cO (l.all ga)) := by
 refine aQ Tryz.func145 rfl Tryz.ntmps145 rfl fun B => ?_
 refine cG 0 rfl rfl fun hlen => ?_
 rw [aR] at hlen
 repeat' (first|refine ae ?_|refine a6 ?_|refine ak ?_|refine a7 ?_|refine a8 ?_|refine aa a2 rfl rfl ?_)
 refine aJ [5, 6] (α := Nat) (fun i => [(7, aM i)]) (fun i => i ≤ l.length ∧ (l.take i).all ga = true) (fun _ => []) (fun i => l.length - i) 0 rfl ⟨rfl, trivial⟩ ⟨Nat.zero_le _, by simp⟩ (fun _ _ h => h) fun i hi => ?_
 try dsimp only [Gr, Gq, Gp, Gj]
 repeat' (first|refine ae ?_|refine a6 ?_|refine a7 ?_|refine a8 ?_|refine aa a2 rfl rfl ?_)
 refine aw rfl (fun h => ?_) (fun h => ?_)
 ·have hil : i < l.length := by have := Gz h; rw [aR] at this; omega
  obtain ⟨z, hz⟩ : ∃ z, l[i]? = some z := ⟨_, Ee hil⟩
  have hzg := bW hz
  repeat' (first|refine ae ?_|refine a6 ?_|refine ak ?_|refine ar ?_|refine a7 ?_|refine a8 ?_|refine aa a2 rfl rfl ?_|(apply aX; first|refine aW a2 ?_|refine aP a2 ?_)|fail)
  refine dV [5, 6, 7] (ga z = false) rfl (fun Q' K => ?_) (fun hC => ?_) (fun hC => ?_)
  ·repeat' (first|refine a8 ?_|refine aa a2 rfl rfl ?_|refine aF rfl rfl ?_|refine aL rfl rfl rfl rfl ?_|refine bf rfl rfl rfl (fun _ => ?_) (fun _ => ?_))
   all_goals exact K _ _ rfl rfl (by unfold ga; simp_all <;> omega)
  ·repeat' (first|refine ae ?_|refine a6 ?_|refine aq ?_|refine a7 ?_|refine aE ?_|refine aS ?_|refine bJ ?_|refine a8 ?_|refine aa a2 rfl rfl ?_)
   refine aA rfl rfl ?_
   rw [show l.all ga = false by
    rw [List.all_eq_false]
    exact ⟨z, Gx hz, by simp [hC]⟩]
  ·repeat' (first|refine a6 ?_|refine ar ?_|refine a7 ?_|refine aH ?_|refine a8 ?_|refine aa a2 rfl rfl ?_|(apply aV; refine aU ?_)|fail)
   refine aB (i + 1) rfl ⟨by rw [Gw]; rfl, trivial⟩ ⟨by omega, ?_⟩ (by omega) (fun _ _ h => h)
   rw [List.take_add_one, hz, List.all_append, hi.2]
   simpa using hC
 ·have hil : i = l.length := by have := Gy h; rw [aR] at this; omega
  subst hil
  rw [List.take_length] at hi
  repeat' (first|refine ae ?_|refine a6 ?_|refine aq ?_|refine aO ?_|refine a7 ?_|refine au ?_|refine ay ?_|refine av ?_|refine a8 ?_|refine aa a2 rfl rfl ?_)
  refine aA rfl rfl ?_
  rw [hi.2]
instance (x : Int) : AD Tryz.prog 145 [.imm 1 [[aM x]]] (cO ([x].all ga)) := ⟨rN [x]⟩
instance (x y : Int) : AD Tryz.prog 145 [.imm 1 [[aM x], [aM y]]] (cO ([x, y].all ga)) := ⟨rN [x, y]⟩
instance (x y z : Int) : AD Tryz.prog 145 [.imm 1 [[aM x], [aM y], [aM z]]] (cO ([x, y, z].all ga)) := ⟨rN [x, y, z]⟩
def km (f : aI) (n : Int) : Bool := decide (0 ≤ n ∧ n < f.Glyphs.length)
theorem tg (f : aI) (n : Int) : bQ Tryz.prog 164 [ct f, aM n] (cO (km f n)) := by
 refine aQ Tryz.func164 rfl Tryz.ntmps164 rfl fun B => ?_
 repeat' (first|refine ae ?_|refine a6 ?_|refine a7 ?_|refine a8 ?_|refine aa a2 rfl rfl ?_|refine bg ?_|fail)
 refine dq (t := 4) [] (km f n = true) rfl (fun Q' K => ?_) ?_
 ·repeat' (first|refine a8 ?_|refine aa a2 rfl rfl ?_|refine aF rfl rfl ?_|refine aL rfl rfl rfl rfl ?_|refine bf rfl rfl rfl (fun _ => ?_) (fun _ => ?_))
  all_goals exact K _ _ rfl rfl (by unfold km; simp_all <;> omega)
 repeat' (first|refine aq ?_|refine a7 ?_)
 refine aA rfl rfl ?_
 simp
instance (f : aI) (n : Int) : AD Tryz.prog 164 [ct f, aM n] (cO (km f n)) := ⟨tg f n⟩
def k6 (right taken : Bool) : Int := bif right then (bif taken then 24 else 0) else 23
theorem ql (a b : Bool) : bQ Tryz.prog 119 [cO a, cO b] (aM (k6 a b)) := by
 refine aQ Tryz.func119 rfl Tryz.ntmps119 rfl fun B => ?_
 repeat' (first|refine ae ?_|refine a6 ?_|refine ak ?_|refine a7 ?_|refine a8 ?_|refine aa a2 rfl rfl ?_)
 refine aw rfl (fun h => ?_) (fun h => ?_)
 ·repeat' (first|refine ae ?_|refine a6 ?_|refine aq ?_|refine a7 ?_|refine aE ?_|refine aS ?_|refine a8 ?_|refine aa a2 rfl rfl ?_)
  refine aA rfl rfl ?_
  cases a with
  | true => cases h
  | false => rfl
 ·repeat' (first|refine ae ?_|refine a6 ?_|refine a7 ?_|refine a8 ?_|refine aa a2 rfl rfl ?_)
  have ha : a = true := by cases a with
   | true => rfl
   | false => cases h
  subst ha
  refine aw rfl (fun h => ?_) (fun h => ?_)
  ·subst h
   repeat' (first|refine ae ?_|refine a6 ?_|refine aq ?_|refine a7 ?_|refine aE ?_|refine aS ?_|refine a8 ?_|refine aa a2 rfl rfl ?_)
   exact aA rfl rfl rfl
  ·subst h
   repeat' (first|refine ae ?_|refine a6 ?_|refine ar ?_|refine aq ?_|refine a7 ?_|refine aH ?_|refine a8 ?_|refine aa a2 rfl rfl ?_)
   exact aA rfl rfl rfl
instance (a b : Bool) : AD Tryz.prog 119 [cO a, cO b] (aM (k6 a b)) := ⟨ql a b⟩
def nO (c : Int) : Bool := decide ((65 ≤ c ∧ c ≤ 90) ∨ (97 ≤ c ∧ c ≤ 122))
abbrev U8 (c : Int) : AV := .sc (.int .u8 c)
theorem rG (c : Int) : bQ Tryz.prog 170 [U8 c] (cO (nO c)) := by
 refine aQ Tryz.func170 rfl Tryz.ntmps170 rfl fun B => ?_
 repeat' (first|refine ae ?_|refine a6 ?_|refine a7 ?_|refine a8 ?_|refine aa a2 rfl rfl ?_)
 refine dq (t := 2) [] (nO c = true) rfl (fun Q' K => ?_) ?_
 ·repeat' (first|refine a8 ?_|refine aa a2 rfl rfl ?_|refine aF rfl rfl ?_|refine aL rfl rfl rfl rfl ?_|refine dC rfl rfl rfl ?_|refine bf rfl rfl rfl (fun _ => ?_) (fun _ => ?_))
  all_goals exact K _ _ rfl rfl (by unfold nO; simp_all <;> omega)
 repeat' (first|refine aq ?_|refine a7 ?_)
 refine aA rfl rfl ?_
 simp
instance (c : Int) : AD Tryz.prog 170 [U8 c] (cO (nO c)) := ⟨rG c⟩
section
variable {P : Program} {tt : TT} {r : Option Nat} {ops : Array Oper} {Q : Exit → Act → World → Prop} {nt : Nat} {D : List Deferred} {fr : cg} {B : Bs} {L : AL} {rest : List Oper} {d : Nat} {ty t : TypeId} {pos : String} {af : Array Edge} {x y z : Operand}
theorem vZ (ok : fa P tt) {s : ByteArray} {k : IntKind} {i : Int} {c : UInt8} {ti : TI} (ht : dG tt t = some ti) (hk : ti.k = .str) (hx : bH fr x = some (.sc (.string s))) (hy : bH fr y = some (.sc (.int k i))) (h0 : 0 ≤ i) (hu : s[i.toNat]? = some c) (hd : Nat.ble nt d = false) (h : bV P r ops Q nt D rest ((d, U8 c.toNat) :: fr) B L) : bV P r ops Q nt D (⟨some d, .index t x y, ty, pos, af, none⟩ :: rest) fr B L := dJ (u5 (ok.str ht hk) hx hy h0 hu) hd rfl h
end
def mS (s : ByteArray) (i : Nat) : Int := match s[i]? with | some c => c.toNat | none => 0
theorem oT {s : ByteArray} {i : Nat} {c : UInt8} (h : s[i]? = some c) : mS s i = c.toNat := by unfold mS; rw [h]
def ss (n : Nat) (p : Nat → Bool) : Bool := (List.range n).all p
theorem mL {n : Nat} {p : Nat → Bool} : ss n p = true ↔ ∀ i, i < n → p i = true := by simp [ss]
theorem nI {n : Nat} {p : Nat → Bool} {i : Nat} (hi : i < n) (h : p i = false) : ss n p = false := by
 rw [Bool.eq_false_iff]
 intro hh
 rw [mL.1 hh i hi] at h
 cases h
theorem wi {s : ByteArray} {i : Nat} (h : i < s.size) : ∃ c, s[i]? = some c := ⟨s[i], by simp [h]⟩
def fi (s : ByteArray) : Bool := decide (1 ≤ s.size ∧ s.size ≤ 8) && ss s.size fun i => nO (mS s i)
theorem qk (s : ByteArray) : bQ Tryz.prog 132 [gE s] (cO (fi s)) := by
 refine aQ Tryz.func132 rfl Tryz.ntmps132 rfl fun B => ?_
 repeat' (first|refine ae ?_|refine a6 ?_|refine a7 ?_|refine a8 ?_|refine aa a2 rfl rfl ?_)
 refine dV [0] (¬ (1 ≤ s.size ∧ s.size ≤ 8)) rfl (fun Q' K => ?_) (fun hC => ?_) (fun hC => ?_)
 ·repeat' (first|refine a8 ?_|refine aa a2 rfl rfl ?_|refine aF rfl rfl ?_|refine aL rfl rfl rfl rfl ?_|refine bf rfl rfl rfl (fun _ => ?_) (fun _ => ?_))
  all_goals exact K _ _ rfl rfl (by simp_all <;> omega)
 ·repeat' (first|refine ae ?_|refine a6 ?_|refine aq ?_|refine a7 ?_|refine aE ?_|refine a8 ?_|refine aa a2 rfl rfl ?_)
  refine aA rfl rfl ?_
  unfold fi
  rw [decide_eq_false hC]
  rfl
 have hC := Decidable.not_not.1 hC
 repeat' (first|refine ae ?_|refine a6 ?_|refine ak ?_|refine ar ?_|refine a7 ?_|refine a8 ?_|refine aa a2 rfl rfl ?_)
 refine aJ [0, 13] (α := Nat) (fun i => [(14, aM i)]) (fun i => i ≤ s.size ∧ ∀ j, j < i → nO (mS s j) = true) (fun _ => []) (fun i => s.size - i) 0 rfl ⟨rfl, trivial⟩ ⟨Nat.zero_le _, fun j hj => absurd hj (Nat.not_lt_zero _)⟩ (fun _ _ h => h) fun i hi => ?_
 try dsimp only [Gr, Gq, Gp, Gj]
 repeat' (first|refine ae ?_|refine a6 ?_|refine a7 ?_|refine a8 ?_|refine aa a2 rfl rfl ?_)
 refine aw rfl (fun h => ?_) (fun h => ?_)
 ·have hil : i < s.size := by have := Gz h; omega
  obtain ⟨c, hc⟩ := wi hil
  have hb := oT hc
  repeat' (first|refine ae ?_|refine a6 ?_|refine ak ?_|refine ar ?_|refine a7 ?_|refine a8 ?_|refine aa a2 rfl rfl ?_)
  refine vZ a2 rfl rfl rfl rfl (by omega) (by rw [Int.toNat_natCast]; exact hc) rfl ?_
  repeat' (first|refine a7 ?_|refine a8 ?_|refine aa a2 rfl rfl ?_|(apply bh;refine bc ?_)|fail)
  refine aw rfl (fun h2 => ?_) (fun h2 => ?_)
  ·repeat' (first|refine ae ?_|refine a6 ?_|refine aq ?_|refine a7 ?_|refine aE ?_|refine aS ?_|refine bJ ?_|refine a8 ?_|refine aa a2 rfl rfl ?_)
   refine aA rfl rfl ?_
   unfold fi
   rw [nI hil (by rw [hb]; simpa using h2), Bool.and_false]
  ·repeat' (first|refine a6 ?_|refine ar ?_|refine a7 ?_|refine aH ?_|refine a8 ?_|refine aa a2 rfl rfl ?_|(apply aV; refine aU ?_)|fail)
   refine aB (i + 1) rfl ⟨by rw [Gw]; rfl, trivial⟩ ⟨by omega, fun j hj => ?_⟩ (by omega) (fun _ _ h => h)
   by_cases e : j = i
   ·subst e; rw [hb]; simpa using h2
   ·exact hi.2 j (by omega)
 ·have hil : i = s.size := by have := Gy h; omega
  subst hil
  repeat' (first|refine ae ?_|refine a6 ?_|refine aq ?_|refine aO ?_|refine a7 ?_|refine au ?_|refine ay ?_|refine av ?_|refine a8 ?_|refine aa a2 rfl rfl ?_)
  refine aA rfl rfl ?_
  unfold fi
  rw [decide_eq_true hC, mL.2 hi.2]
  rfl
instance (s : ByteArray) : AD Tryz.prog 132 [gE s] (cO (fi s)) := ⟨qk s⟩
def rP (i : Nat) (c : Int) : Bool := decide ((nO c = true ∨ c = 95 ∨ c = 46) ∨ (0 < i ∧ ((48 ≤ c ∧ c ≤ 57) ∨ c = 45)))
def g9 (s : ByteArray) : Bool := decide (1 ≤ s.size ∧ s.size ≤ 16) && ss s.size fun i => rP i (mS s i)
set_option maxHeartbeats 1000000 in
theorem uP (s : ByteArray) : bQ Tryz.prog 120 [gE s] (cO (g9 s)) := by
 refine aQ Tryz.func120 rfl Tryz.ntmps120 rfl fun B => ?_
 repeat' (first|refine ae ?_|refine a6 ?_|refine a7 ?_|refine a8 ?_|refine aa a2 rfl rfl ?_)
 refine dV [0] (¬ (1 ≤ s.size ∧ s.size ≤ 16)) rfl (fun Q' K => ?_) (fun hC => ?_) (fun hC => ?_)
 ·repeat' (first|refine a8 ?_|refine aa a2 rfl rfl ?_|refine aF rfl rfl ?_|refine aL rfl rfl rfl rfl ?_|refine bf rfl rfl rfl (fun _ => ?_) (fun _ => ?_))
  all_goals exact K _ _ rfl rfl (by simp_all <;> omega)
 ·repeat' (first|refine ae ?_|refine a6 ?_|refine aq ?_|refine a7 ?_|refine aE ?_|refine a8 ?_|refine aa a2 rfl rfl ?_)
  refine aA rfl rfl ?_
  unfold g9
  rw [decide_eq_false hC]
  rfl
 have hC := Decidable.not_not.1 hC
 repeat' (first|refine ae ?_|refine a6 ?_|refine ak ?_|refine ar ?_|refine a7 ?_|refine a8 ?_|refine aa a2 rfl rfl ?_)
 refine aJ [0, 16] (α := Nat) (fun i => [(17, aM i)]) (fun i => i ≤ s.size ∧ ∀ j, j < i → rP j (mS s j) = true) (fun _ => []) (fun i => s.size - i) 0 rfl ⟨rfl, trivial⟩ ⟨Nat.zero_le _, fun j hj => absurd hj (Nat.not_lt_zero _)⟩ (fun _ _ h => h) fun i hi => ?_
 try dsimp only [Gr, Gq, Gp, Gj]
 repeat' (first|refine ae ?_|refine a6 ?_|refine a7 ?_|refine a8 ?_|refine aa a2 rfl rfl ?_)
 refine aw rfl (fun h => ?_) (fun h => ?_)
 ·have hil : i < s.size := by have := Gz h; omega
  obtain ⟨c, hc⟩ := wi hil
  have hb := oT hc
  repeat' (first|refine ae ?_|refine a6 ?_|refine ak ?_|refine ar ?_|refine a7 ?_|refine a8 ?_|refine aa a2 rfl rfl ?_)
  refine vZ a2 rfl rfl rfl rfl (by omega) (by rw [Int.toNat_natCast]; exact hc) rfl ?_
  generalize (c.toNat : Int) = z at *
  repeat' (first|refine ae ?_|refine a6 ?_|refine a7 ?_|refine a8 ?_|refine aa a2 rfl rfl ?_|(apply bh;refine bc ?_)|fail)
  refine dq (t := 5) [0, 3, 4, 16, 17] (nO z = true ∨ z = 95 ∨ z = 46) rfl (fun Q' K => ?_) ?_
  ·clear hi hb hc h
   repeat' (first|refine a8 ?_|refine aa a2 rfl rfl ?_|refine aF rfl rfl ?_|refine aL rfl rfl rfl rfl ?_|refine bf rfl rfl rfl (fun _ => ?_) (fun _ => ?_))
   all_goals exact K _ _ rfl rfl (by simp_all)
  repeat' (first|refine ae ?_|refine a6 ?_|refine a7 ?_|refine aa a2 rfl rfl ?_)
  refine dq (t := 6) [0, 5, 16, 17] (0 < i ∧ ((48 ≤ z ∧ z ≤ 57) ∨ z = 45)) rfl (fun Q' K => ?_) ?_
  ·clear hi hb hc h
   repeat' (first|refine a8 ?_|refine aa a2 rfl rfl ?_|refine aF rfl rfl ?_|refine aL rfl rfl rfl rfl ?_|refine dC rfl rfl rfl ?_|refine bf rfl rfl rfl (fun _ => ?_) (fun _ => ?_))
   all_goals exact K _ _ rfl rfl (by simp_all <;> omega)
  repeat' (first|refine ae ?_|refine a6 ?_|refine a7 ?_|refine aa a2 rfl rfl ?_)
  refine dV [0, 16, 17] (rP i z = false) rfl (fun Q' K => ?_) (fun h2 => ?_) (fun h2 => ?_)
  ·clear hi hb hc h
   repeat' (first|refine a8 ?_|refine aa a2 rfl rfl ?_|refine aF rfl rfl ?_|refine aL rfl rfl rfl rfl ?_|refine bf rfl rfl rfl (fun _ => ?_) (fun _ => ?_))
   all_goals exact K _ _ rfl rfl (by clear K; unfold rP; grind)
  ·repeat' (first|refine ae ?_|refine a6 ?_|refine aq ?_|refine a7 ?_|refine aE ?_|refine aS ?_|refine bJ ?_|refine a8 ?_|refine aa a2 rfl rfl ?_)
   refine aA rfl rfl ?_
   unfold g9
   rw [nI hil (by rw [hb]; exact h2), Bool.and_false]
  ·repeat' (first|refine a6 ?_|refine ar ?_|refine a7 ?_|refine aH ?_|refine a8 ?_|refine aa a2 rfl rfl ?_|(apply aV; refine aU ?_)|fail)
   refine aB (i + 1) rfl ⟨by rw [Gw]; rfl, trivial⟩ ⟨by omega, fun j hj => ?_⟩ (by omega) (fun _ _ h => h)
   by_cases e : j = i
   ·subst e; rw [hb]; simpa using h2
   ·exact hi.2 j (by omega)
 ·have hil : i = s.size := by have := Gy h; omega
  subst hil
  repeat' (first|refine ae ?_|refine a6 ?_|refine aq ?_|refine aO ?_|refine a7 ?_|refine au ?_|refine ay ?_|refine av ?_|refine a8 ?_|refine aa a2 rfl rfl ?_)
  refine aA rfl rfl ?_
  unfold g9
  rw [decide_eq_true hC, mL.2 hi.2]
  rfl
instance (s : ByteArray) : AD Tryz.prog 120 [gE s] (cO (g9 s)) := ⟨uP s⟩
end Go.Proofs.YtjjpkibjffmceaaGreat
namespace Go.Proofs.YtjjpkibjffmceaaGreat
open Go.RowKit
attribute [local irreducible] AT bV AX AO Av Kt bC eH DA dl
def fP {α : Type} (l : List α) (w : Nat → α → Int) (i : Nat) : Int := match l[i]? with | some x => w i x | none => 0
def du {α : Type} (l : List α) (w : Nat → α → Int) : Int × Int := dE (fP l w) l.length
def cr {α : Type} (most : Int) (l : List α) (w : Nat → α → Int) : Int × Int := dv most (fP l w) l.length
theorem i8 {α : Type} {l : List α} {w : Nat → α → Int} {i : Nat} {x : α} (h : l[i]? = some x) : fP l w i = w i x := by unfold fP; rw [h]
theorem qK {α : Type} {l : List α} {w : Nat → α → Int} (h : ∀ i x, l[i]? = some x → w i x = 0) (i : Nat) : fP l w i = 0 := by
 unfold fP
 split
 ·exact h _ _ (by assumption)
 ·rfl
theorem fx {α : Type} {l : List α} {w : Nat → α → Int} (h : ∀ i x, l[i]? = some x → w i x = 0) : du l w = (0, 0) := qH fun i _ => qK h i
theorem ee {α : Type} {most : Int} {l : List α} {w : Nat → α → Int} (hm : (l.length : Int) ≤ most) (h : ∀ i x, l[i]? = some x → w i x = 0) : cr most l w = (0, 0) := xW hm fun i _ => qK h i
theorem dA {α : Type} {P : Program} {g : FuncId} {caps : List AV} {l : List α} {el : α → AV} {w : Nat → α → Int} (h : ∀ (i : Nat) x, l[i]? = some x → bQ P g ([aM i, el x] ++ caps) (aM (w i x))) : ∀ (i : Nat) x (L : AL), l[i]? = some x → True → AC P g ([aM i, el x] ++ caps) L fun c _ => c = aM (fP l w i) ∧ (fP l w i = 0 → True) := by
 intro i x L hx _
 rw [i8 hx]
 exact ((h i x hx).any L).mono fun c L' ⟨h1, _⟩ => ⟨h1, fun _ => trivial⟩
theorem qb {α : Type} {P : Program} {g : FuncId} {caps : List AV} {l : List α} {el : α → AV} {w : Nat → α → Int} {L0 : AL} (h : ∀ (i : Nat) x, l[i]? = some x → AC P g ([aM i, el x] ++ caps) L0 fun c L' => c = aM (w i x) ∧ L' = L0) : ∀ (i : Nat) x (L : AL), l[i]? = some x → L = L0 → AC P g ([aM i, el x] ++ caps) L fun c L' => c = aM (fP l w i) ∧ (fP l w i = 0 → L' = L0) := by
 intro i x L hx hL
 subst hL
 rw [i8 hx]
 exact (h i x hx).mono fun c L' ⟨h1, h2⟩ => ⟨h1, fun _ => h2⟩
theorem vu (n : Int) : bQ Tryz.prog 250 [aM n] (cO (ga n)) := by
 refine aQ Tryz.func250 rfl Tryz.ntmps250 rfl fun B => ?_
 repeat' (first|refine ae ?_|refine a6 ?_|refine a7 ?_|refine a8 ?_|refine aa a2 rfl rfl ?_)
 refine dq (t := 2) [] (ga n = true) rfl (fun Q' K => ?_) ?_
 ·repeat' (first|refine a8 ?_|refine aa a2 rfl rfl ?_|refine aF rfl rfl ?_|refine aL rfl rfl rfl rfl ?_|refine bf rfl rfl rfl (fun _ => ?_) (fun _ => ?_))
  all_goals exact K _ _ rfl rfl (by clear K; unfold ga; grind)
 repeat' (first|refine aq ?_|refine a7 ?_)
 refine aA rfl rfl ?_
 simp
instance (n : Int) : AD Tryz.prog 250 [aM n] (cO (ga n)) := ⟨vu n⟩
def fg (n : Int) : Int → List Int → Bool
 | last, [] => decide (last = n - 1)
 | last, e :: r => if e ≥ n ∨ e < last + 2 then false else fg n e r
def nV (p : eB) : Bool := ga p.X && ga p.Y
def gL (pts : List eB) (ends : List Int) : Bool := decide (pts.length ≤ 200 ∧ ends.length ≤ 40) && (pts.all nV && fg pts.length (-1) ends)
theorem sT {n last : Int} {l : List Int} {i : Nat} {e : Int} (h : l[i]? = some e) : fg n last (l.drop i) = if e ≥ n ∨ e < last + 2 then false else fg n e (l.drop (i + 1)) := by
 obtain ⟨hi, hx⟩ := Gn h
 rw [List.drop_eq_getElem_cons hi, hx]
 rfl
set_option maxHeartbeats 1000000 in
theorem rT (pts : List eB) (ends : List Int) : bQ Tryz.prog 216 [.agg [.imm 3 (pts.map cX), .imm 1 (aT ends)]] (cO (gL pts ends)) := by
 refine aQ Tryz.func216 rfl Tryz.ntmps216 rfl fun B => ?_
 repeat' (first|refine ae ?_|refine a6 ?_|refine a7 ?_|refine a8 ?_|refine aa a2 rfl rfl ?_|refine bg ?_|fail)
 refine dV [1] (¬ (pts.length ≤ 200 ∧ ends.length ≤ 40)) rfl (fun Q' K => ?_) (fun hC => ?_) (fun hC => ?_)
 ·repeat' (first|refine a8 ?_|refine aa a2 rfl rfl ?_|refine aF rfl rfl ?_|refine aL rfl rfl rfl rfl ?_|refine bf rfl rfl rfl (fun _ => ?_) (fun _ => ?_))
  all_goals exact K _ _ rfl rfl (by clear K; simp_all [aR] <;> omega)
 ·repeat' (first|refine ae ?_|refine a6 ?_|refine aq ?_|refine a7 ?_|refine aE ?_|refine a8 ?_|refine aa a2 rfl rfl ?_)
  refine aA rfl rfl ?_
  unfold gL
  rw [decide_eq_false hC]
  rfl
 have hC := Decidable.not_not.1 hC
 have hlm : (pts.map cX).length = pts.length := Gu ..
 repeat' (first|refine ae ?_|refine a6 ?_|refine ak ?_|refine ar ?_|refine a7 ?_|refine a8 ?_|refine aa a2 rfl rfl ?_)
 refine aJ [1, 19, 20] (α := Nat) (fun i => [(21, aM i)]) (fun i => i ≤ pts.length ∧ (pts.take i).all nV = true) (fun _ => []) (fun i => pts.length - i) 0 rfl ⟨rfl, trivial⟩ ⟨Nat.zero_le _, by simp⟩ (fun _ _ h => h) fun i hi => ?_
 try dsimp only [Gr, Gq, Gp, Gj]
 repeat' (first|refine ae ?_|refine a6 ?_|refine a7 ?_|refine a8 ?_|refine aa a2 rfl rfl ?_)
 refine aw rfl (fun h => ?_) (fun h => ?_)
 ·have hil : i < pts.length := by have := Gz h; simp at this; omega
  obtain ⟨z, hz⟩ : ∃ z, pts[i]? = some z := ⟨_, Ee hil⟩
  have hzg := bn (c := cX) hz
  clear h
  repeat' (first|refine ae ?_|refine a6 ?_|refine ak ?_|refine ar ?_|refine a7 ?_|refine a8 ?_|refine aa a2 rfl rfl ?_|(apply aX; first|refine aW a2 ?_|refine aP a2 ?_)|(apply aG; first|refine ah 4 a2 0 rfl rfl rfl rfl rfl rfl rfl rfl ?_|refine ah 4 a2 1 rfl rfl rfl rfl rfl rfl rfl rfl ?_|refine ah 4 a2 2 rfl rfl rfl rfl rfl rfl rfl rfl ?_|refine ai a2 0 rfl rfl rfl rfl rfl rfl rfl ?_|refine ai a2 1 rfl rfl rfl rfl rfl rfl rfl ?_|refine ai a2 2 rfl rfl rfl rfl rfl rfl rfl ?_|refine ai a2 3 rfl rfl rfl rfl rfl rfl rfl ?_|fail)|refine b7 a2 fun _=>?_|(apply bh;refine bc ?_)|fail)
  refine dV [1, 19, 20, 21] (nV z = false) rfl (fun Q' K => ?_) (fun h2 => ?_) (fun h2 => ?_)
  ·clear hi hzg
   repeat' (first|refine a8 ?_|refine aa a2 rfl rfl ?_|refine aF rfl rfl ?_|refine aL rfl rfl rfl rfl ?_|(apply bh;refine bc ?_)|refine bf rfl rfl rfl (fun _ => ?_) (fun _ => ?_))
   all_goals exact K _ _ rfl rfl (by clear K; unfold nV; simp_all)
  ·repeat' (first|refine ae ?_|refine a6 ?_|refine aq ?_|refine a7 ?_|refine aE ?_|refine aS ?_|refine bJ ?_|refine a8 ?_|refine aa a2 rfl rfl ?_)
   refine aA rfl rfl ?_
   unfold gL
   rw [show pts.all nV = false by
    rw [List.all_eq_false]
    exact ⟨z, Gx hz, by simp [h2]⟩]
   simp
  ·repeat' (first|refine a6 ?_|refine ar ?_|refine a7 ?_|refine aH ?_|refine a8 ?_|refine aa a2 rfl rfl ?_|(apply aV; refine aU ?_)|fail)
   refine aB (i + 1) rfl ⟨by rw [Gw]; rfl, trivial⟩ ⟨by omega, ?_⟩ (by omega) (fun _ _ h => h)
   rw [List.take_add_one, hz, List.all_append, hi.2]
   simpa using h2
 have hil : i = pts.length := by have := Gy h; simp at this; omega
 subst hil
 rw [List.take_length] at hi
 have hall := hi.2
 clear hi h
 have hval : gL pts ends = fg pts.length (-1) ends := by
  unfold gL
  rw [decide_eq_true hC, hall]
  rfl
 rw [hval]
 repeat' (first|refine ae ?_|refine a6 ?_|refine ak ?_|refine aO ?_|refine a7 ?_|refine au ?_|refine ay ?_|refine av ?_|refine a8 ?_|refine aa a2 rfl rfl ?_)
 refine aJ [1, 37, 38] (α := Nat × Int) (fun x => [(39, aM x.1), (5, aM x.2)]) (fun x => x.1 ≤ ends.length ∧ -1 ≤ x.2 ∧ x.2 ≤ 1000 ∧ fg pts.length (-1) ends = fg pts.length x.2 (ends.drop x.1)) (fun _ => []) (fun x => ends.length - x.1) (0, -1) rfl ⟨rfl, rfl, trivial⟩ ⟨Nat.zero_le _, by decide, by decide, rfl⟩ (fun _ _ h => h) ?_
 rintro ⟨i, last⟩ ⟨hi, hl0, hl1, he⟩
 dsimp only at hi hl0 hl1 he ⊢
 try dsimp only [Gr, Gq, Gp, Gj]
 repeat' (first|refine ae ?_|refine a6 ?_|refine a7 ?_|refine a8 ?_|refine aa a2 rfl rfl ?_)
 refine aw rfl (fun h => ?_) (fun h => ?_)
 ·have hil : i < ends.length := by have := Gz h; simp [aR] at this; omega
  obtain ⟨z, hz⟩ : ∃ z, ends[i]? = some z := ⟨_, Ee hil⟩
  have hzg := bW hz
  rw [sT hz] at he
  clear h
  repeat' (first|refine ae ?_|refine a6 ?_|refine ak ?_|refine ar ?_|refine a7 ?_|refine a8 ?_|refine aa a2 rfl rfl ?_|(apply aX; first|refine aW a2 ?_|refine aP a2 ?_)|fail)
  refine dV [1, 7, 37, 38, 39] (z ≥ pts.length ∨ z < last + 2) rfl (fun Q' K => ?_) (fun h2 => ?_) (fun h2 => ?_)
  ·clear hi hzg he hval
   repeat' (first|refine a8 ?_|refine aa a2 rfl rfl ?_|refine aF rfl rfl ?_|refine aL rfl rfl rfl rfl ?_|(apply aV; refine aU ?_)|refine bf rfl rfl rfl (fun _ => ?_) (fun _ => ?_))
   all_goals exact K _ _ rfl rfl (by clear K; simp_all <;> omega)
  ·rw [if_pos h2] at he
   repeat' (first|refine ae ?_|refine a6 ?_|refine aq ?_|refine a7 ?_|refine aE ?_|refine aS ?_|refine bJ ?_|refine a8 ?_|refine aa a2 rfl rfl ?_)
   refine aA rfl rfl ?_
   rw [he]
  ·rw [if_neg h2] at he
   repeat' (first|refine a6 ?_|refine ar ?_|refine a7 ?_|refine aH ?_|refine a8 ?_|refine aa a2 rfl rfl ?_|(apply aV; refine aU ?_)|fail)
   exact aB (i + 1, z) rfl ⟨by rw [Gw]; rfl, rfl, trivial⟩ ⟨by dsimp only; omega, by dsimp only; omega, by dsimp only; omega, he⟩ (by dsimp only; omega) (fun _ _ h => h)
 ·have hil : i = ends.length := by have := Gy h; simp [aR] at this; omega
  subst hil
  rw [List.drop_length] at he
  repeat' (first|refine ae ?_|refine a6 ?_|refine aq ?_|refine aO ?_|refine a7 ?_|refine au ?_|refine ay ?_|refine av ?_|refine a8 ?_|refine aa a2 rfl rfl ?_|(apply aV; refine aU ?_)|fail)
  refine aA rfl rfl ?_
  rw [he]
  simp [fg]
def F1 (_ : Nat) (p : eB) : Int := ek (!([p.X, p.Y].all ga)) 30
theorem vk (i : Nat) (p : eB) : bQ Tryz.prog 215 [aM i, .agg (cX p)] (aM (F1 i p)) := by
 refine aQ Tryz.func215 rfl Tryz.ntmps215 rfl fun B => ?_
 repeat' (first|refine ae ?_|refine a6 ?_|refine aq ?_|refine a7 ?_|refine a8 ?_|refine aa a2 rfl rfl ?_|refine bg ?_|refine bG a2 ?_|(apply bh;refine bc ?_)|fail)
 exact aA rfl rfl rfl
def iD (g : bo) : Int := if g.Advance < 0 ∨ g.Advance > 16384 then 1 else if g.Points.length > 200 ∨ g.Ends.length > 40 then 2 else if (du g.Points F1).1 ≠ 0 then (du g.Points F1).1 else ek (!(gL g.Points g.Ends)) 31
theorem xU (g : bo) : bQ Tryz.prog 161 [.agg (bA g)] (aM (iD g)) := by
 refine aQ Tryz.func161 rfl Tryz.ntmps161 rfl fun B => ?_
 unfold iD
 repeat' (first|refine ae ?_|refine a6 ?_|refine ak ?_|refine a7 ?_|refine a8 ?_|refine aa a2 rfl rfl ?_|refine bg ?_|fail)
 refine dV [1] (g.Advance < 0 ∨ g.Advance > 16384) rfl (fun Q' K => ?_) (fun hC => ?_) (fun hC => ?_)
 ·repeat' (first|refine a8 ?_|refine aa a2 rfl rfl ?_|refine aF rfl rfl ?_|refine aL rfl rfl rfl rfl ?_|refine bf rfl rfl rfl (fun _ => ?_) (fun _ => ?_))
  all_goals exact K _ _ rfl rfl (by clear K; grind)
 ·rw [if_pos hC]
  repeat' (first|refine ae ?_|refine a6 ?_|refine aq ?_|refine a7 ?_|refine aE ?_|refine aS ?_|refine a8 ?_|refine aa a2 rfl rfl ?_)
  exact aA rfl rfl rfl
 rw [if_neg hC]
 repeat' (first|refine ae ?_|refine a6 ?_|refine aa a2 rfl rfl ?_)
 refine dV [1] (g.Points.length > 200 ∨ g.Ends.length > 40) rfl (fun Q' K => ?_) (fun hC => ?_) (fun hC => ?_)
 ·repeat' (first|refine a8 ?_|refine aa a2 rfl rfl ?_|refine aF rfl rfl ?_|refine aL rfl rfl rfl rfl ?_|refine bf rfl rfl rfl (fun _ => ?_) (fun _ => ?_))
  all_goals exact K _ _ rfl rfl (by clear K; simp_all [aR] <;> omega)
 ·rw [if_pos hC]
  repeat' (first|refine ae ?_|refine a6 ?_|refine aq ?_|refine a7 ?_|refine aE ?_|refine aS ?_|refine a8 ?_|refine aa a2 rfl rfl ?_)
  exact aA rfl rfl rfl
 rw [if_neg hC]
 repeat' (first|refine ae ?_|refine a6 ?_|refine ar ?_|refine a7 ?_|refine aH ?_|refine aa a2 rfl rfl ?_)
 refine bb [] [] (BC (u := .sc (.func (.func 215) #[] #[])) (g := 215) (caps := []) rfl g.Points _ (fun _ _ => True) [] trivial (dA (fun i x _ => vk i x))) rfl rfl (Gm _) rfl fun c L1 hc => ?_
 have hc : c = cA (du g.Points F1) := hc
 subst hc
 unfold cA
 repeat' (first|refine ae ?_|refine a6 ?_|refine a7 ?_|refine a8 ?_|refine aa a2 rfl rfl ?_)
 refine aw rfl (fun h => ?_) (fun h => ?_)
 ·rw [if_pos (Gz h)]
  repeat' (first|refine ae ?_|refine a6 ?_|refine aq ?_|refine a7 ?_|refine aE ?_|refine a8 ?_|refine aa a2 rfl rfl ?_)
  exact aA rfl rfl rfl
 ·rw [if_neg (Gy h)]
  repeat' (first|refine ae ?_|refine a6 ?_|refine ar ?_|refine a7 ?_|refine aa a2 rfl rfl ?_)
  refine bc (hc := ⟨rT g.Points g.Ends⟩) ?_
  repeat' (first|refine aq ?_|refine a7 ?_|refine a8 ?_|refine aa a2 rfl rfl ?_|(apply bh;refine bc ?_)|fail)
  exact aA rfl rfl rfl
instance (g : bo) : AD Tryz.prog 161 [.agg (bA g)] (aM (iD g)) := ⟨xU g⟩
end Go.Proofs.YtjjpkibjffmceaaGreat
namespace Go.Proofs.YtjjpkibjffmceaaGreat
open Go.RowKit
attribute [local irreducible] AT bV AX AO Av Kt bC eH DA dl
open Go.MapKept
def zk (_ : Nat) (i : ew) : Int := if i.Op < 1 ∨ i.Op > 39 then 50 else if i.A < -999999999 ∨ i.A > 999999999 then 3 else 0
theorem rX (n : Nat) (i : ew) : bQ Tryz.prog 199 [aM n, .agg (dS i)] (aM (zk n i)) := by
 refine aQ Tryz.func199 rfl Tryz.ntmps199 rfl fun B => ?_
 unfold zk
 repeat' (first|refine ae ?_|refine a6 ?_|refine ak ?_|refine a7 ?_|refine a8 ?_|refine aa a2 rfl rfl ?_|refine bg ?_|fail)
 refine dV [3] (i.Op < 1 ∨ i.Op > 39) rfl (fun Q' K => ?_) (fun hC => ?_) (fun hC => ?_)
 ·repeat' (first|refine a8 ?_|refine aa a2 rfl rfl ?_|refine aF rfl rfl ?_|refine aL rfl rfl rfl rfl ?_|refine bf rfl rfl rfl (fun _ => ?_) (fun _ => ?_))
  all_goals exact K _ _ rfl rfl (by clear K; grind)
 ·rw [if_pos hC]
  repeat' (first|refine ae ?_|refine a6 ?_|refine aq ?_|refine a7 ?_|refine aE ?_|refine aS ?_|refine a8 ?_|refine aa a2 rfl rfl ?_)
  exact aA rfl rfl rfl
 rw [if_neg hC]
 repeat' (first|refine ae ?_|refine a6 ?_|refine aa a2 rfl rfl ?_)
 refine dV [] (i.A < -999999999 ∨ i.A > 999999999) rfl (fun Q' K => ?_) (fun hC => ?_) (fun hC => ?_)
 ·repeat' (first|refine a8 ?_|refine aa a2 rfl rfl ?_|refine aF rfl rfl ?_|refine aL rfl rfl rfl rfl ?_|refine bf rfl rfl rfl (fun _ => ?_) (fun _ => ?_))
  all_goals exact K _ _ rfl rfl (by clear K; grind)
 ·rw [if_pos hC]
  repeat' (first|refine ae ?_|refine a6 ?_|refine aq ?_|refine a7 ?_|refine aE ?_|refine aS ?_|refine a8 ?_|refine aa a2 rfl rfl ?_)
  exact aA rfl rfl rfl
 rw [if_neg hC]
 repeat' (first|refine ae ?_|refine a6 ?_|refine ar ?_|refine aq ?_|refine a7 ?_|refine aH ?_|refine a8 ?_|refine aa a2 rfl rfl ?_)
 exact aA rfl rfl rfl
def mo (l : List ew) : Int := (cr 200 l zk).1
theorem tJ (l : List ew) : bQ Tryz.prog 141 [.imm 2 (l.map dS)] (aM (mo l)) := by
 refine aQ Tryz.func141 rfl Tryz.ntmps141 rfl fun B => ?_
 repeat' (first|refine ae ?_|refine a6 ?_|refine a7 ?_|refine a8 ?_|refine aa a2 rfl rfl ?_|(apply bh;refine bc ?_)|fail)
 refine dh (f := 242) (cs := []) [] [] (Ct (g := 199) (caps := []) rfl l 200 _ (fun _ _ => True) [] trivial (fun _ => dA fun i x _ => rX i x)) rfl rfl rfl (Gm _) rfl rfl fun c L1 hc => ?_
 have hc : c = cA (cr 200 l zk) := hc
 subst hc
 unfold cA
 repeat' (first|refine ae ?_|refine a6 ?_|refine aq ?_|refine a7 ?_|refine a8 ?_|refine aa a2 rfl rfl ?_)
 exact aA rfl rfl rfl
instance (l : List ew) : AD Tryz.prog 141 [.imm 2 (l.map dS)] (aM (mo l)) := ⟨tJ l⟩
def kW (f : aI) (_ : Nat) (p : cR) : Int := if km f p.Glyph = false then 32 else ek (!([p.X, p.Y].all ga)) 30
theorem uG (f : aI) (n : Nat) (p : cR) : bQ Tryz.prog 163 [aM n, .agg (cN p), .iptr (ce f)] (aM (kW f n p)) := by
 refine aQ Tryz.func163 rfl Tryz.ntmps163 rfl fun B => ?_
 unfold kW
 repeat' (first|refine ae ?_|refine a6 ?_|refine a7 ?_|refine a8 ?_|refine aa a2 rfl rfl ?_|refine bg ?_|(apply bh;refine bc ?_)|fail)
 refine aw rfl (fun h => ?_) (fun h => ?_)
 ·rw [if_pos (by simpa using h)]
  repeat' (first|refine ae ?_|refine a6 ?_|refine aq ?_|refine a7 ?_|refine aE ?_|refine a8 ?_|refine aa a2 rfl rfl ?_)
  exact aA rfl rfl rfl
 ·rw [if_neg (by simpa using h)]
  repeat' (first|refine ae ?_|refine a6 ?_|refine ar ?_|refine aq ?_|refine a7 ?_|refine a8 ?_|refine aa a2 rfl rfl ?_|refine bG a2 ?_|(apply bh;refine bc ?_)|fail)
  exact aA rfl rfl rfl
def l9 (g : bo) (i : Nat) (a : dH) : Int := if (a.Kind < 1 ∨ a.Kind > 4) ∨ (a.Class < 0 ∨ a.Class > 15) ∨ ((a.Kind = 3 ∨ a.Kind = 4) ∧ a.Class ≠ 0) ∨ [a.X, a.Y].all ga = false ∨ (a.Kind = 2 ∧ g.Mark = false) ∨ (∃ b ∈ g.Anchors.take i, b.Kind = a.Kind ∧ b.Class = a.Class) then 35 else 0
def qj (f : aI) (g : bo) (i : Nat) (d : dN) : Int := if d.Region < 0 ∨ d.Region ≥ f.Regions.length then 61 else if (d.Point < -1 ∨ d.Point ≥ g.Points.length) ∨ [d.X, d.Y].all ga = false ∨ (d.Point = -1 ∧ d.Y ≠ 0) then 30 else if (match i with | 0 => false | j + 1 => match g.Deltas[j]? with | some b => decide (d.Region < b.Region ∨ (d.Region = b.Region ∧ d.Point ≤ b.Point)) | none => false) = true then 24 else 0
theorem u9 (b : Bool) : AC Tryz.prog 166 [cO b] [] fun c L => ∃ m, c = .fn 221 [.iptr [cO b], .iptr [.sc (.map (some m))]] ∧ L = [(m, gZ fun _ _ => none)] := by
 refine aQ Tryz.func166 rfl Tryz.ntmps166 rfl fun B => ?_
 repeat' (first|refine ae ?_|refine a6 ?_|refine a7 ?_|refine a8 ?_|refine aa a2 rfl rfl ?_|refine bg ?_|fail)
 refine uY fun m => ?_
 repeat' (first|refine ae ?_|refine a6 ?_|refine aq ?_|refine a7 ?_|refine a8 ?_|refine aa a2 rfl rfl ?_|(apply aG; first|refine ah 3 a2 0 rfl rfl rfl rfl rfl rfl rfl rfl ?_|refine ah 3 a2 1 rfl rfl rfl rfl rfl rfl rfl rfl ?_|refine ah 3 a2 2 rfl rfl rfl rfl rfl rfl rfl rfl ?_|refine ai a2 0 rfl rfl rfl rfl rfl rfl rfl ?_|refine ai a2 1 rfl rfl rfl rfl rfl rfl rfl ?_|refine ai a2 2 rfl rfl rfl rfl rfl rfl rfl ?_|refine ai a2 3 rfl rfl rfl rfl rfl rfl rfl ?_|fail)|refine b7 a2 fun _=>?_|fail)
 exact aA rfl rfl ⟨_, rfl, rfl⟩
theorem wT (r p : Int) : AC Tryz.prog 168 [aM r, aM p] [] fun c L => ∃ b, c = .fn 224 [.iptr [aM r], .iptr [aM p], .sc (.pointer (some ⟨b, 0, none⟩))] ∧ L = [(b, .box [aM 0, aM 0] 321)] := by
 refine aQ Tryz.func168 rfl Tryz.ntmps168 rfl fun B => ?_
 repeat' (first|refine ae ?_|refine a6 ?_|refine aq ?_|refine a7 ?_|refine a8 ?_|refine aa a2 rfl rfl ?_|refine bg ?_|refine b7 a2 fun _=>?_|fail)
 exact aA rfl rfl ⟨_, rfl, rfl⟩
theorem uE (e : Int) : bQ Tryz.prog 159 [.iptr [aM e]] (cA (e, 0)) := by
 refine aQ Tryz.func159 rfl Tryz.ntmps159 rfl fun B => ?_
 repeat' (first|refine ae ?_|refine a6 ?_|refine aq ?_|refine a7 ?_|refine a8 ?_|refine aa a2 rfl rfl ?_)
 exact b9 rfl rfl rfl rfl
theorem uF (g : bo) : bQ Tryz.prog 160 [.iptr (bA g)] (cA (iD g, 0)) := by
 refine aQ Tryz.func160 rfl Tryz.ntmps160 rfl fun B => ?_
 repeat' (first|refine ae ?_|refine a6 ?_|refine aq ?_|refine a7 ?_|refine a8 ?_|refine aa a2 rfl rfl ?_|(apply bh;refine bc ?_)|fail)
 exact b9 rfl rfl rfl rfl
theorem uH (g : bo) : bQ Tryz.prog 169 [.iptr (bA g)] (cA (mo g.Hint, 0)) := by
 refine aQ Tryz.func169 rfl Tryz.ntmps169 rfl fun B => ?_
 repeat' (first|refine ae ?_|refine a6 ?_|refine aq ?_|refine a7 ?_|refine a8 ?_|refine aa a2 rfl rfl ?_|(apply bh;refine bc ?_)|fail)
 exact b9 rfl rfl rfl rfl
def gt (l : List (Int × Int)) : Int × Int := match l with
 | [] => (0, 0)
 | x :: r => if x.1 = 0 then gt r else x
theorem jH : ∀ l : List Lk, qT l = gt (l.map fun x => (x.e, x.n))
 | [] => rfl
 | x :: r => by simp only [qT, Gp, gt]; rw [jH r]
theorem pd : ∀ {l : List (Int × Int)}, (∀ x ∈ l, x.1 = 0) → gt l = (0, 0)
 | [], _ => rfl
 | x :: r, h => by unfold gt; rw [if_pos (h x (List.mem_cons_self ..))]; exact pd fun y hy => h y (Gt _ hy)
def n5 (f : aI) (g : bo) (name : Int) : Int := (gt [(name, 0), (iD g, 0), cr 8 g.Parts (kW f), cr 16 g.Anchors (l9 g), cr 400 g.Deltas (qj f g), (mo g.Hint, 0)]).1
end Go.Proofs.YtjjpkibjffmceaaGreat
