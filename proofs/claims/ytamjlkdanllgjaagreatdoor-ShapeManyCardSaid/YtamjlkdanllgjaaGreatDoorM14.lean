/-
  The program: features; the first thing of a name.
-/
import Derived.Test.YtamjlkdanllgjaaGreatDoorM10
import Derived.Test.YtamjlkdanllgjaaGreatDoorM07
namespace Go.Proofs.YtamjlkdanllgjaaGreatDoor
open Go.RowKit
attribute [local irreducible] AT br AX AO Av Kt aW cZ DA cw
open Go.MapKept
section
variable {P : Program} {r : Option Nat} {ops : Array Oper} {Q : Exit → Act → World → Prop} {nt : Nat} {D : List Deferred} {fr : bJ} {B : Bs} {L : AL} {rest : List Oper} {d : Nat} {ty t : TypeId} {pos : String} {af : Array Edge} {x y z : Operand} {u : AV} {cd : Code}
theorem gF {f : FuncId} {args : Array Operand} {ts : Array TypeId} {cs caps : List AV} {v : AV} [bv P f] (hc : bw P f (cs ++ caps) v) (hx : bh fr x = some u) (hu : iC u = some (f, caps)) (hv : dZ fr args.toList = some cs) (hn : Oper.noDefer ⟨some d, .call ⟨.value x, args, ts⟩, ty, pos, af, none⟩ = true) (hd : Nat.ble nt d = false) (h : br P r ops Q nt D rest ((d, v) :: fr) B L) :
  br P r ops Q nt D (⟨some d, .call ⟨.value x, args, ts⟩, ty, pos, af, none⟩ :: rest) fr B L :=
 cW [] L hc hx hu hv (Hp _) hn hd fun c L1 hc => by
  have hc' : c = v := hc
  subst hc'
  exact bq (da (List.sublist_append_right ..)) h
theorem Ad (t : Nat) {u : AV} {s : Nat} {l : List (List AV)} (hl : bQ fr t = some u) (hu : iD u = some (s, l)) (h : l.length ≤ 9223372036854775807 → br P r ops Q nt D rest fr B L) : br P r ops Q nt D rest fr B L :=
 Ac (fun σ a w ha _ => (y8 (ha.look t u hl) hu).1) h
end
def uJ (t : bI) (i : Nat) (l : Int) : Bool := match i with | 0 => false | j + 1 => match t.Lookups[j]? with | some b => decide (l ≤ b) | none => false
def mP (f : aP) (t : bI) (i : Nat) (l : Int) : Int := dp (decide (l < 0 ∨ l ≥ f.Lookups.length) || uJ t i l) 43
set_option maxHeartbeats 1000000 in
theorem vK (f : aP) (t : bI) (i : Nat) (l : Int) (hl : t.Lookups[i]? = some l) (hn : t.Lookups.length ≤ 9223372036854775807) : bw Tryz.prog 203 [aD i, aD l, .iptr (bH f), .iptr (bC t)] (aD (mP f t i l)) := by
 refine aG Tryz.func203 rfl Tryz.ntmps203 rfl fun B => ?_
 have hil := (Hq hl).1
 unfold mP
 cases i with
 | zero =>
  repeat' (first|refine ae ?_|refine a6 ?_|refine a8 ?_|refine aa ?_|refine ah a7 rfl rfl ?_)
  refine cT (t := 7) [] (l < 0 ∨ l ≥ f.Lookups.length) rfl (fun Q' K => ?_) ?_
  ·repeat' (first|refine aa ?_|refine ah a7 rfl rfl ?_|refine aB rfl rfl ?_|refine aE rfl rfl rfl rfl ?_|refine cr rfl rfl rfl ?_|refine aU rfl rfl rfl (fun _ => ?_) (fun _ => ?_))
   all_goals exact K _ _ rfl rfl (by clear K; simp_all <;> omega)
  repeat' (first|refine ae ?_|refine a6 ?_|refine am ?_|refine a8 ?_|refine aa ?_|refine ah a7 rfl rfl ?_|(apply bc;refine aX ?_)|fail)
  refine au rfl rfl ?_
  simp [uJ]
 | succ j =>
  obtain ⟨b, hb⟩ : ∃ b, t.Lookups[j]? = some b := ⟨_, Eg (by omega)⟩
  have hbg : (aT t.Lookups)[(((j + 1 : Nat) : Int) - 1).toNat]? = some [aD b] := by rw [show (((j + 1 : Nat) : Int) - 1).toNat = j by omega]; exact bU hb
  have hlt : uJ t (j + 1) l = decide (l ≤ b) := by simp [uJ, hb]
  have hpos : decide (0 < ((j + 1 : Nat) : Int)) = true := decide_eq_true (by omega)
  rw [hlt]
  repeat' (first|refine ae ?_|refine a6 ?_|refine a8 ?_|refine aa ?_|refine ah a7 rfl rfl ?_)
  refine cT (t := 7) [] ((l < 0 ∨ l ≥ f.Lookups.length) ∨ l ≤ b) rfl (fun Q' K => ?_) ?_
  ·repeat' (first|refine aa ?_|refine ah a7 rfl rfl ?_|refine aB rfl rfl ?_|refine aE rfl rfl rfl rfl ?_|refine cr rfl rfl rfl ?_|(apply b6; refine aZ ?_)|(apply aO; first|refine aN a7 ?_|refine aH a7 ?_)|refine aU rfl rfl rfl (fun _ => ?_) (fun _ => ?_))
   all_goals exact K _ _ rfl rfl (by clear K; simp_all <;> omega)
  repeat' (first|refine ae ?_|refine a6 ?_|refine am ?_|refine a8 ?_|refine aa ?_|refine ah a7 rfl rfl ?_|(apply bc;refine aX ?_)|fail)
  refine au rfl rfl ?_
  rw [Bool.decide_or]
def uy (f : aP) (t : bI) (name : Int) : Int := if name ≠ 0 then name else (cD t.Lookups (mP f t)).1
theorem rC (f : aP) (t : bI) (name : Int) : bw Tryz.prog 122 [cf f, .agg (bC t), aD name] (aD (uy f t name)) := by
 refine aG Tryz.func122 rfl Tryz.ntmps122 rfl fun B => ?_
 unfold uy
 repeat' (first|refine ae ?_|refine a6 ?_|refine a8 ?_|refine aa ?_|refine ah a7 rfl rfl ?_|refine b9 ?_|fail)
 refine ay rfl (fun h => ?_) (fun h => ?_)
 ·rw [if_pos (Hz h)]
  repeat' (first|refine ae ?_|refine a6 ?_|refine am ?_|refine a8 ?_|refine aw ?_|refine aa ?_|refine ah a7 rfl rfl ?_)
  exact au rfl rfl rfl
 rw [if_neg (Hy h)]
 repeat' (first|refine ae ?_|refine a6 ?_|refine aq ?_|refine a8 ?_|refine ah a7 rfl rfl ?_)
 refine Ad 14 rfl rfl fun hlen => ?_
 rw [bg] at hlen
 refine aV [] [] (ky (u := .fn 203 [.iptr (bH f), .iptr (bC t)]) (g := 203) rfl t.Lookups _ (fun _ _ => True) [] trivial (cF (fun i x hx => vK f t i x hx (by omega)))) rfl rfl (Hp _) rfl fun c L1 hc => ?_
 have hc : c = bX (cD t.Lookups (mP f t)) := hc
 subst hc
 unfold bX
 repeat' (first|refine ae ?_|refine a6 ?_|refine am ?_|refine a8 ?_|refine aa ?_|refine ah a7 rfl rfl ?_)
 exact au rfl rfl rfl
instance (f : aP) (t : bI) (name : Int) : AD Tryz.prog 122 [cf f, .agg (bC t), aD name] (aD (uy f t name)) := ⟨rC f t name⟩
def cM (names : List ByteArray) (s : ByteArray) : Option Nat := names.findIdx? (fun x => decide (x = s))
def cj (names : List ByteArray) (v : Value) : Option AV := match v with
 | .string s => (cM names s).map fun (n : Nat) => aD (n : Int)
 | _ => none
theorem i6 {names : List ByteArray} {i : Nat} {s : ByteArray} (h : names[i]? = some s) (q : ByteArray) : cM (names.take (i + 1)) q = match cM (names.take i) q with | some n => some n | none => if s = q then some i else none := by
 unfold cM
 have hlt := (Hq h).1
 have hlen : (names.take i).length = i := by rw [List.length_take]; omega
 rw [List.take_add_one, h, Option.toList_some, List.findIdx?_append, hlen]
 cases List.findIdx? (fun x => decide (x = q)) (names.take i) with
 | some n => rfl
 | none =>
  by_cases e : s = q
  ·simp [e]
  ·simp [e]
theorem jT : cj [] = fun _ => none := by
 funext v
 cases v <;> rfl
theorem iQ {names : List ByteArray} {s : ByteArray} : (cj names (.string s)).isSome = (cM names s).isSome := by
 show (Option.map (fun n : Nat => aD (n : Int)) (cM names s)).isSome = _
 cases cM names s <;> rfl
theorem i7 {names : List ByteArray} {i : Nat} {s : ByteArray} (h : names[i]? = some s) (hk : (cM (names.take i) s).isSome = true) : cj (names.take (i + 1)) = cj (names.take i) := by
 funext v
 cases v with
 | string q =>
  simp only [cj]
  rw [i6 h]
  cases hq : cM (names.take i) q with
  | some n => rfl
  | none =>
   by_cases e : s = q
   ·subst e; rw [hq] at hk; cases hk
   ·simp [e]
 | _ => rfl
theorem iP {names : List ByteArray} {i : Nat} {s : ByteArray} (h : names[i]? = some s) (hk : (cM (names.take i) s).isSome = false) : cj (names.take (i + 1)) (.string s) = some (aD i) := by
 simp only [cj]
 rw [i6 h]
 cases hq : cM (names.take i) s with
 | some n => rw [hq] at hk; cases hk
 | none => simp
theorem i8 {names : List ByteArray} {i : Nat} {s : ByteArray} (h : names[i]? = some s) (q : Value) (hne : q ≠ .string s) : cj (names.take (i + 1)) q = cj (names.take i) q := by
 cases q with
 | string q =>
  have hne' : s ≠ q := fun e => hne (by rw [e])
  simp only [cj]
  rw [i6 h]
  cases hq : cM (names.take i) q with
  | some n => rfl
  | none => simp [hne']
 | _ => rfl
theorem o0 (g : b7) : bw Tryz.prog 99 [.agg (bE g)] (qS g.Name) := by
 refine aG Tryz.func99 rfl Tryz.ntmps99 rfl fun B => ?_
 repeat' (first|refine ae ?_|refine a6 ?_|refine am ?_|refine a8 ?_|refine aa ?_|refine ah a7 rfl rfl ?_|refine b9 ?_|fail)
 exact au rfl rfl rfl
theorem o4 (g : bI) : bw Tryz.prog 101 [.agg (bC g)] (qS g.Name) := by
 refine aG Tryz.func101 rfl Tryz.ntmps101 rfl fun B => ?_
 repeat' (first|refine ae ?_|refine a6 ?_|refine am ?_|refine a8 ?_|refine aa ?_|refine ah a7 rfl rfl ?_|refine b9 ?_|fail)
 exact au rfl rfl rfl
theorem o5 (g : eu) : bw Tryz.prog 103 [.agg (eH g)] (qS g.Name) := by
 refine aG Tryz.func103 rfl Tryz.ntmps103 rfl fun B => ?_
 repeat' (first|refine ae ?_|refine a6 ?_|refine am ?_|refine a8 ?_|refine aa ?_|refine ah a7 rfl rfl ?_|refine b9 ?_|fail)
 exact au rfl rfl rfl
set_option maxHeartbeats 1000000 in
theorem xR (l : List b7) : AC Tryz.prog 98 [.imm 9 (l.map bE), .sc (.func (.func 99) #[] #[])] [] fun c L => ∃ m, c = .sc (.map (some m)) ∧ L = [(m, bP .string (cj (l.map b7.Name)))] := by
 refine aG Tryz.func98 rfl Tryz.ntmps98 rfl fun B => ?_
 refine cJ 0 rfl rfl fun hlen => ?_
 rw [Hv] at hlen
 repeat' (first|refine ae ?_|refine a6 ?_|refine a8 ?_|refine aa ?_|refine ah a7 rfl rfl ?_)
 refine dg .string fun m => ?_
 repeat' (first|refine ae ?_|refine a6 ?_|refine ar ?_|refine a8 ?_|refine aa ?_|refine ah a7 rfl rfl ?_)
 refine aI [1, 5, 11, 12] (α := Nat) (fun i => [(13, aD i)]) (fun i => i ≤ l.length) (fun i => [(m, bP .string (cj ((l.map b7.Name).take i)))]) (fun i => l.length - i) 0 rfl ⟨rfl, trivial⟩ (Nat.zero_le _) (fun _ _ h => by rw [List.take_zero, jT]; exact h) fun i hi => ?_
 try dsimp only [Ht, Hs, Hr, Hn]
 repeat' (first|refine ae ?_|refine a6 ?_|refine a8 ?_|refine aa ?_|refine ah a7 rfl rfl ?_)
 refine ay rfl (fun h => ?_) (fun h => ?_)
 ·have hil : i < l.length := by have := Hz h; simp at this; omega
  obtain ⟨z, hz⟩ : ∃ z, l[i]? = some z := ⟨_, Eg hil⟩
  have hzg := bO (c := bE) hz
  have hzn : (l.map b7.Name)[i]? = some z.Name := by rw [List.getElem?_map, hz]; rfl
  repeat' (first|refine ae ?_|refine a6 ?_|refine ar ?_|refine aq ?_|refine a8 ?_|refine aa ?_|refine ah a7 rfl rfl ?_|(apply aO; first|refine aN a7 ?_|refine aH a7 ?_)|(apply aQ; first|refine ai 7 a7 0 rfl rfl rfl rfl rfl rfl rfl rfl ?_|refine ai 7 a7 1 rfl rfl rfl rfl rfl rfl rfl rfl ?_|refine ai 7 a7 2 rfl rfl rfl rfl rfl rfl rfl rfl ?_|refine aj a7 0 rfl rfl rfl rfl rfl rfl rfl ?_|refine aj a7 1 rfl rfl rfl rfl rfl rfl rfl ?_|refine aj a7 2 rfl rfl rfl rfl rfl rfl rfl ?_|refine aj a7 3 rfl rfl rfl rfl rfl rfl rfl ?_|fail)|refine aY a7 fun _=>?_|fail)
  refine gF (cs := [.agg (bE z)]) (caps := []) (o0 z) rfl rfl rfl rfl rfl ?_
  repeat' (first|fail)
  refine fj 0 (.int .i64 0) Tryz.underlying196 Tryz.underlying9 rfl rfl trivial rfl (by kernel_rfl) rfl ?_
  rw [iQ]
  repeat' (first|refine ae ?_|refine a6 ?_|refine a8 ?_|refine aa ?_|refine ah a7 rfl rfl ?_)
  refine ay rfl (fun h2 => ?_) (fun h2 => ?_)
  ·have h2' : (cM ((l.map b7.Name).take i) z.Name).isSome = false := by simpa using h2
   repeat' (first|refine a6 ?_|refine ah a7 rfl rfl ?_)
   refine gF (cs := [.agg (bE z)]) (caps := []) (o0 z) rfl rfl rfl rfl rfl ?_
   repeat' (first|refine ah a7 rfl rfl ?_)
   refine cH 0 (cj ((l.map b7.Name).take (i + 1))) Tryz.underlying196 Tryz.underlying9 rfl rfl trivial rfl rfl (iP hzn h2') (i8 hzn) ?_
   repeat' (first|refine a6 ?_|refine a8 ?_|refine aR ?_|refine aa ?_|refine ah a7 rfl rfl ?_|(apply b6; refine aZ ?_)|fail)
   exact aF (i + 1) rfl ⟨by rw [Hw]; rfl, trivial⟩ (by omega) (by omega) (fun _ _ h => h)
  ·have h2' : (cM ((l.map b7.Name).take i) z.Name).isSome = true := by simpa using h2
   repeat' (first|refine a6 ?_|refine aq ?_|refine a8 ?_|refine aR ?_|refine aa ?_|refine ah a7 rfl rfl ?_|(apply b6; refine aZ ?_)|fail)
   exact aF (i + 1) rfl ⟨by rw [Hw]; rfl, trivial⟩ (by omega) (by omega) (fun _ _ h => by rw [i7 hzn h2']; exact h)
 ·have hil : i = l.length := by have := Hy h; simp at this; omega
  subst hil
  rw [List.take_of_length_le (by simp)]
  repeat' (first|refine ae ?_|refine a6 ?_|refine am ?_|refine aL ?_|refine a8 ?_|refine av ?_|refine aA ?_|refine az ?_|refine aa ?_|refine ah a7 rfl rfl ?_)
  exact au rfl rfl ⟨_, rfl, rfl⟩
set_option maxHeartbeats 1000000 in
theorem xS (l : List bI) : AC Tryz.prog 100 [.imm 2 (l.map bC), .sc (.func (.func 101) #[] #[])] [] fun c L => ∃ m, c = .sc (.map (some m)) ∧ L = [(m, bP .string (cj (l.map bI.Name)))] := by
 refine aG Tryz.func100 rfl Tryz.ntmps100 rfl fun B => ?_
 refine cJ 0 rfl rfl fun hlen => ?_
 rw [Hv] at hlen
 repeat' (first|refine ae ?_|refine a6 ?_|refine a8 ?_|refine aa ?_|refine ah a7 rfl rfl ?_)
 refine dg .string fun m => ?_
 repeat' (first|refine ae ?_|refine a6 ?_|refine ar ?_|refine a8 ?_|refine aa ?_|refine ah a7 rfl rfl ?_)
 refine aI [1, 5, 11, 12] (α := Nat) (fun i => [(13, aD i)]) (fun i => i ≤ l.length) (fun i => [(m, bP .string (cj ((l.map bI.Name).take i)))]) (fun i => l.length - i) 0 rfl ⟨rfl, trivial⟩ (Nat.zero_le _) (fun _ _ h => by rw [List.take_zero, jT]; exact h) fun i hi => ?_
 try dsimp only [Ht, Hs, Hr, Hn]
 repeat' (first|refine ae ?_|refine a6 ?_|refine a8 ?_|refine aa ?_|refine ah a7 rfl rfl ?_)
 refine ay rfl (fun h => ?_) (fun h => ?_)
 ·have hil : i < l.length := by have := Hz h; simp at this; omega
  obtain ⟨z, hz⟩ : ∃ z, l[i]? = some z := ⟨_, Eg hil⟩
  have hzg := bO (c := bC) hz
  have hzn : (l.map bI.Name)[i]? = some z.Name := by rw [List.getElem?_map, hz]; rfl
  repeat' (first|refine ae ?_|refine a6 ?_|refine ar ?_|refine aq ?_|refine a8 ?_|refine aa ?_|refine ah a7 rfl rfl ?_|(apply aO; first|refine aN a7 ?_|refine aH a7 ?_)|(apply aQ; first|refine ai 7 a7 0 rfl rfl rfl rfl rfl rfl rfl rfl ?_|refine ai 7 a7 1 rfl rfl rfl rfl rfl rfl rfl rfl ?_|refine ai 7 a7 2 rfl rfl rfl rfl rfl rfl rfl rfl ?_|refine aj a7 0 rfl rfl rfl rfl rfl rfl rfl ?_|refine aj a7 1 rfl rfl rfl rfl rfl rfl rfl ?_|refine aj a7 2 rfl rfl rfl rfl rfl rfl rfl ?_|refine aj a7 3 rfl rfl rfl rfl rfl rfl rfl ?_|fail)|refine aY a7 fun _=>?_|fail)
  refine gF (cs := [.agg (bC z)]) (caps := []) (o4 z) rfl rfl rfl rfl rfl ?_
  repeat' (first|fail)
  refine fj 0 (.int .i64 0) Tryz.underlying196 Tryz.underlying9 rfl rfl trivial rfl (by kernel_rfl) rfl ?_
  rw [iQ]
  repeat' (first|refine ae ?_|refine a6 ?_|refine a8 ?_|refine aa ?_|refine ah a7 rfl rfl ?_)
  refine ay rfl (fun h2 => ?_) (fun h2 => ?_)
  ·have h2' : (cM ((l.map bI.Name).take i) z.Name).isSome = false := by simpa using h2
   repeat' (first|refine a6 ?_|refine ah a7 rfl rfl ?_)
   refine gF (cs := [.agg (bC z)]) (caps := []) (o4 z) rfl rfl rfl rfl rfl ?_
   repeat' (first|refine ah a7 rfl rfl ?_)
   refine cH 0 (cj ((l.map bI.Name).take (i + 1))) Tryz.underlying196 Tryz.underlying9 rfl rfl trivial rfl rfl (iP hzn h2') (i8 hzn) ?_
   repeat' (first|refine a6 ?_|refine a8 ?_|refine aR ?_|refine aa ?_|refine ah a7 rfl rfl ?_|(apply b6; refine aZ ?_)|fail)
   exact aF (i + 1) rfl ⟨by rw [Hw]; rfl, trivial⟩ (by omega) (by omega) (fun _ _ h => h)
  ·have h2' : (cM ((l.map bI.Name).take i) z.Name).isSome = true := by simpa using h2
   repeat' (first|refine a6 ?_|refine aq ?_|refine a8 ?_|refine aR ?_|refine aa ?_|refine ah a7 rfl rfl ?_|(apply b6; refine aZ ?_)|fail)
   exact aF (i + 1) rfl ⟨by rw [Hw]; rfl, trivial⟩ (by omega) (by omega) (fun _ _ h => by rw [i7 hzn h2']; exact h)
 ·have hil : i = l.length := by have := Hy h; simp at this; omega
  subst hil
  rw [List.take_of_length_le (by simp)]
  repeat' (first|refine ae ?_|refine a6 ?_|refine am ?_|refine aL ?_|refine a8 ?_|refine av ?_|refine aA ?_|refine az ?_|refine aa ?_|refine ah a7 rfl rfl ?_)
  exact au rfl rfl ⟨_, rfl, rfl⟩
set_option maxHeartbeats 1000000 in
theorem xT (l : List eu) : AC Tryz.prog 102 [.imm 4 (l.map eH), .sc (.func (.func 103) #[] #[])] [] fun c L => ∃ m, c = .sc (.map (some m)) ∧ L = [(m, bP .string (cj (l.map eu.Name)))] := by
 refine aG Tryz.func102 rfl Tryz.ntmps102 rfl fun B => ?_
 refine cJ 0 rfl rfl fun hlen => ?_
 rw [Hv] at hlen
 repeat' (first|refine ae ?_|refine a6 ?_|refine a8 ?_|refine aa ?_|refine ah a7 rfl rfl ?_)
 refine dg .string fun m => ?_
 repeat' (first|refine ae ?_|refine a6 ?_|refine ar ?_|refine a8 ?_|refine aa ?_|refine ah a7 rfl rfl ?_)
 refine aI [1, 5, 11, 12] (α := Nat) (fun i => [(13, aD i)]) (fun i => i ≤ l.length) (fun i => [(m, bP .string (cj ((l.map eu.Name).take i)))]) (fun i => l.length - i) 0 rfl ⟨rfl, trivial⟩ (Nat.zero_le _) (fun _ _ h => by rw [List.take_zero, jT]; exact h) fun i hi => ?_
 try dsimp only [Ht, Hs, Hr, Hn]
 repeat' (first|refine ae ?_|refine a6 ?_|refine a8 ?_|refine aa ?_|refine ah a7 rfl rfl ?_)
 refine ay rfl (fun h => ?_) (fun h => ?_)
 ·have hil : i < l.length := by have := Hz h; simp at this; omega
  obtain ⟨z, hz⟩ : ∃ z, l[i]? = some z := ⟨_, Eg hil⟩
  have hzg := bO (c := eH) hz
  have hzn : (l.map eu.Name)[i]? = some z.Name := by rw [List.getElem?_map, hz]; rfl
  repeat' (first|refine ae ?_|refine a6 ?_|refine ar ?_|refine aq ?_|refine a8 ?_|refine aa ?_|refine ah a7 rfl rfl ?_|(apply aO; first|refine aN a7 ?_|refine aH a7 ?_)|(apply aQ; first|refine ai 7 a7 0 rfl rfl rfl rfl rfl rfl rfl rfl ?_|refine ai 7 a7 1 rfl rfl rfl rfl rfl rfl rfl rfl ?_|refine ai 7 a7 2 rfl rfl rfl rfl rfl rfl rfl rfl ?_|refine aj a7 0 rfl rfl rfl rfl rfl rfl rfl ?_|refine aj a7 1 rfl rfl rfl rfl rfl rfl rfl ?_|refine aj a7 2 rfl rfl rfl rfl rfl rfl rfl ?_|refine aj a7 3 rfl rfl rfl rfl rfl rfl rfl ?_|fail)|refine aY a7 fun _=>?_|fail)
  refine gF (cs := [.agg (eH z)]) (caps := []) (o5 z) rfl rfl rfl rfl rfl ?_
  repeat' (first|fail)
  refine fj 0 (.int .i64 0) Tryz.underlying196 Tryz.underlying9 rfl rfl trivial rfl (by kernel_rfl) rfl ?_
  rw [iQ]
  repeat' (first|refine ae ?_|refine a6 ?_|refine a8 ?_|refine aa ?_|refine ah a7 rfl rfl ?_)
  refine ay rfl (fun h2 => ?_) (fun h2 => ?_)
  ·have h2' : (cM ((l.map eu.Name).take i) z.Name).isSome = false := by simpa using h2
   repeat' (first|refine a6 ?_|refine ah a7 rfl rfl ?_)
   refine gF (cs := [.agg (eH z)]) (caps := []) (o5 z) rfl rfl rfl rfl rfl ?_
   repeat' (first|refine ah a7 rfl rfl ?_)
   refine cH 0 (cj ((l.map eu.Name).take (i + 1))) Tryz.underlying196 Tryz.underlying9 rfl rfl trivial rfl rfl (iP hzn h2') (i8 hzn) ?_
   repeat' (first|refine a6 ?_|refine a8 ?_|refine aR ?_|refine aa ?_|refine ah a7 rfl rfl ?_|(apply b6; refine aZ ?_)|fail)
   exact aF (i + 1) rfl ⟨by rw [Hw]; rfl, trivial⟩ (by omega) (by omega) (fun _ _ h => h)
  ·have h2' : (cM ((l.map eu.Name).take i) z.Name).isSome = true := by simpa using h2
   repeat' (first|refine a6 ?_|refine aq ?_|refine a8 ?_|refine aR ?_|refine aa ?_|refine ah a7 rfl rfl ?_|(apply b6; refine aZ ?_)|fail)
   exact aF (i + 1) rfl ⟨by rw [Hw]; rfl, trivial⟩ (by omega) (by omega) (fun _ _ h => by rw [i7 hzn h2']; exact h)
 ·have hil : i = l.length := by have := Hy h; simp at this; omega
  subst hil
  rw [List.take_of_length_le (by simp)]
  repeat' (first|refine ae ?_|refine a6 ?_|refine am ?_|refine aL ?_|refine a8 ?_|refine av ?_|refine aA ?_|refine az ?_|refine aa ?_|refine ah a7 rfl rfl ?_)
  exact au rfl rfl ⟨_, rfl, rfl⟩
end Go.Proofs.YtamjlkdanllgjaaGreatDoor
namespace Go.Proofs.YtamjlkdanllgjaaGreatDoor
open Go.RowKit
attribute [local irreducible] AT br AX AO Av Kt aW cZ DA cw
theorem iO (names : List ByteArray) (s : ByteArray) : (cj names (.string s)).getD (.sc (.int .i64 0)) = aD ((cM names s).getD 0 : Nat) := by
 show (Option.map (fun n : Nat => aD (n : Int)) (cM names s)).getD (.sc (.int .i64 0)) = _
 cases cM names s <;> rfl
def tY (names : List ByteArray) (i : Nat) (s : ByteArray) : Bool := decide ((((cM names s).getD 0 : Nat) : Int) < (i : Int))
def lE (f : aP) : List ByteArray := f.Glyphs.map b7.Name
def lP (f : aP) : List ByteArray := f.Features.map bI.Name
def lh (f : aP) : List ByteArray := f.Axes.map eu.Name
def eQ (f : aP) (i : Nat) (g : b7) : Int := nI f g (nC (ib g.Name) (tY (lE f) i g.Name))
def jc (f : aP) (i : Nat) (t : bI) : Int := uy f t (nC (fh t.Name) (tY (lP f) i t.Name))
def kp (f : aP) (i : Nat) (a : eu) : Int := uj a (nC (ib a.Name) (tY (lh f) i a.Name))
set_option maxHeartbeats 1000000 in
theorem tk (f : aP) (i : Nat) (g : b7) (m : Nat) : AC Tryz.prog 108 [aD i, .agg (bE g), .iptr (bH f), .iptr [.sc (.map (some m))]] [(m, bP .string (cj (lE f)))] fun c L => c = aD (eQ f i g) ∧ L = [(m, bP .string (cj (lE f)))] := by
 refine aG Tryz.func108 rfl Tryz.ntmps108 rfl fun B => ?_
 repeat' (first|refine ae ?_|refine a6 ?_|refine a8 ?_|refine aa ?_|refine ah a7 rfl rfl ?_|refine b9 ?_|fail)
 refine bF 12 [(0, .v), (1, .v), (2, .v), (3, .v), (4, .v), (5, .v), (6, .v), (7, .v), (9, .v), (8, .e), (10, .v), (11, .v)] none ?_ trivial rfl (by kernel_rfl) (by kernel_rfl) (by kernel_rfl) mixed (by kernel_rfl) rfl
 repeat' (first|refine aM ?_|refine bD a7 ?_|(apply cL;refine d8 ?_)|fail)
 refine kx 0 (.int .i64 0) Tryz.underlying196 Tryz.underlying9 rfl rfl trivial rfl (by kernel_rfl) trivial ?_
 rw [iO]
 repeat' (first|refine aM ?_|refine bD a7 ?_|(apply cL;refine d8 ?_)|fail)
 refine bM [7, 8, 18] rfl rfl ?_
 repeat' (first|refine am ?_|refine a8 ?_|refine aa ?_|refine ah a7 rfl rfl ?_|(apply bc;refine aX ?_)|fail)
 exact au rfl rfl ⟨rfl, rfl⟩
set_option maxHeartbeats 1000000 in
theorem vL (f : aP) (i : Nat) (t : bI) (m : Nat) : AC Tryz.prog 121 [aD i, .agg (bC t), .iptr (bH f), .iptr [.sc (.map (some m))]] [(m, bP .string (cj (lP f)))] fun c L => c = aD (jc f i t) ∧ L = [(m, bP .string (cj (lP f)))] := by
 refine aG Tryz.func121 rfl Tryz.ntmps121 rfl fun B => ?_
 repeat' (first|refine ae ?_|refine a6 ?_|refine a8 ?_|refine aa ?_|refine ah a7 rfl rfl ?_|refine b9 ?_|fail)
 refine bF 12 [(0, .v), (1, .v), (2, .v), (3, .v), (4, .v), (5, .v), (6, .v), (7, .v), (9, .v), (8, .e), (10, .v), (11, .v)] none ?_ trivial rfl (by kernel_rfl) (by kernel_rfl) (by kernel_rfl) mixed (by kernel_rfl) rfl
 repeat' (first|refine aM ?_|refine bD a7 ?_|(apply cL;refine d8 ?_)|fail)
 refine kx 0 (.int .i64 0) Tryz.underlying196 Tryz.underlying9 rfl rfl trivial rfl (by kernel_rfl) trivial ?_
 rw [iO]
 repeat' (first|refine aM ?_|refine bD a7 ?_|(apply cL;refine d8 ?_)|fail)
 refine bM [7, 8, 18] rfl rfl ?_
 repeat' (first|refine am ?_|refine a8 ?_|refine aa ?_|refine ah a7 rfl rfl ?_|(apply bc;refine aX ?_)|fail)
 exact au rfl rfl ⟨rfl, rfl⟩
set_option maxHeartbeats 1000000 in
theorem vq (f : aP) (i : Nat) (a : eu) (m : Nat) : AC Tryz.prog 125 [aD i, .agg (eH a), .iptr [.sc (.map (some m))]] [(m, bP .string (cj (lh f)))] fun c L => c = aD (kp f i a) ∧ L = [(m, bP .string (cj (lh f)))] := by
 refine aG Tryz.func125 rfl Tryz.ntmps125 rfl fun B => ?_
 repeat' (first|refine ae ?_|refine a6 ?_|refine a8 ?_|refine aa ?_|refine ah a7 rfl rfl ?_|refine b9 ?_|fail)
 refine bF 11 [(0, .v), (1, .v), (2, .v), (3, .v), (4, .v), (5, .v), (6, .v), (8, .v), (7, .e), (9, .v), (10, .v)] none ?_ trivial rfl (by kernel_rfl) (by kernel_rfl) (by kernel_rfl) mixed (by kernel_rfl) rfl
 repeat' (first|refine aM ?_|refine bD a7 ?_|(apply cL;refine d8 ?_)|fail)
 refine kx 0 (.int .i64 0) Tryz.underlying196 Tryz.underlying9 rfl rfl trivial rfl (by kernel_rfl) trivial ?_
 rw [iO]
 repeat' (first|refine aM ?_|refine bD a7 ?_|(apply cL;refine d8 ?_)|fail)
 refine bM [6, 16] rfl rfl ?_
 repeat' (first|refine am ?_|refine a8 ?_|refine aa ?_|refine ah a7 rfl rfl ?_|(apply bc;refine aX ?_)|fail)
 exact au rfl rfl ⟨rfl, rfl⟩
theorem Bb (n : Nat) (hn : n ≤ 1000000) : AC Tryz.prog 316 [.sc (.slice none 0 0), aD n] [] fun c L => ∃ k, c = .vec k 1 [] ∧ L = tok k 22 1 0 := by
 refine aG Tryz.func316 rfl Tryz.ntmps316 rfl fun B => ?_
 repeat' (first|refine ae ?_|refine a6 ?_|refine aq ?_|refine a8 ?_|refine aa ?_|refine ah a7 rfl rfl ?_|refine bi rfl ?_)
 refine yB a7 rfl rfl rfl ?_
 repeat' (first|refine ae ?_|refine a6 ?_|refine a8 ?_|refine aa ?_|refine ah a7 rfl rfl ?_|(apply b6; refine aZ ?_)|fail)
 by_cases h0 : n = 0
 ·subst h0
  repeat' (first|refine ae ?_|refine a6 ?_|refine aq ?_|refine am ?_|refine a8 ?_|refine aa ?_|refine ah a7 rfl rfl ?_|refine bi rfl ?_)
  refine bf (bA (t := 4) (c' := .vec none 1 []) rfl fun σ v h => er 1 h) (au rfl rfl ⟨none, rfl, rfl⟩)
 ·refine ay rfl (fun h2 => ?_) (fun h2 => ?_)
  ·repeat' (first|refine a6 ?_|refine ah a7 rfl rfl ?_)
   refine yB a7 rfl rfl rfl ?_
   repeat' (first|fail)
   refine DH a7 rfl rfl rfl rfl ?_
   repeat' (first|refine ah a7 rfl rfl ?_)
   refine we a7 n rfl Tryz.underlying3 rfl rfl (by omega) (by omega) (by omega) (by omega) rfl fun b cap h3 h4 => ?_
   repeat' (first|refine ah a7 rfl rfl ?_)
   refine yD a7 0 rfl rfl rfl rfl (by omega) (by omega) rfl ?_
   repeat' (first|refine ae ?_|refine a6 ?_|refine am ?_|refine a8 ?_|refine aa ?_|refine ah a7 rfl rfl ?_)
   refine bf (bA (t := 4) (c' := .vec (some (b, cap)) 1 []) rfl fun σ v h => C0 h4 h) (au rfl rfl ⟨some (b, cap), rfl, rfl⟩)
  ·exact absurd (Hy h2) (by omega)
def oh (l : List (List (List Int))) : List (List AV) := l.map fun r => [.imm 1 (ba r)]
def fp (l : List (List (List Int))) : Nat := (l.map List.length).sum
theorem mz {l : List (List (List Int))} {i : Nat} {r : List (List Int)} (h : l[i]? = some r) : fp (l.take (i + 1)) = fp (l.take i) + r.length := by
 unfold fp
 rw [List.take_add_one, h]
 simp
theorem pJ (l : List (List (List Int))) (i : Nat) : fp (l.take i) ≤ fp l := by
 have h : ((l.take i ++ l.drop i).map List.length).sum = (l.map List.length).sum := by rw [List.take_append_drop]
 rw [List.map_append, List.sum_append] at h
 unfold fp
 omega
theorem xU (l : List (List (List Int))) : l.flatten.length = fp l := by
 unfold fp
 rw [List.length_flatten]
theorem wu (a b : List (List Int)) : ba a ++ ba b = ba (a ++ b) := by unfold ba; rw [List.map_append]
set_option maxHeartbeats 1000000 in
theorem t7 (l : List (List (List Int))) (hs : fp l ≤ 1000000) : bw Tryz.prog 262 [.imm 1 (oh l)] (.imm 1 (ba l.flatten)) := by
 refine aG Tryz.func262 rfl Tryz.ntmps262 rfl fun B => ?_
 have hrl : (oh l).length = l.length := by simp [oh]
 refine cJ 0 rfl rfl fun hlen => ?_
 rw [hrl] at hlen
 repeat' (first|refine ae ?_|refine a6 ?_|refine ar ?_|refine a8 ?_|refine aa ?_|refine ah a7 rfl rfl ?_)
 refine aI [0, 9, 10] (α := Nat) (fun i => [(11, aD i), (3, aD (fp (l.take i)))]) (fun i => i ≤ l.length) (fun _ => []) (fun i => l.length - i) 0 rfl ⟨rfl, rfl, trivial⟩ (Nat.zero_le _) (fun _ _ h => h) fun i hi => ?_
 try dsimp only [Ht, Hs, Hr, Hn]
 repeat' (first|refine ae ?_|refine a6 ?_|refine a8 ?_|refine aa ?_|refine ah a7 rfl rfl ?_)
 refine ay rfl (fun h => ?_) (fun h => ?_)
 ·have hil : i < l.length := by have := Hz h; rw [hrl] at this; omega
  obtain ⟨z, hz⟩ : ∃ z, l[i]? = some z := ⟨_, Eg hil⟩
  have hzg : (oh l)[i]? = some [.imm 1 (ba z)] := by simp [oh, hz]
  have hsz := mz hz
  have hle := pJ l (i + 1)
  have hzl : (ba z).length = z.length := by simp [ba]
  repeat' (first|refine ae ?_|refine a6 ?_|refine ar ?_|refine aq ?_|refine a8 ?_|refine aR ?_|refine aa ?_|refine ah a7 rfl rfl ?_|(apply b6; refine aZ ?_)|(apply aO; first|refine aN a7 ?_|refine aH a7 ?_)|refine bi rfl ?_)
  exact aF (i + 1) rfl ⟨by rw [Hw]; rfl, by rw [hsz, Hw, hzl]; rfl, trivial⟩ (by omega) (by omega) (fun _ _ h => h)
 have hil : i = l.length := by have := Hy h; rw [hrl] at this; omega
 subst hil
 rw [List.take_length]
 clear h
 repeat' (first|refine ae ?_|refine a6 ?_|refine aL ?_|refine a8 ?_|refine av ?_|refine aA ?_|refine az ?_|refine ah a7 rfl rfl ?_)
 refine aV [] [] (Bb (fp l) hs) rfl rfl (Hp _) rfl fun c L1 ⟨k, hc, hL⟩ => ?_
 subst hc; subst hL
 rw [List.append_nil]
 repeat' (first|refine ae ?_|refine a6 ?_|refine ar ?_|refine a8 ?_|refine aa ?_|refine ah a7 rfl rfl ?_)
 refine aI [25, 26] (α := Nat × Option (Nat × Nat)) (fun x => [(27, aD x.1), (6, .vec x.2 1 (ba (l.take x.1).flatten))]) (fun x => x.1 ≤ l.length) (fun x => tok x.2 22 1 (ba (l.take x.1).flatten).length) (fun x => l.length - x.1) (0, k) rfl ⟨rfl, rfl, trivial⟩ (Nat.zero_le _) (fun _ _ h => h) ?_
 rintro ⟨i, k⟩ hi
 dsimp only at hi ⊢
 try dsimp only [Ht, Hs, Hr, Hn]
 repeat' (first|refine ae ?_|refine a6 ?_|refine a8 ?_|refine aa ?_|refine ah a7 rfl rfl ?_)
 refine ay rfl (fun h => ?_) (fun h => ?_)
 ·have hil : i < l.length := by have := Hz h; rw [hrl] at this; omega
  obtain ⟨z, hz⟩ : ∃ z, l[i]? = some z := ⟨_, Eg hil⟩
  have hzg : (oh l)[i]? = some [.imm 1 (ba z)] := by simp [oh, hz]
  have hsz := mz hz
  have hle := pJ l (i + 1)
  have hzl : (ba z).length = z.length := by simp [ba]
  have hfl : (ba (l.take i).flatten).length = fp (l.take i) := by rw [c8, xU]
  have hcat : ba (l.take i).flatten ++ ba z = ba (l.take (i + 1)).flatten := by rw [wu, List.take_add_one, hz]; simp
  repeat' (first|refine ae ?_|refine a6 ?_|refine ar ?_|refine aq ?_|refine a8 ?_|refine aa ?_|refine ah a7 rfl rfl ?_|(apply aO; first|refine aN a7 ?_|refine aH a7 ?_)|fail)
  refine cP a7 [] rfl rfl rfl rfl (by rw [List.append_nil]) (by rw [hfl, hzl]; omega) (by rw [hfl, hzl]; omega) rfl fun k' => ?_
  rw [hcat, List.append_nil]
  repeat' (first|refine a6 ?_|refine a8 ?_|refine aR ?_|refine aa ?_|refine ah a7 rfl rfl ?_|(apply b6; refine aZ ?_)|fail)
  exact aF (i + 1, k') rfl ⟨by rw [Hw]; rfl, rfl, trivial⟩ (by dsimp only; omega) (by dsimp only; omega) (fun _ _ h => h)
 ·have hil : i = l.length := by have := Hy h; rw [hrl] at this; omega
  subst hil
  rw [List.take_length]
  repeat' (first|refine ae ?_|refine a6 ?_|refine am ?_|refine aL ?_|refine a8 ?_|refine av ?_|refine aA ?_|refine az ?_|refine aa ?_|refine ah a7 rfl rfl ?_)
  exact xw rfl rfl rfl rfl
def il (l : List Int) : Bool := decide (∀ i, i < l.length - 1 → l.getD i 0 < l.getD (i + 1) 0)
theorem iT {l : List Int} {i : Nat} {z : Int} (h : l[i]? = some z) : l.getD i 0 = z := by simp [h]
theorem tL (l : List Int) : bw Tryz.prog 317 [.imm 1 (aT l)] (ce (il l)) := by
 refine aG Tryz.func317 rfl Tryz.ntmps317 rfl fun B => ?_
 refine cJ 0 rfl rfl fun hlen => ?_
 have hll := bg l
 rw [bg] at hlen
 repeat' (first|refine ae ?_|refine a6 ?_|refine ar ?_|refine a8 ?_|refine aa ?_|refine ah a7 rfl rfl ?_)
 refine aI [0] (α := Nat) (fun i => [(3, aD (i + 1 : Nat))]) (fun i => i ≤ l.length ∧ ∀ j, j < i → j + 1 < l.length → l.getD j 0 < l.getD (j + 1) 0) (fun _ => []) (fun i => l.length - i) 0 rfl ⟨rfl, trivial⟩ ⟨Nat.zero_le _, fun j hj => absurd hj (Nat.not_lt_zero _)⟩ (fun _ _ h => h) fun i ⟨hi, hall⟩ => ?_
 try dsimp only [Ht, Hs, Hr, Hn]
 repeat' (first|refine ae ?_|refine a6 ?_|refine a8 ?_|refine aa ?_|refine ah a7 rfl rfl ?_)
 refine ay rfl (fun h => ?_) (fun h => ?_)
 ·have hil : i + 1 < l.length := by have := Hz h; rw [bg] at this; omega
  obtain ⟨y, hy⟩ : ∃ z, l[i]? = some z := ⟨_, Eg (by omega)⟩
  obtain ⟨z, hz⟩ : ∃ z, l[i + 1]? = some z := ⟨_, Eg hil⟩
  have hyg : (aT l)[(((i + 1 : Nat) : Int) - 1).toNat]? = some [aD y] := by rw [show (((i + 1 : Nat) : Int) - 1).toNat = i by omega]; exact bU hy
  have hzg := bU hz
  repeat' (first|refine ae ?_|refine ar ?_|refine aq ?_|refine a8 ?_)
  refine bF 9 [(0, .v), (1, .v), (2, .v), (3, .v), (4, .v), (5, .v), (6, .v), (7, .v), (8, .v)] none ?_ trivial rfl (by kernel_rfl) (by kernel_rfl) (by kernel_rfl) mixed (by kernel_rfl) rfl
  repeat' (first|refine aM ?_|refine bD a7 ?_|(apply iM;refine m9 ?_)|(apply dk;refine dT a7 ?_)|fail)
  refine bM [0, 3, 13, 18] rfl rfl ?_
  repeat' (first|refine a8 ?_|refine aa ?_|refine ah a7 rfl rfl ?_)
  refine ay rfl (fun h2 => ?_) (fun h2 => ?_)
  ·have h2' := Hz h2
   repeat' (first|refine ae ?_|refine a6 ?_|refine am ?_|refine a8 ?_|refine aw ?_|refine aK ?_|refine bB ?_|refine aa ?_|refine ah a7 rfl rfl ?_)
   refine au rfl rfl ?_
   rw [show il l = false from decide_eq_false (fun hh => by have := hh i (by omega); rw [iT hy, iT hz] at this; omega)]
  ·have h2' := Hy h2
   repeat' (first|refine a6 ?_|refine aq ?_|refine a8 ?_|refine aR ?_|refine aa ?_|refine ah a7 rfl rfl ?_|(apply b6; refine aZ ?_)|fail)
   refine aF (i + 1) rfl ⟨by rw [Hw (i + 1) 1]; rfl, trivial⟩ ⟨by omega, fun j hj hjl => ?_⟩ (by omega) (fun _ _ h => h)
   by_cases e : j = i
   ·subst e; rw [iT hy, iT hz]; omega
   ·exact hall j (by omega) hjl
 ·have hil : l.length ≤ i + 1 := by have := Hy h; rw [bg] at this; omega
  repeat' (first|refine ae ?_|refine a6 ?_|refine am ?_|refine aL ?_|refine a8 ?_|refine av ?_|refine aA ?_|refine az ?_|refine aa ?_|refine ah a7 rfl rfl ?_)
  refine au rfl rfl ?_
  rw [show il l = true from decide_eq_true (fun j hj => hall j (by omega) (by omega))]
instance (l : List Int) : AD Tryz.prog 317 [.imm 1 (aT l)] (ce (il l)) := ⟨tL l⟩
def nO (f : aP) (l : List Int) : Bool := decide (0 < l.length) && (il l && (jv f (l.getD 0 0) && jv f (l.getD (l.length - 1) 0)))
set_option maxHeartbeats 1000000 in
theorem w1 (f : aP) (l : List Int) : bw Tryz.prog 264 [cf f, .imm 1 (aT l)] (ce (nO f l)) := by
 refine aG Tryz.func264 rfl Tryz.ntmps264 rfl fun B => ?_
 refine cJ 1 rfl rfl fun hlen => ?_
 cases l with
 | nil =>
  repeat' (first|refine ae ?_|refine a6 ?_|refine a8 ?_|refine aa ?_|refine ah a7 rfl rfl ?_|refine b9 ?_|fail)
  refine bF 24 [(0, .v), (1, .v), (2, .v), (3, .v), (4, .v), (5, .v), (6, .v), (7, .v), (8, .v), (9, .v), (10, .v), (11, .v), (12, .v), (13, .v), (14, .v), (15, .v), (16, .v), (17, .v), (18, .v), (19, .v), (20, .v), (21, .v), (22, .v), (23, .v)] none ?_ trivial rfl (by kernel_rfl) (by kernel_rfl) (by kernel_rfl) mixed (by kernel_rfl) rfl
  repeat' (first|refine aM ?_|refine bD a7 ?_|refine rz rfl rfl ?_)
  refine bM [28] rfl rfl ?_
  repeat' (first|refine am ?_|refine a8 ?_|refine aa ?_|refine ah a7 rfl rfl ?_)
  exact au rfl rfl rfl
 | cons y q =>
  have hll : (aT (y :: q)).length = q.length + 1 := by rw [bg]; rfl
  rw [hll] at hlen
  obtain ⟨z, hz⟩ : ∃ z, (y :: q)[q.length]? = some z := ⟨_, Eg (by simp)⟩
  have hzg : (aT (y :: q))[((((aT (y :: q)).length : Nat) : Int) - 1).toNat]? = some [aD z] := by rw [show ((((aT (y :: q)).length : Nat) : Int) - 1).toNat = q.length by rw [hll]; omega]; exact bU hz
  have hyg : (aT (y :: q))[(0 : Int).toNat]? = some [aD y] := rfl
  have hval : nO f (y :: q) = (il (y :: q) && (jv f y && jv f z)) := by
   unfold nO
   rw [show (y :: q).length - 1 = q.length by simp, iT hz]
   simp
  rw [hval]
  have hpos : decide (0 < (((aT (y :: q)).length : Nat) : Int)) = true := decide_eq_true (by rw [hll]; omega)
  repeat' (first|refine ae ?_|refine a6 ?_|refine a8 ?_|refine aa ?_|refine ah a7 rfl rfl ?_|refine b9 ?_|fail)
  refine bF 24 [(0, .v), (1, .v), (2, .v), (3, .v), (4, .v), (5, .v), (6, .v), (7, .v), (8, .v), (9, .v), (10, .v), (11, .v), (12, .v), (13, .v), (14, .v), (15, .v), (16, .v), (17, .v), (18, .v), (19, .v), (20, .v), (21, .v), (22, .v), (23, .v)] none ?_ trivial rfl (by kernel_rfl) (by kernel_rfl) (by kernel_rfl) mixed (by kernel_rfl) rfl
  repeat' (first|refine aM ?_|refine bD a7 ?_|fail)
  rw [hpos]
  repeat' (first|refine aM ?_|refine bD a7 ?_|(apply cL;refine d8 ?_)|fail)
  generalize il (y :: q) = b1
  cases b1
  ·repeat' (first|refine aM ?_|refine bD a7 ?_|refine rz rfl rfl ?_)
   refine bM [28] rfl rfl ?_
   repeat' (first|refine am ?_|refine a8 ?_|refine aa ?_|refine ah a7 rfl rfl ?_)
   exact au rfl rfl rfl
  repeat' (first|refine aM ?_|refine bD a7 ?_|(apply dk;refine dT a7 ?_)|(apply cL;refine d8 ?_)|fail)
  generalize jv f y = b2
  cases b2
  ·repeat' (first|refine aM ?_|refine bD a7 ?_|refine rz rfl rfl ?_)
   refine bM [28] rfl rfl ?_
   repeat' (first|refine am ?_|refine a8 ?_|refine aa ?_|refine ah a7 rfl rfl ?_)
   exact au rfl rfl rfl
  repeat' (first|refine aM ?_|refine bD a7 ?_|(apply iM;refine m9 ?_)|(apply dk;refine dT a7 ?_)|(apply cL;refine d8 ?_)|fail)
  refine bM [28] rfl rfl ?_
  repeat' (first|refine am ?_|refine a8 ?_|refine aa ?_|refine ah a7 rfl rfl ?_)
  exact au rfl rfl rfl
instance (f : aP) (l : List Int) : AD Tryz.prog 264 [cf f, .imm 1 (aT l)] (ce (nO f l)) := ⟨w1 f l⟩
def jt (kind : Int) (r : bn) : Bool := if kind = 1 ∨ kind = 2 ∨ kind = 5 then decide ((r.In.length : Int) ≠ 1) else if kind = 6 then decide ((r.In.length : Int) ≠ 2 ∨ (r.Back.length : Int) > 0 ∨ (r.Ahead.length : Int) > 0) else decide ((r.In.length : Int) = 0)
def mv (kind : Int) (r : bn) : Int := if (r.Back.length : Int) > 6 ∨ (r.In.length : Int) > 6 ∨ (r.Ahead.length : Int) > 6 then 2 else dp (jt kind r) 40
set_option maxHeartbeats 1000000 in
theorem zd (kind : Int) (r : bn) : bw Tryz.prog 259 [aD kind, .agg (bL r)] (aD (mv kind r)) := by
 refine aG Tryz.func259 rfl Tryz.ntmps259 rfl fun B => ?_
 unfold mv jt
 have hB := c8 r.Back
 have hI := c8 r.In
 have hA := c8 r.Ahead
 rw [← hB, ← hI, ← hA]
 repeat' (first|refine ae ?_|refine a6 ?_|refine a8 ?_|refine aa ?_|refine ah a7 rfl rfl ?_|refine b9 ?_|fail)
 refine co [0, 3] (((ba r.Back).length : Int) > 6 ∨ ((ba r.In).length : Int) > 6 ∨ ((ba r.Ahead).length : Int) > 6) rfl (fun Q' K => ?_) (fun hC => ?_) (fun hC => ?_)
 ·repeat' (first|refine aa ?_|refine ah a7 rfl rfl ?_|refine aB rfl rfl ?_|refine aE rfl rfl rfl rfl ?_|refine aU rfl rfl rfl (fun _ => ?_) (fun _ => ?_))
  all_goals exact K _ _ rfl rfl (by clear K; grind)
 ·rw [if_pos hC]
  repeat' (first|refine ae ?_|refine a6 ?_|refine am ?_|refine a8 ?_|refine aw ?_|refine aa ?_|refine ah a7 rfl rfl ?_)
  exact au rfl rfl rfl
 rw [if_neg hC]
 by_cases h1 : kind = 1
 ·subst h1
  repeat' (first|refine ae ?_|refine a6 ?_|refine ar ?_|refine aq ?_|refine am ?_|refine a8 ?_|refine aR ?_|refine aa ?_|refine ah a7 rfl rfl ?_|(apply bc;refine aX ?_)|refine bK rfl ?_)
  exact au rfl rfl rfl
 by_cases h2 : kind = 2
 ·subst h2
  repeat' (first|refine ae ?_|refine a6 ?_|refine ar ?_|refine aq ?_|refine am ?_|refine a8 ?_|refine aR ?_|refine aa ?_|refine ah a7 rfl rfl ?_|(apply bc;refine aX ?_)|refine bK rfl ?_|refine bi rfl ?_)
  exact au rfl rfl rfl
 by_cases h5 : kind = 5
 ·subst h5
  repeat' (first|refine ae ?_|refine a6 ?_|refine ar ?_|refine aq ?_|refine am ?_|refine a8 ?_|refine aR ?_|refine aa ?_|refine ah a7 rfl rfl ?_|(apply bc;refine aX ?_)|refine bK rfl ?_|refine bi rfl ?_)
  exact au rfl rfl rfl
 rw [if_neg (by omega)]
 by_cases h6 : kind = 6
 ·subst h6
  rw [if_pos rfl]
  repeat' (first|refine ae ?_|refine a6 ?_|refine ar ?_|refine aq ?_|refine a8 ?_|refine aa ?_|refine ah a7 rfl rfl ?_|refine bK rfl ?_|refine bi rfl ?_)
  refine cT (t := 5) [] (((ba r.In).length : Int) ≠ 2 ∨ ((ba r.Back).length : Int) > 0 ∨ ((ba r.Ahead).length : Int) > 0) rfl (fun Q' K => ?_) ?_
  ·repeat' (first|refine aa ?_|refine ah a7 rfl rfl ?_|refine aB rfl rfl ?_|refine aE rfl rfl rfl rfl ?_|refine aU rfl rfl rfl (fun _ => ?_) (fun _ => ?_))
   all_goals exact K _ _ rfl rfl (by clear K; grind)
  repeat' (first|refine ae ?_|refine a6 ?_|refine am ?_|refine a8 ?_|refine aR ?_|refine aa ?_|refine ah a7 rfl rfl ?_|(apply bc;refine aX ?_)|fail)
  exact au rfl rfl rfl
 rw [if_neg h6]
 repeat' (first|refine ae ?_|refine a6 ?_|refine ar ?_|refine aq ?_|refine a8 ?_|refine aa ?_|refine ah a7 rfl rfl ?_)
 refine ay rfl (fun h => absurd (Hz h) h1) (fun h => ?_)
 repeat' (first|refine ae ?_|refine a6 ?_|refine a8 ?_|refine aa ?_|refine ah a7 rfl rfl ?_)
 refine ay rfl (fun h => absurd (Hz h) h2) (fun h => ?_)
 repeat' (first|refine a6 ?_|refine a8 ?_|refine aa ?_|refine ah a7 rfl rfl ?_)
 refine ay rfl (fun h => absurd (Hz h) h5) (fun h => ?_)
 rw [decide_eq_false h5]
 repeat' (first|refine ae ?_|refine a6 ?_|refine a8 ?_|refine aa ?_|refine ah a7 rfl rfl ?_)
 refine ay rfl (fun h => absurd (Hz h) h6) (fun h => ?_)
 repeat' (first|refine ae ?_|refine a6 ?_|refine aq ?_|refine am ?_|refine a8 ?_|refine aR ?_|refine aa ?_|refine ah a7 rfl rfl ?_|(apply bc;refine aX ?_)|fail)
 exact au rfl rfl rfl
instance (kind : Int) (r : bn) : AD Tryz.prog 259 [aD kind, .agg (bL r)] (aD (mv kind r)) := ⟨zd kind r⟩
theorem uX {kind : Int} {r : bn} (h : mv kind r = 0) : r.In ≠ [] ∧ r.Back.length ≤ 6 ∧ r.In.length ≤ 6 ∧ r.Ahead.length ≤ 6 := by
 unfold mv at h
 split at h
 ·cases h
 ·rename_i hc
  refine ⟨fun e => ?_, by omega, by omega, by omega⟩
  have hw : jt kind r = true := by
   unfold jt
   rw [e]
   split
   ·decide
   ·split <;> simp
  rw [hw] at h
  cases h
def wl (kind : Int) (r : bn) : Bool := if kind = 1 ∨ kind = 5 then decide ((r.Out.length : Int) = ((r.In.headD []).length : Int)) else if kind = 2 then decide ((r.Out.length : Int) ≤ 6) else if kind = 3 then decide ((r.Out.length : Int) = 1) else decide ((r.Out.length : Int) = 0)
set_option maxHeartbeats 1000000 in
theorem Bq (kind : Int) (r : bn) (hin : r.In ≠ []) : bw Tryz.prog 266 [aD kind, .agg (bL r)] (ce (wl kind r)) := by
 refine aG Tryz.func266 rfl Tryz.ntmps266 rfl fun B => ?_
 obtain ⟨y, hy⟩ : ∃ y, r.In[0]? = some y := ⟨_, Eg (List.length_pos_iff.2 hin)⟩
 have hyg := gP hy
 have hv : wl kind r = if kind = 1 ∨ kind = 5 then decide (((aT r.Out).length : Int) = ((aT y).length : Int)) else if kind = 2 then decide (((aT r.Out).length : Int) ≤ 6) else if kind = 3 then decide (((aT r.Out).length : Int) = 1) else decide (((aT r.Out).length : Int) = 0) := by
  have hd : r.In.headD [] = y := by
   cases hI : r.In with
   | nil => exact absurd hI hin
   | cons y' q => rw [hI] at hy; simpa using hy
  unfold wl
  rw [hd, bg, bg]
 rw [hv]
 by_cases h1 : kind = 1
 ·subst h1
  repeat' (first|refine ae ?_|refine a6 ?_|refine ar ?_|refine aq ?_|refine a8 ?_|refine aa ?_|refine ah a7 rfl rfl ?_|refine b9 ?_|refine bK rfl ?_)
  refine bF 8 [(0, .v), (1, .v), (2, .v), (3, .v), (4, .v), (5, .v), (6, .v), (7, .v)] none ?_ trivial rfl (by kernel_rfl) (by kernel_rfl) (by kernel_rfl) mixed (by kernel_rfl) rfl
  repeat' (first|refine aM ?_|refine bD a7 ?_|(apply dk;refine dT a7 ?_)|fail)
  refine bM [11, 16] rfl rfl ?_
  repeat' (first|refine am ?_|refine a8 ?_|refine aw ?_|refine aK ?_|refine aa ?_|refine ah a7 rfl rfl ?_)
  exact au rfl rfl rfl
 by_cases h5 : kind = 5
 ·subst h5
  repeat' (first|refine ae ?_|refine a6 ?_|refine ar ?_|refine a8 ?_|refine aa ?_|refine ah a7 rfl rfl ?_|refine b9 ?_|refine bK rfl ?_|refine bi rfl ?_)
  refine bF 8 [(0, .v), (1, .v), (2, .v), (3, .v), (4, .v), (5, .v), (6, .v), (7, .v)] none ?_ trivial rfl (by kernel_rfl) (by kernel_rfl) (by kernel_rfl) mixed (by kernel_rfl) rfl
  repeat' (first|refine aM ?_|refine bD a7 ?_|(apply dk;refine dT a7 ?_)|fail)
  refine bM [11, 16] rfl rfl ?_
  repeat' (first|refine am ?_|refine a8 ?_|refine aw ?_|refine aK ?_|refine aa ?_|refine ah a7 rfl rfl ?_)
  exact au rfl rfl rfl
 rw [if_neg (by omega)]
 by_cases h2 : kind = 2
 ·subst h2
  repeat' (first|refine ae ?_|refine a6 ?_|refine ar ?_|refine am ?_|refine a8 ?_|refine aw ?_|refine aK ?_|refine aa ?_|refine ah a7 rfl rfl ?_|refine b9 ?_|refine bK rfl ?_|refine bi rfl ?_)
  exact au rfl rfl rfl
 rw [if_neg h2]
 by_cases h3 : kind = 3
 ·subst h3
  repeat' (first|refine ae ?_|refine a6 ?_|refine ar ?_|refine am ?_|refine a8 ?_|refine aw ?_|refine aK ?_|refine aa ?_|refine ah a7 rfl rfl ?_|refine b9 ?_|refine bK rfl ?_|refine bi rfl ?_)
  exact au rfl rfl rfl
 rw [if_neg h3]
 repeat' (first|refine ae ?_|refine a6 ?_|refine ar ?_|refine a8 ?_|refine aa ?_|refine ah a7 rfl rfl ?_|refine b9 ?_|fail)
 refine ay rfl (fun h => absurd (Hz h) h1) (fun h => ?_)
 repeat' (first|refine a6 ?_|refine a8 ?_|refine aa ?_|refine ah a7 rfl rfl ?_)
 refine ay rfl (fun h => absurd (Hz h) h5) (fun h => ?_)
 rw [decide_eq_false h5]
 repeat' (first|refine ae ?_|refine a6 ?_|refine a8 ?_|refine aa ?_|refine ah a7 rfl rfl ?_)
 refine ay rfl (fun h => absurd (Hz h) h2) (fun h => ?_)
 repeat' (first|refine ae ?_|refine a6 ?_|refine a8 ?_|refine aa ?_|refine ah a7 rfl rfl ?_)
 refine ay rfl (fun h => absurd (Hz h) h3) (fun h => ?_)
 repeat' (first|refine ae ?_|refine a6 ?_|refine aq ?_|refine am ?_|refine a8 ?_|refine aR ?_|refine aa ?_|refine ah a7 rfl rfl ?_)
 exact au rfl rfl rfl
def qa (f : aP) (n : Int) : Int := match f.Lookups[n.toNat]? with | some l => l.Kind | none => 0
def un (f : aP) (r : bn) (_ : Nat) (c : jw) : Int := if c.At < 0 ∨ c.At ≥ r.In.length then 40 else if c.Lookup < 0 ∨ c.Lookup ≥ f.Lookups.length then 42 else dp (decide (qa f c.Lookup < 1 ∨ qa f c.Lookup > 4)) 42
set_option maxHeartbeats 1000000 in
theorem xG (f : aP) (r : bn) (i : Nat) (c : jw) : bw Tryz.prog 319 [aD i, .agg (gz c), .iptr (bL r), .iptr (bH f)] (aD (un f r i c)) := by
 refine aG Tryz.func319 rfl Tryz.ntmps319 rfl fun B => ?_
 unfold un
 have hI := c8 r.In
 have hL : (f.Lookups.map bo).length = f.Lookups.length := Hv ..
 rw [← hI]
 repeat' (first|refine ae ?_|refine a6 ?_|refine ar ?_|refine a8 ?_|refine aa ?_|refine ah a7 rfl rfl ?_|refine b9 ?_|fail)
 refine co [3, 5] (c.At < 0 ∨ c.At ≥ ((ba r.In).length : Int)) rfl (fun Q' K => ?_) (fun hC => ?_) (fun hC => ?_)
 ·repeat' (first|refine aa ?_|refine ah a7 rfl rfl ?_|refine aB rfl rfl ?_|refine aE rfl rfl rfl rfl ?_|refine aU rfl rfl rfl (fun _ => ?_) (fun _ => ?_))
  all_goals exact K _ _ rfl rfl (by clear K; grind)
 ·rw [if_pos hC]
  repeat' (first|refine ae ?_|refine a6 ?_|refine am ?_|refine a8 ?_|refine aw ?_|refine aK ?_|refine aa ?_|refine ah a7 rfl rfl ?_)
  exact au rfl rfl rfl
 rw [if_neg hC]
 repeat' (first|refine ae ?_|refine a6 ?_|refine ah a7 rfl rfl ?_)
 refine co [3, 5] (c.Lookup < 0 ∨ c.Lookup ≥ f.Lookups.length) rfl (fun Q' K => ?_) (fun hC => ?_) (fun hC => ?_)
 ·repeat' (first|refine aa ?_|refine ah a7 rfl rfl ?_|refine aB rfl rfl ?_|refine aE rfl rfl rfl rfl ?_|refine aU rfl rfl rfl (fun _ => ?_) (fun _ => ?_))
  all_goals exact K _ _ rfl rfl (by clear K; grind)
 ·rw [if_pos hC]
  repeat' (first|refine ae ?_|refine a6 ?_|refine am ?_|refine a8 ?_|refine aw ?_|refine aK ?_|refine aa ?_|refine ah a7 rfl rfl ?_)
  exact au rfl rfl rfl
 rw [if_neg hC]
 obtain ⟨l, hl⟩ : ∃ l, f.Lookups[c.Lookup.toNat]? = some l := ⟨_, Eg (by omega)⟩
 have hlg := bO (c := bo) hl
 have hk : qa f c.Lookup = l.Kind := by unfold qa; rw [hl]
 rw [hk]
 repeat' (first|refine ae ?_|refine a6 ?_|refine aq ?_|refine a8 ?_|refine aR ?_|refine aa ?_|refine ah a7 rfl rfl ?_|(apply aO; first|refine aN a7 ?_|refine aH a7 ?_)|fail)
 by_cases h1 : l.Kind < 1
 ·rw [decide_eq_true h1, decide_eq_true (Or.inl h1)]
  repeat' (first|refine am ?_|refine a8 ?_|refine aa ?_|refine ah a7 rfl rfl ?_|refine aE rfl rfl rfl rfl ?_|(apply bc;refine aX ?_)|fail)
  exact au rfl rfl rfl
 ·rw [decide_eq_false h1, show decide (l.Kind < 1 ∨ l.Kind > 4) = decide (4 < l.Kind) from decide_eq_decide.2 ⟨fun h => h.resolve_left h1, Or.inr⟩]
  repeat' (first|refine am ?_|refine a8 ?_|refine aa ?_|refine ah a7 rfl rfl ?_|refine aB rfl rfl ?_|(apply bc;refine aX ?_)|fail)
  exact au rfl rfl rfl
def lr (f : aP) (kind : Int) (r : bn) : Int := if (r.Calls.length : Int) > 6 then 2 else if (r.Calls.length : Int) > 0 ∧ kind ≠ 4 then 40 else (cD r.Calls (un f r)).1
set_option maxHeartbeats 1000000 in
theorem vx (f : aP) (kind : Int) (r : bn) : bw Tryz.prog 270 [cf f, aD kind, .agg (bL r)] (aD (lr f kind r)) := by
 refine aG Tryz.func270 rfl Tryz.ntmps270 rfl fun B => ?_
 unfold lr
 have hL : (r.Calls.map gz).length = r.Calls.length := Hv ..
 rw [← hL]
 repeat' (first|refine ae ?_|refine a6 ?_|refine ar ?_|refine a8 ?_|refine aa ?_|refine ah a7 rfl rfl ?_|refine b9 ?_|fail)
 refine ay rfl (fun h => ?_) (fun h => ?_)
 ·rw [if_pos (Hz h)]
  repeat' (first|refine ae ?_|refine a6 ?_|refine am ?_|refine a8 ?_|refine aw ?_|refine aK ?_|refine aa ?_|refine ah a7 rfl rfl ?_)
  exact au rfl rfl rfl
 rw [if_neg (Hy h)]
 repeat' (first|refine ae ?_|refine a6 ?_|refine ah a7 rfl rfl ?_)
 refine co [3, 5] (((r.Calls.map gz).length : Int) > 0 ∧ kind ≠ 4) rfl (fun Q' K => ?_) (fun hC => ?_) (fun hC => ?_)
 ·repeat' (first|refine aa ?_|refine ah a7 rfl rfl ?_|refine aB rfl rfl ?_|refine aE rfl rfl rfl rfl ?_|refine aU rfl rfl rfl (fun _ => ?_) (fun _ => ?_))
  all_goals exact K _ _ rfl rfl (by clear K; grind)
 ·rw [if_pos hC]
  repeat' (first|refine ae ?_|refine a6 ?_|refine am ?_|refine a8 ?_|refine aw ?_|refine aK ?_|refine aa ?_|refine ah a7 rfl rfl ?_)
  exact au rfl rfl rfl
 rw [if_neg hC]
 repeat' (first|refine ae ?_|refine a6 ?_|refine aq ?_|refine a8 ?_|refine aR ?_|refine ah a7 rfl rfl ?_)
 refine aV [] [] (AS (u := .fn 319 [.iptr (bL r), .iptr (bH f)]) (g := 319) rfl r.Calls _ (fun _ _ => True) [] trivial (cF (fun i x _ => xG f r i x))) rfl rfl (Hp _) rfl fun c L1 hc => ?_
 have hc : c = bX (cD r.Calls (un f r)) := hc
 subst hc
 unfold bX
 repeat' (first|refine ae ?_|refine a6 ?_|refine am ?_|refine a8 ?_|refine aa ?_|refine ah a7 rfl rfl ?_)
 exact au rfl rfl rfl
instance (f : aP) (kind : Int) (r : bn) : AD Tryz.prog 270 [cf f, aD kind, .agg (bL r)] (aD (lr f kind r)) := ⟨vx f kind r⟩
end Go.Proofs.YtamjlkdanllgjaaGreatDoor
