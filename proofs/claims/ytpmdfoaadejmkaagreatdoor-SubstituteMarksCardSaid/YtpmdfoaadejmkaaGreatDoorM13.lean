/-
  Pointers and nil; places in a table that is a block; an empty row that is written; numbers that may go over.
-/
import Derived.Test.YtpmdfoaadejmkaaGreatDoorM12
import Derived.Laws.Pointers
import Derived.Laws.BitsAllLaws
import Derived.Test.YtpmdfoaadejmkaaGreatDoorRows
import Derived.WalkKit
import Derived.ProofKit
import Derived.OpenShut
import Derived.ChangeOld
import Derived.SizedLaws
import Derived.Deep.DeepHandedRow
import Derived.Lib.LaidTab
import Derived.Test.YtpmdfoaadejmkaaGreatDoorM05
import Derived.Test.YtpmdfoaadejmkaaGreatDoorM06
import Derived.Test.YtpmdfoaadejmkaaGreatDoorM04
import Derived.Test.YtpmdfoaadejmkaaGreatDoorM09
namespace Go.Proofs.YtpmdfoaadejmkaaGreatDoor
open Go.RowKit
def uX : AV → Option Bool
 | .iptr _ => some false
 | .sc (.pointer none) => some true
 | .sc (.pointer (some _)) => some false
 | _ => none
theorem oD {u : AV} {b : Bool} (h : uX u = some b) {σ : bK} {v : Value} (hv : VR σ u v) : ∃ p, v = .pointer p ∧ p.isNone = b := by
 unfold uX at h
 split at h
 ·cases h
  obtain ⟨b', off, h1, _⟩ := hv.iptr_inv
  exact ⟨_, h1, rfl⟩
 ·cases h
  exact ⟨none, hv.sc_inv, rfl⟩
 ·cases h
  exact ⟨_, hv.sc_inv, rfl⟩
 ·cases h
section
variable {P : Program} {fr : bw} {B : Bs} {L : AL} {d : Option Tmp} {ty t t' : TypeId} {pos : String} {af : Array Edge} {g : Option (Nat × Bool)} {x y z q : Operand} {u : AV}
theorem ng {e : TypeId} (h : P.underlying t = some (.pointer e)) : P.underlying t = some (.pointer (P.pointee t)) := by
 rw [show P.pointee t = e by simp [Program.pointee, h]]; exact h
theorem Ai {e : TypeId} {b : Bool} (ht : P.underlying t = some (.pointer e)) (hx : aX fr x = some u) (hu : uX u = some b) (hy : aX fr y = some (.sc (.pointer none))) : Av P ⟨d, .binOp .eql t x y t', ty, pos, af, g⟩ fr (.sc (.bool b)) := fun σ ρ w hρ _ => by
 obtain ⟨p, hp, hb⟩ := oD hu (hρ x u hx)
 refine ⟨_, ?_, .sc _⟩
 subst hb
 simp [execOp, hp, (hρ y _ hy).sc_inv, eqGuard, run_eql_pointer_nil w t p (ng ht)]
theorem Ap {e : TypeId} {b : Bool} (ht : P.underlying t = some (.pointer e)) (hx : aX fr x = some u) (hu : uX u = some b) (hy : aX fr y = some (.sc (.pointer none))) : Av P ⟨d, .binOp .neq t x y t', ty, pos, af, g⟩ fr (.sc (.bool (!b))) := fun σ ρ w hρ _ => by
 obtain ⟨p, hp, hb⟩ := oD hu (hρ x u hx)
 refine ⟨_, ?_, .sc _⟩
 subst hb
 simp [execOp, hp, (hρ y _ hy).sc_inv, eqGuard, run_neq_pointer_nil w t p (ng ht)]
theorem A9 {n e sz k b off : Nat} {qq : IntKind} {a : Int} (ht : P.underlying t = some (.array n e)) (hs : (P.info? e).map (·.size) = some sz) (hx : aX fr x = some (.sc (.pointer (some ⟨b, off, none⟩)))) (hy : aX fr y = some (.sc (.int qq a))) (ha : a = (k : Int)) (hk : k < n) : Av P ⟨d, .indexAddr t x y, ty, pos, af, g⟩ fr (.sc (.pointer (some ⟨b, off + k * sz, none⟩))) :=
 fun σ ρ w hρ _ => by
  subst ha
  have hyv := (hρ y _ hy).sc_inv
  have hv := (hρ x _ hx).sc_inv
  have hk' : (k : Int) < (n : Int) := by omega
  have hso : (sizeOf e : Sem Nat).run P w = .ok sz w := by
   cases hi : P.info? e with
   | none => rw [hi] at hs; cases hs
   | some i => rw [hi] at hs; simp at hs; simp [sizeOf, typeInfo, hi, hs]
  refine ⟨.pointer (some ⟨b, off + k * sz, none⟩), ?_, .sc _⟩
  simp [execOp, hv, hyv, Instr.indexAt, asIntOf, run_underlying ht, hk', hso, Instr.sureAddr, Addr.add]
  by_cases hn : n ≤ 1 <;> by_cases h0 : k * sz = 0 <;> simp [hn, run_underlying ht, hso, hk, h0]
theorem y5 {e sz by_ : Nat} {parts : Array (Nat × Operand)} (hc : jf P t e sz by_) (hsz : 0 < sz) (hp : parts = #[]) : AO P ⟨d, .buildSlice t 0 parts, ty, pos, af, g⟩ fr B L (fun c L' => ∃ b, c = .sc (.slice (some ⟨b, 0, none⟩) 0 0) ∧ L' = (b, .box [] e) :: L) := by
 intro σ ρ w hρ hw
 subst hp
 haveI := hc
 have hr := xq (P := P) (t := t) (by simpa [Nat.blt_eq] using hsz) [] (by simp) (by simp [Nat.ble_eq]) w
 simp at hr
 unfold fw
 rw [show (execOp ρ ⟨d, .buildSlice t 0 #[], ty, pos, af, g⟩).run P w = .ok (.value (.slice (some ⟨w.heap.size, 0, none⟩) 0 0)) (w.alloc (.cells #[] e)) by
  simp [execOp, hr]]
 exact ⟨σ, .sc _, _, bK.le_refl _, .sc _, hw.alloc _ (.box [] e) ⟨[], rfl, cG.nil, by simp⟩, _, rfl, rfl⟩
end
section
variable {P : Program} {tt : TT} {r : Option Nat} {ops : Array Oper} {Q : Exit → Act → World → Prop} {nt : Nat} {D : List Deferred} {fr : bw} {B : Bs} {L : AL} {rest : List Oper} {d : Nat} {ty t t' : TypeId} {pos : String} {af : Array Edge} {x y z : Operand} {u : AV}
theorem n7 {e : TypeId} {b : Bool} (ht : P.underlying t = some (.pointer e)) (hx : aX fr x = some u) (hu : uX u = some b) (hy : aX fr y = some (.sc (.pointer none))) (hd : Nat.ble nt d = false) (h : bh P r ops Q nt D rest ((d, .sc (.bool b)) :: fr) B L) : bh P r ops Q nt D (⟨some d, .binOp .eql t x y t', ty, pos, af, none⟩ :: rest) fr B L := bO (Ai ht hx hu hy) hd rfl h
theorem pq {e : TypeId} {b : Bool} (ht : P.underlying t = some (.pointer e)) (hx : aX fr x = some u) (hu : uX u = some b) (hy : aX fr y = some (.sc (.pointer none))) (hd : Nat.ble nt d = false) (h : bh P r ops Q nt D rest ((d, .sc (.bool (!b))) :: fr) B L) : bh P r ops Q nt D (⟨some d, .binOp .neq t x y t', ty, pos, af, none⟩ :: rest) fr B L := bO (Ap ht hx hu hy) hd rfl h
theorem so (ok : dl P tt) (k : Nat) {n e sz b off : Nat} {q : IntKind} {a : Int} (ht : vR tt t = some (n, e, sz)) (hx : aX fr x = some (.sc (.pointer (some ⟨b, off, none⟩)))) (hy : aX fr y = some (.sc (.int q a))) (ha : a = (k : Int)) (hk : k < n) (hd : Nat.ble nt d = false) (h : bh P r ops Q nt D rest ((d, .sc (.pointer (some ⟨b, off + k * sz, none⟩))) :: fr) B L) :
  bh P r ops Q nt D (⟨some d, .indexAddr t x y, ty, pos, af, none⟩ :: rest) fr B L := bO (A9 (gh ok ht).1 (gh ok ht).2 hx hy ha hk) hd rfl h
theorem B6 (ok : dl P tt) {e sz by_ : Nat} (ht : iJ tt t = some (e, sz, by_)) (hd : Nat.ble nt d = false) (h : ∀ b, bh P r ops Q nt D rest ((d, .sc (.slice (some ⟨b, 0, none⟩) 0 0)) :: fr) B ((b, .box [] e) :: L)) :
  bh P r ops Q nt D (⟨some d, .buildSlice t 0 #[], ty, pos, af, none⟩ :: rest) fr B L := c6 hd rfl (y5 (b9 ok ht).1 (b9 ok ht).2 rfl) fun c L' ⟨b, h1, h2⟩ => by subst h1; subst h2; exact h b
theorem B7 {k : IntKind} {a b : Int} (hx : aX fr x = some (.sc (.int k a))) (hy : aX fr y = some (.sc (.int k b))) (hd : Nat.ble nt d = false) (h : bh P r ops Q nt D rest ((d, .sc (.int k (k.wrap (a * b)))) :: fr) B L) : bh P r ops Q nt D (⟨some d, .binOp .mul t x y t', ty, pos, af, none⟩ :: rest) fr B L := bO (zL hx hy) hd rfl h
theorem B8 {k : IntKind} {a : Int} (hx : aX fr x = some (.sc (.int k a))) (hd : Nat.ble nt d = false) (h : bh P r ops Q nt D rest ((d, .sc (.int k (k.wrap (0 - a)))) :: fr) B L) : bh P r ops Q nt D (⟨some d, .unOp .neg t x, ty, pos, af, none⟩ :: rest) fr B L := bO (BF hx) hd rfl h
theorem gT (ok : dl P tt) {a : Int} {q q' : IntKind} {ti ti' : TI} (hx : aX fr x = some (.sc (.int q a))) (ht : cI tt t = some ti) (hk : ti.k = .int q) (ht' : cI tt t' = some ti') (hk' : ti'.k = .int q') (hd : Nat.ble nt d = false) (h : bh P r ops Q nt D rest ((d, .sc (.int q' (q'.wrap a))) :: fr) B L) :
  bh P r ops Q nt D (⟨some d, .convert t t' x, ty, pos, af, none⟩ :: rest) fr B L := by
 haveI := ok.int ht hk
 haveI := ok.int ht' hk'
 exact bO (u0 hx) hd rfl h
end
end Go.Proofs.YtpmdfoaadejmkaaGreatDoor
namespace Go.Proofs.YtpmdfoaadejmkaaGreatDoor
open Go.RowKit
attribute [local irreducible] AT bh AX AO Av Kt b6 di DA cC
abbrev Bw (cls : List Int) (tab : List (List Int)) (ends : List Nat) : AV := .agg [.imm 1 (aT cls), .imm 1 (b8 tab), .imm 1 (eJ ends)]
theorem kE (l : List Nat) : (eJ l).length = l.length := by simp [eJ]
theorem rk {l : List Nat} {i : Nat} {z : Nat} (h : l[i]? = some z) : (eJ l)[i]? = some [gg z] := by simp [eJ, h]
section
variable (cls : List Int) (tab : List (List Int)) (ends : List Nat)
theorem w4 (s : Int) : bn Tryz.prog 301 [Bw cls tab ends, aA s] (gg (fU ends s)) := by
 refine aC Tryz.func301 rfl Tryz.ntmps301 rfl fun B => ?_
 have hel := kE ends
 repeat' (first|refine a9 ?_|refine a4 ?_|refine a6 ?_|refine a7 ?_|refine a8 a5 rfl rfl ?_|refine aZ ?_|fail)
 refine bH [1, 2] (s < 0 ∨ (ends.length : Int) ≤ s) rfl (fun Q' K => ?_) (fun hC => ?_) (fun hC => ?_)
 ·repeat' (first|refine a7 ?_|refine a8 a5 rfl rfl ?_|refine am rfl rfl ?_|refine ax rfl rfl rfl rfl ?_|refine aI rfl rfl rfl (fun _ => ?_) (fun _ => ?_))
  all_goals exact K _ _ rfl rfl (by simp_all <;> omega)
 ·repeat' (first|refine a9 ?_|refine a4 ?_|refine ah ?_|refine a6 ?_|refine aq ?_|refine a7 ?_|refine a8 a5 rfl rfl ?_)
  refine an rfl rfl ?_
  unfold fU
  rcases hC with h | h
  ·rw [if_pos h]; rfl
  ·by_cases h0 : s < 0
   ·rw [if_pos h0]; rfl
   ·rw [if_neg h0, List.getD_eq_getElem?_getD, List.getElem?_eq_none (by omega)]; rfl
 ·obtain ⟨z, hz⟩ : ∃ z, ends[s.toNat]? = some z := ⟨_, Bn (by omega)⟩
  have hzg := rk hz
  repeat' (first|refine a9 ?_|refine a4 ?_|refine ai ?_|refine ah ?_|refine a6 ?_|refine a7 ?_|refine a8 a5 rfl rfl ?_|(apply aF; first|refine aE a5 ?_|refine aB a5 ?_)|fail)
  refine an rfl rfl ?_
  unfold fU
  rw [if_neg (fun h => hC (.inl h)), List.getD_eq_getElem?_getD, hz]
  rfl
instance (s : Int) : AD Tryz.prog 301 [Bw cls tab ends, aA s] (gg (fU ends s)) := ⟨w4 cls tab ends s⟩
theorem x8 (s g : Int) : bn Tryz.prog 302 [Bw cls tab ends, aA s, aA g] (aA (fh cls tab s g)) := by
 refine aC Tryz.func302 rfl Tryz.ntmps302 rfl fun B => ?_
 have hcl := aW cls
 have htl := bS tab
 repeat' (first|refine a9 ?_|refine a4 ?_|refine a6 ?_|refine a7 ?_|refine a8 a5 rfl rfl ?_|refine aZ ?_|fail)
 refine bH [1, 2, 3] ((s < 0 ∨ (tab.length : Int) ≤ s) ∨ (g < 0 ∨ (cls.length : Int) ≤ g)) rfl (fun Q' K => ?_) (fun hC => ?_) (fun hC => ?_)
 ·repeat' (first|refine a7 ?_|refine a8 a5 rfl rfl ?_|refine am rfl rfl ?_|refine ax rfl rfl rfl rfl ?_|refine aI rfl rfl rfl (fun _ => ?_) (fun _ => ?_))
  all_goals exact K _ _ rfl rfl (by simp_all <;> omega)
 ·repeat' (first|refine a9 ?_|refine a4 ?_|refine ah ?_|refine a6 ?_|refine aq ?_|refine a7 ?_|refine a8 a5 rfl rfl ?_)
  refine an rfl rfl ?_
  unfold fh
  by_cases h0 : s < 0 ∨ g < 0
  ·rw [if_pos h0]
  ·rw [if_neg h0]
   split
   ·rename_i h1 h2
    have := (Dp h1).1
    have := (Dp h2).1
    omega
   ·rfl
 ·obtain ⟨dr, hrow⟩ : ∃ z, tab[s.toNat]? = some z := ⟨_, Bn (by omega)⟩
  obtain ⟨c, hc⟩ : ∃ z, cls[g.toNat]? = some z := ⟨_, Bn (by omega)⟩
  have hrg := fu hrow
  have hcg := bJ hc
  have hrl := aW dr
  have hN : fh cls tab s g = if c < 0 then -1 else match dr[c.toNat]? with
   | some z => if 0 ≤ z ∧ z < tab.length then z else -1
   | none => -1 := by
   unfold fh
   rw [if_neg (by omega), hrow, hc]
   rfl
  rw [hN]
  repeat' (first|refine a9 ?_|refine ai ?_|refine a6 ?_)
  refine bk 11 [(0, .v), (1, .v), (2, .v), (3, .v), (4, .v), (5, .v), (6, .v), (7, .v), (8, .v), (9, .v), (10, .v)] none ?_ trivial rfl (by kernel_rfl) (by kernel_rfl) (by kernel_rfl) c9 (by kernel_rfl) rfl
  repeat' (first|refine aD ?_|refine bi a5 ?_|(apply cD;refine d3 a5 ?_)|fail)
  refine bz [3, 7, 39] rfl rfl ?_
  repeat' (first|refine a9 ?_|refine a4 ?_|refine a6 ?_|refine a7 ?_|refine a8 a5 rfl rfl ?_)
  refine bH [3, 7, 8] (c < 0 ∨ (dr.length : Int) ≤ c) rfl (fun Q' K => ?_) (fun hC2 => ?_) (fun hC2 => ?_)
  ·repeat' (first|refine a7 ?_|refine a8 a5 rfl rfl ?_|refine am rfl rfl ?_|refine ax rfl rfl rfl rfl ?_|refine aI rfl rfl rfl (fun _ => ?_) (fun _ => ?_))
   all_goals exact K _ _ rfl rfl (by simp_all <;> omega)
  ·repeat' (first|refine a9 ?_|refine a4 ?_|refine ah ?_|refine a6 ?_|refine aq ?_|refine a7 ?_|refine a8 a5 rfl rfl ?_)
   refine an rfl rfl ?_
   by_cases h0 : c < 0
   ·rw [if_pos h0]
   ·rw [if_neg h0, List.getElem?_eq_none (by omega)]
  ·obtain ⟨z, hz⟩ : ∃ z, dr[c.toNat]? = some z := ⟨_, Bn (by omega)⟩
   have hzg := bJ hz
   rw [if_neg (fun h => hC2 (.inl h)), hz]
   dsimp only
   repeat' (first|refine a9 ?_|refine a4 ?_|refine ai ?_|refine a6 ?_|refine a7 ?_|refine a8 a5 rfl rfl ?_|(apply aF; first|refine aE a5 ?_|refine aB a5 ?_)|fail)
   refine bH [9] (0 ≤ z ∧ z < tab.length) rfl (fun Q' K => ?_) (fun hC3 => ?_) (fun hC3 => ?_)
   ·repeat' (first|refine a7 ?_|refine a8 a5 rfl rfl ?_|refine am rfl rfl ?_|refine ax rfl rfl rfl rfl ?_|refine aI rfl rfl rfl (fun _ => ?_) (fun _ => ?_))
    all_goals exact K _ _ rfl rfl (by simp_all <;> omega)
   ·rw [if_pos hC3]
    repeat' (first|refine a9 ?_|refine a4 ?_|refine ah ?_|refine a6 ?_|refine aq ?_|refine a7 ?_|refine a8 a5 rfl rfl ?_)
    exact an rfl rfl rfl
   ·rw [if_neg hC3]
    repeat' (first|refine a9 ?_|refine a4 ?_|refine ai ?_|refine ah ?_|refine a6 ?_|refine a7 ?_|refine a8 a5 rfl rfl ?_)
    exact an rfl rfl rfl
instance (s g : Int) : AD Tryz.prog 302 [Bw cls tab ends, aA s, aA g] (aA (fh cls tab s g)) := ⟨x8 cls tab ends s g⟩
theorem io {ends : List Nat} (h : ∀ z ∈ ends, z < 18446744073709551616) (s : Int) : fU ends s < 18446744073709551616 := by
 unfold fU
 split
 ·decide
 ·rw [List.getD_eq_getElem?_getD]
  cases hz : ends[s.toNat]? with
  | none => decide
  | some z => exact h z (Dw hz)
theorem xa {a b : Nat} (ha : a < 18446744073709551616) (hb : b < 18446744073709551616) : a ||| b < 18446744073709551616 := Nat.or_lt_two_pow (n := 64) ha hb
theorem qW {cls : List Int} {tab : List (List Int)} {ends : List Nat} (h : ∀ z ∈ ends, z < 18446744073709551616) : ∀ (gl : List Int) (s : Int) (told : Nat), told < 18446744073709551616 → jk cls tab ends s gl told < 18446744073709551616
 | [], _, _, ht => ht
 | g :: r, s, told, ht => by
  rw [jk]
  split
  ·exact ht
  ·exact qW h r _ _ (xa ht (io h _))
theorem qX (h : ∀ z ∈ ends, z < 18446744073709551616) (gl : List Int) : eh cls tab ends gl < 18446744073709551616 := qW h gl 0 _ (io h _)
theorem qY (hE : ∀ z ∈ ends, z < 18446744073709551616) (gl : List Int) : bn Tryz.prog 286 [Bw cls tab ends, .imm 1 (aT gl)] (gg (eh cls tab ends gl)) := by
 refine aC Tryz.func286 rfl Tryz.ntmps286 rfl fun B => ?_
 have hgl := aW gl
 refine ci 1 rfl rfl fun hlen => ?_
 repeat' (first|refine a9 ?_|refine a4 ?_|refine ak ?_|refine a6 ?_|refine a7 ?_|refine a8 a5 rfl rfl ?_|refine aZ ?_|(apply bc;refine b7 ?_)|fail)
 refine aL [2, 12, 13] (α := Nat × Int × Nat) (fun x => [(14, aA x.1), (5, aA x.2.1), (6, gg x.2.2)]) (fun x => x.1 ≤ gl.length ∧ x.2.2 < 18446744073709551616 ∧ jk cls tab ends x.2.1 (gl.drop x.1) x.2.2 = eh cls tab ends gl) (fun _ => []) (fun x => gl.length - x.1) (0, 0, fU ends 0) rfl ⟨rfl, rfl, rfl, trivial⟩ ⟨Nat.zero_le _, io hE 0, rfl⟩ (fun _ _ h => h) ?_
 rintro ⟨i, s, told⟩ ⟨hi, ht, hr⟩
 dsimp only at hi ht hr ⊢
 try dsimp only [Ds, Dr, Dq, Dn]
 repeat' (first|refine a9 ?_|refine a4 ?_|refine a6 ?_|refine a7 ?_|refine a8 a5 rfl rfl ?_)
 refine ar rfl (fun h => ?_) (fun h => ?_)
 ·have hil : i < gl.length := by have := Dz h; omega
  obtain ⟨z, hz⟩ : ∃ z, gl[i]? = some z := ⟨_, Bn hil⟩
  have hzg := bJ hz
  have hd : gl.drop i = z :: gl.drop (i + 1) := by
   rw [List.drop_eq_getElem_cons hil, (Dp hz).2]
  rw [hd, jk] at hr
  clear h
  repeat' (first|refine a9 ?_|refine a4 ?_|refine ak ?_|refine ai ?_|refine a6 ?_|refine a7 ?_|refine a8 a5 rfl rfl ?_|(apply aF; first|refine aE a5 ?_|refine aB a5 ?_)|(apply bc;refine b7 ?_)|fail)
  refine ar rfl (fun h => ?_) (fun h => ?_)
  ·have h2 : fh cls tab s z = -1 := Dz h
   rw [if_pos h2] at hr
   repeat' (first|refine a9 ?_|refine a4 ?_|refine ah ?_|refine aM ?_|refine a6 ?_|refine au ?_|refine aw ?_|refine cZ rfl ?_|refine av ?_|refine a7 ?_|refine a8 a5 rfl rfl ?_)
   refine an rfl rfl ?_
   rw [hr]
  ·have h2 : ¬ fh cls tab s z = -1 := Dy h
   rw [if_neg h2] at hr
   repeat' (first|refine a4 ?_|refine ai ?_|refine a6 ?_|refine a8 a5 rfl rfl ?_|(apply bc;refine b7 ?_)|fail)
   refine pk rfl rfl rfl ?_
   rw [u64_or_nat _ _ ht (io hE _)]
   repeat' (first|refine a4 ?_|refine a6 ?_|refine aH ?_|refine a7 ?_|refine a8 a5 rfl rfl ?_|(apply aU; refine aS ?_)|fail)
   exact az (i + 1, fh cls tab s z, told ||| fU ends (fh cls tab s z)) rfl ⟨by rw [Dv]; rfl, rfl, rfl, trivial⟩ ⟨hil, xa ht (io hE _), hr⟩ (by dsimp only; omega) (fun _ _ h => h)
 ·have hil : i = gl.length := by have := Dy h; omega
  subst hil
  rw [List.drop_length, jk] at hr
  repeat' (first|refine a9 ?_|refine a4 ?_|refine ah ?_|refine aM ?_|refine a6 ?_|refine au ?_|refine aw ?_|refine av ?_|refine a7 ?_|refine a8 a5 rfl rfl ?_)
  refine an rfl rfl ?_
  rw [hr]
end
abbrev vz (e : m9) : AV := .agg (BL e)
structure oQ (e : m9) : Prop where
 fore : ∀ z ∈ e.foreE, z < 18446744073709551616
 back : ∀ z ∈ e.backE, z < 18446744073709551616
theorem wB (e : m9) (h : oQ e) (gl : List Int) : bn Tryz.prog 257 [vz e, .imm 1 (aT gl)] (gg (eh e.cls e.fore e.foreE gl)) := by
 refine aC Tryz.func257 rfl Tryz.ntmps257 rfl fun B => ?_
 haveI := AD.mk (qY e.cls e.fore e.foreE h.fore gl)
 repeat' (first|refine a9 ?_|refine a4 ?_|refine ah ?_|refine a6 ?_|refine a7 ?_|refine a8 a5 rfl rfl ?_|refine aZ ?_|(apply bc;refine b7 ?_)|fail)
 exact an rfl rfl rfl
theorem vZ (e : m9) (h : oQ e) (gl : List Int) : bn Tryz.prog 256 [vz e, .imm 1 (aT gl)] (gg (eh e.cls e.back e.backE gl)) := by
 refine aC Tryz.func256 rfl Tryz.ntmps256 rfl fun B => ?_
 haveI := AD.mk (qY e.cls e.back e.backE h.back gl)
 repeat' (first|refine a9 ?_|refine a4 ?_|refine ah ?_|refine a6 ?_|refine a7 ?_|refine a8 a5 rfl rfl ?_|refine aZ ?_|(apply bc;refine b7 ?_)|fail)
 exact an rfl rfl rfl
def je : List Int := [0, 1, 56, 2, 57, 49, 28, 3, 61, 58, 42, 50, 38, 29, 17, 4, 62, 47, 59, 36, 45, 43, 51, 22, 53, 39, 33, 30, 24, 18, 12, 5, 63, 55, 48, 27, 60, 41, 37, 16, 46, 35, 44, 21, 52, 32, 23, 11, 54, 26, 40, 15, 34, 20, 31, 10, 25, 14, 19, 9, 13, 8, 7, 6]
def sJ : List AV := je.map fun z => .sc (.int .u8 z)
abbrev cr : Nat × AB := (0, .box sJ 364)
def Dj (x : Int) : Int := bits .and .u64 x (IntKind.u64.wrap (0 - x))
def CP (x : Int) : Int := IntKind.u64.wrap (Dj x * 285870213051353865) / 2 ^ min 58 IntKind.u64.bits
def Cq (x : Nat) : Int := je.getD (CP x).toNat 0
theorem rj : ∀ (n : Nat), n < 64 → n ≠ 0 → 0 ≤ CP (n : Nat) ∧ CP (n : Nat) < 64 := by decide +kernel
theorem xL : ∀ (n : Nat), n < 64 → ∀ (i : Nat), i < 6 → n.testBit i = true → (∀ (j : Nat), j < i → n.testBit j = false) → Cq n = (i : Nat) := by decide +kernel
theorem xG {k : Nat} (h : k < 64) : sJ[0 + k * 1]? = some (.sc (.int .u8 (je.getD k 0))) := by
 have hl : je.length = 64 := rfl
 unfold sJ
 rw [List.getElem?_map, Nat.zero_add, Nat.mul_one, Bn (by omega), List.getD_eq_getElem?_getD, Bn (by omega)]
 rfl
theorem Cf (x : Nat) (hx : x < 64) (h0 : x ≠ 0) : AC Tryz.prog 258 [gg x] [cr] fun c L => c = aA (Cq x) ∧ L = [cr] := by
 refine aC Tryz.func258 rfl Tryz.ntmps258 rfl fun B => ?_
 have hz : ¬ ((x : Int) = 0) := by omega
 obtain ⟨k, hk⟩ := Int.eq_ofNat_of_zero_le (rj x hx h0).1
 have hk64 : k < 64 := by have := (rj x hx h0).2; omega
 have hkc := xG hk64
 repeat' (first|refine a9 ?_|refine a4 ?_|refine a6 ?_|refine a7 ?_|refine a8 a5 rfl rfl ?_)
 refine ar rfl (fun h => absurd (Dz h) hz) (fun _ => ?_)
 repeat' (first|refine a9 ?_|refine a4 ?_|refine ai ?_|refine a6 ?_|refine a8 a5 rfl rfl ?_)
 refine B8 rfl rfl ?_
 refine pj rfl rfl rfl ?_
 refine B7 rfl rfl rfl ?_
 refine sr 58 rfl rfl rfl rfl ?_
 refine so a5 k rfl rfl rfl hk hk64 rfl ?_
 refine aj a5 0 rfl rfl rfl hkc rfl ?_
 refine gT a5 rfl rfl rfl rfl rfl rfl ?_
 repeat' (first|refine ah ?_|refine a6 ?_|refine a7 ?_|refine a8 a5 rfl rfl ?_)
 refine an rfl rfl ⟨?_, rfl⟩
 unfold Cq
 rw [hk, Int.toNat_natCast]
 have hb : ∀ k < 64, IntKind.i64.wrap (je.getD k 0) = je.getD k 0 := by decide
 rw [hb k hk64]
def oY (b : Nat) : Int := if b = 0 then -1 else Cq b
theorem tZ (e : m9) (h : oQ e) (bg fg : List Int) (hb : eh e.cls e.back e.backE bg &&& eh e.cls e.fore e.foreE fg < 64) : AC Tryz.prog 189 [vz e, .imm 1 (aT bg), .imm 1 (aT fg)] [cr] fun c L => c = aA (oY (eh e.cls e.back e.backE bg &&& eh e.cls e.fore e.foreE fg)) ∧ L = [cr] := by
 refine aC Tryz.func189 rfl Tryz.ntmps189 rfl fun B => ?_
 haveI := AD.mk (wB e h fg)
 haveI := AD.mk (vZ e h bg)
 have h1 := qX e.cls e.back e.backE h.back bg
 have h2 := qX e.cls e.fore e.foreE h.fore fg
 repeat' (first|refine a9 ?_|refine a4 ?_|refine a6 ?_|refine a7 ?_|refine a8 a5 rfl rfl ?_|refine aZ ?_|fail)
 refine bk 5 [(0, .v), (1, .v), (2, .v), (3, .v), (4, .v)] none ?_ trivial rfl (by kernel_rfl) (by kernel_rfl) (by kernel_rfl) c9 (by kernel_rfl) rfl
 repeat' (first|refine aD ?_|refine bi a5 ?_|(apply cL;refine df ?_)|fail)
 refine bz [10, 11, 12] rfl rfl ?_
 repeat' (first|(apply bc;refine b7 ?_)|fail)
 refine pj rfl rfl rfl ?_
 rw [u64_and_nat _ _ h1 h2]
 generalize eh e.cls e.back e.backE bg &&& eh e.cls e.fore e.foreE fg = b at hb ⊢
 repeat' (first|refine a9 ?_|refine a4 ?_|refine a6 ?_|refine a7 ?_|refine a8 a5 rfl rfl ?_)
 unfold oY
 refine ar rfl (fun h => ?_) (fun h => ?_)
 ·have hb0 : b = 0 := by have := Dz h; omega
  rw [if_pos hb0]
  repeat' (first|refine a9 ?_|refine a4 ?_|refine ah ?_|refine a6 ?_|refine aq ?_|refine a7 ?_|refine a8 a5 rfl rfl ?_)
  exact an rfl rfl ⟨rfl, rfl⟩
 ·have hb0 : b ≠ 0 := by have := Dy h; omega
  rw [if_neg hb0]
  repeat' (first|refine a9 ?_|refine a4 ?_|refine ai ?_|refine a6 ?_|refine a8 a5 rfl rfl ?_)
  refine aO [cr] [] (Cf b hb hb0) rfl rfl (Do _) rfl fun c L1 ⟨hc, hL⟩ => ?_
  subst hc; subst hL
  repeat' (first|refine ah ?_|refine a6 ?_|refine a7 ?_|refine a8 a5 rfl rfl ?_)
  exact an rfl rfl ⟨rfl, rfl⟩
end Go.Proofs.YtpmdfoaadejmkaaGreatDoor
namespace Go.Proofs.YtpmdfoaadejmkaaGreatDoor
open Go.RowKit
attribute [local irreducible] AT bh AX AO Av Kt b6 di DA cC
open Go.ChangeShapes Go.WideShapes Go.ChangeAt Go.RowKit
theorem Tryz.own : ownKnob Tryz.prog.godebug = none := by kernel_rfl
theorem Tryz.laidOut : laidOutB Tryz.prog = true := by kernel_rfl
theorem BU : Tryz.prog.globalNamed "math/bits.deBruijn64tab" = some 0 := by kernel_rfl
theorem wD : (Tryz.prog.globals[0]?).map (·.type) = some 364 := by kernel_rfl
theorem w9 : Tryz.prog.cellsOf 364 = 64 := by kernel_rfl
theorem yg : Tryz.prog.cellsOf 5 = 1 := by kernel_rfl
theorem Bk : (((begin Tryz.prog (fun _ _ => 0) default).world.heap)[0]?).bind Obj.row? = some ((List.replicate 64 (Value.int .u8 0)).toArray, 364) := by kernel_rfl
def BX : List (String × DataW Unit) := [("math/bits.deBruijn64tab", Lib.tabData .u8 je)]
theorem Ce {W : World} (hL : laidMet Tryz.prog BX W) (hS : W.ShapedOpen Tryz.prog) : W.heap[0]? = some (.cells (je.map (Value.int .u8)).toArray 364 (0, 0)) := by
 have h : Lib.TabIs Tryz.prog W "math/bits.deBruijn64tab" .u8 je := Lib.tabIs_of_head (rest := []) BU wD Tryz.underlying364 Tryz.underlying5 yg w9 hL
 obtain ⟨cs, h1, _, _⟩ := hS.1 0 _ 364 (Dz (by kernel_rfl)) Bk
 unfold Lib.TabIs World.var? at h
 rw [BU, Option.bind_some, h1] at h
 cases h
 exact h1
def wU (W : World) : bK := fun b off => if b = 0 then none else W.cell? ⟨b, off, none⟩
theorem zD {σ : bK} : cG σ sJ (je.map (Value.int .u8)) := by
 unfold sJ
 generalize je = l
 induction l with
 | nil => exact cG.nil
 | cons x l ih => exact cG.cons (.sc _) ih
theorem rl {σ : bK} {vs : List Value} (h : cG σ sJ vs) : vs = je.map (Value.int .u8) := by
 unfold sJ at h
 revert vs
 generalize je = l
 induction l with
 | nil =>
  intro vs h
  exact List.eq_nil_of_length_eq_zero h.1.symm
 | cons x l ih =>
  intro vs h
  obtain ⟨y, u, rfl, h1, h2⟩ := cG.inv h
  rw [h1.sc_inv, ih h2]
  rfl
theorem yZ {W : World} (h : W.heap[0]? = some (.cells (je.map (Value.int .u8)).toArray 364 (0, 0))) : cm ⟨W, wU W, [0]⟩ (wU W) [cr] W := by
 have h0 : 0 < W.heap.size := by
  rcases Nat.lt_or_ge 0 W.heap.size with h' | h'
  ·exact h'
  ·rw [Array.getElem?_eq_none h'] at h; cases h
 refine ⟨rfl, rfl, rfl, Nat.le_refl _, fun _ _ _ => rfl, fun p hp => ?_, fun p hp => ?_, by simp, fun b off u hu => ?_, fun p hp off _ => ?_, fun _ _ _ h => h, fun _ _ _ _ => rfl⟩
 ·rw [List.mem_singleton.1 hp]
  exact ⟨_, h, _, rfl, zD, fun u hu => by
   obtain ⟨z, _, rfl⟩ := List.mem_map.1 hu
   rfl⟩
 ·rw [List.mem_singleton.1 hp]
  exact .inr (by simp)
 ·unfold wU at hu
  split at hu
  ·cases hu
  ·exact hu
 ·rw [List.mem_singleton.1 hp]
  rfl
theorem Cg {n : Int} (h : (Lit.int .u8 n).wf = true) : 0 ≤ n ∧ n ≤ 255 := by
 unfold Lit.wf at h
 rw [Bool.and_eq_true] at h
 have h1 : IntKind.min .u8 ≤ n := Dz h.1
 have h2 : n ≤ IntKind.max .u8 := Dz h.2
 have e1 : IntKind.min .u8 = 0 := by decide
 have e2 : IntKind.max .u8 = 255 := by decide
 omega
theorem vi {f : FuncId} {args : List AV} {u : Value} (h : AC Tryz.prog f args [cr] fun c L => c = .sc u ∧ L = [cr]) (W : World) (hT : W.heap[0]? = some (.cells (je.map (Value.int .u8)).toArray 364 (0, 0))) (vs : List Value) (hv : cG (wU W) args vs) : Calls Tryz.prog f vs.toArray W fun e W' => ∃ v, e = .returned v ∧ Below W.heap.size W W' ∧ v = u :=
 (h (wU W) W vs hv (yZ hT)).mono fun e W' ⟨v, τ, c, L', he, hr, hst, hc, hL⟩ => by
  subst hc
  subst hL
  refine ⟨v, he, ⟨hst.os, hst.tape, hst.output, hst.size, fun k hk => ?_⟩, hr.sc_inv⟩
  by_cases h0 : k = 0
  ·subst h0
   obtain ⟨o, h1, vs', h2, h3, _⟩ := hst.here cr (by simp)
   rw [h1, h2, hT, rl h3]
  ·exact hst.old k hk (by simp [h0])
end Go.Proofs.YtpmdfoaadejmkaaGreatDoor
namespace Go.Proofs.YtpmdfoaadejmkaaGreatDoor
open Go.RowKit
attribute [local irreducible] AT bh AX AO Av Kt b6 di DA cC
section
variable {α : Type} [BEq α] [LawfulBEq α]
def cV (t : List α) (z : α) : List α := if t.contains z = true then t else t ++ [z]
theorem dT {t : List α} {z : α} (h : z ∈ t) : cV t z = t := if_pos (List.contains_iff_mem.2 h)
theorem eD {t : List α} {z : α} (h : z ∉ t) : cV t z = t ++ [z] := if_neg fun e => h (List.contains_iff_mem.1 e)
theorem iK (t : List α) (z : α) : z ∈ cV t z := by
 by_cases h : z ∈ t
 ·rw [dT h]; exact h
 ·rw [eD h]; simp
theorem re {t : List α} {x : α} (z : α) (h : x ∈ t) : x ∈ cV t z := by
 by_cases hz : z ∈ t
 ·rw [dT hz]; exact h
 ·rw [eD hz]; simp [h]
theorem nz {t : List α} {x : α} (z : α) (h : x ∈ t) : (cV t z).idxOf x = t.idxOf x := by
 by_cases hz : z ∈ t
 ·rw [dT hz]
 ·rw [eD hz, List.idxOf_append, if_pos h]
theorem kz {t : List α} {z : α} (h : z ∉ t) : (cV t z).idxOf z = t.length := by
 rw [eD h, List.idxOf_append, if_neg h, List.idxOf_cons_self, Nat.zero_add]
theorem zt {t : List α} {z : α} : (cV t z)[(cV t z).idxOf z]? = some z := by
 have h := List.idxOf_lt_length_of_mem (iK t z)
 rw [Bn h, List.getElem_idxOf]
theorem ky {t : List α} {x : α} {i : Nat} (z : α) (h : t[i]? = some x) : (cV t z)[i]? = some x := by
 by_cases hz : z ∈ t
 ·rw [dT hz]; exact h
 ·rw [eD hz, List.getElem?_append_left (Dp h).1]; exact h
theorem jG {t : List α} (z : α) (h : t.Nodup) : (cV t z).Nodup := by
 by_cases hz : z ∈ t
 ·rw [dT hz]; exact h
 ·rw [eD hz, List.nodup_append]
  exact ⟨h, by simp, fun a ha b hb => by rw [List.mem_singleton] at hb; subst hb; exact fun e => hz (e ▸ ha)⟩
theorem nA (t : List α) (z : α) : t.length ≤ (cV t z).length ∧ (cV t z).length ≤ t.length + 1 := by
 by_cases hz : z ∈ t
 ·rw [dT hz]; omega
 ·rw [eD hz, List.length_append, List.length_singleton]; omega
theorem tq {t : List α} {x y : α} (hx : x ∈ t) (hy : y ∈ t) (h : t.idxOf x = t.idxOf y) : x = y := by
 have h1 := List.getElem_idxOf (List.idxOf_lt_length_of_mem hx)
 have h2 := List.getElem_idxOf (List.idxOf_lt_length_of_mem hy)
 rw [← h1, ← h2]
 congr 1
end
def fG (k : Int) (st : List Int × List Int) (g : Int) : List Int × List Int :=
 (st.1.set g.toNat (k + ((cV st.2 (st.1.getD g.toNat 0)).idxOf (st.1.getD g.toNat 0) : Nat)), cV st.2 (st.1.getD g.toNat 0))
def gU (st : List Int × Int) (s : List Int) : List Int × Int := ((s.foldl (fG st.2) (st.1, [])).1, st.2 + (s.foldl (fG st.2) (st.1, [])).2.length)
def kq (n : Nat) (sets : List (List Int)) : List Int × Int := sets.foldl gU (List.replicate n 0, 1)
structure md (c0 : List Int) (k : Int) (p : List Int) (st : List Int × List Int) : Prop where
 len : st.1.length = c0.length
 nodup : st.2.Nodup
 few : st.2.length ≤ p.length
 at_ : ∀ (i : Nat) z, c0[i]? = some z → ((i : Int) ∈ p ∧ z ∈ st.2 ∧ st.1[i]? = some (k + (st.2.idxOf z : Nat))) ∨ ((i : Int) ∉ p ∧ st.1[i]? = some z)
theorem pg {c0 : List Int} {k : Int} {p : List Int} {st : List Int × List Int} (h : md c0 k p st) {g : Int} (h0 : 0 ≤ g) (hl : g < c0.length) (hn : g ∉ p) : md c0 k (p ++ [g]) (fG k st g) := by
 obtain ⟨z, hz⟩ : ∃ z, c0[g.toNat]? = some z := ⟨_, Bn (by omega)⟩
 have hg0 : ((g.toNat : Nat) : Int) = g := Int.toNat_of_nonneg h0
 have hzs : st.1[g.toNat]? = some z := by
  rcases h.at_ g.toNat z hz with ⟨h1, _⟩ | ⟨_, h2⟩
  ·rw [hg0] at h1; exact absurd h1 hn
  ·exact h2
 have hzd : st.1.getD g.toNat 0 = z := by rw [List.getD_eq_getElem?_getD, hzs]; rfl
 unfold fG
 rw [hzd]
 refine ⟨by rw [List.length_set]; exact h.len, jG _ h.nodup, ?_, fun i y hy => ?_⟩
 ·have := h.few
  rw [List.length_append, List.length_singleton]
  have h2 := (nA st.2 z).2
  dsimp only
  omega
 ·by_cases hi : i = g.toNat
  ·subst hi
   rw [hz] at hy
   cases hy
   refine Or.inl ⟨by rw [hg0]; simp, iK _ _, ?_⟩
   dsimp only
   rw [List.getElem?_set_self (by rw [h.len]; omega)]
  ·have hne : g.toNat ≠ i := fun e => hi e.symm
   have hne2 : (i : Int) ≠ g := fun e => hi (by omega)
   dsimp only
   rw [List.getElem?_set_ne hne]
   rcases h.at_ i y hy with ⟨h1, h2, h3⟩ | ⟨h1, h2⟩
   ·exact Or.inl ⟨List.mem_append_left _ h1, re _ h2, by rw [h3, nz _ h2]⟩
   ·exact Or.inr ⟨by simp [h1, hne2], h2⟩
theorem lP {c0 : List Int} {k : Int} : ∀ {s p : List Int} {st : List Int × List Int}, md c0 k p st → (∀ g ∈ s, 0 ≤ g ∧ g < c0.length) → (p ++ s).Nodup → md c0 k (p ++ s) (s.foldl (fG k) st)
 | [], p, st, h, _, _ => by rw [List.append_nil]; exact h
 | g :: s, p, st, h, hd, hn => by
  have hg := hd g (by simp)
  have hgp : g ∉ p := fun hp => by
   rw [List.nodup_append] at hn
   exact hn.2.2 g hp g (by simp) rfl
  have := lP (s := s) (pg h hg.1 hg.2 hgp) (fun x hx => hd x (by simp [hx])) (by rw [List.append_assoc]; exact hn)
  rw [List.append_assoc] at this
  exact this
structure jK (n : Nat) (done : List (List Int)) (st : List Int × Int) : Prop where
 len : st.1.length = n
 dom : ∀ z ∈ st.1, 0 ≤ z ∧ z < st.2
 pos : 0 ≤ st.2
 apart : ∀ s ∈ done, ∀ (i j : Nat) z, st.1[i]? = some z → st.1[j]? = some z → ((i : Int) ∈ s ↔ (j : Int) ∈ s)
theorem pz {n : Nat} {done : List (List Int)} {st : List Int × Int} (h : jK n done st) {s : List Int} (hd : ∀ g ∈ s, 0 ≤ g ∧ g < (n : Int)) (hn : s.Nodup) : jK n (done ++ [s]) (gU st s) := by
 have hm := lP (c0 := st.1) (k := st.2) (s := s) (p := []) (st := (st.1, [])) ⟨rfl, by simp, by simp, fun i z hz => Or.inr ⟨by simp, hz⟩⟩ (fun g hg => by rw [h.len]; exact hd g hg) (by simpa using hn)
 rw [Dr] at hm
 unfold gU
 generalize s.foldl (fG st.2) (st.1, []) = r at hm
 have hp := h.pos
 have get : ∀ {i : Nat} {z : Int}, r.1[i]? = some z → ∃ y, st.1[i]? = some y ∧ (0 ≤ y ∧ y < st.2) ∧ (((i : Int) ∈ s ∧ y ∈ r.2 ∧ z = st.2 + (r.2.idxOf y : Nat)) ∨ ((i : Int) ∉ s ∧ z = y)) := by
  intro i z hz
  have hi := (Dp hz).1
  rw [hm.len] at hi
  obtain ⟨y, hy⟩ : ∃ y, st.1[i]? = some y := ⟨_, Bn hi⟩
  refine ⟨y, hy, h.dom y (Dw hy), ?_⟩
  rcases hm.at_ i y hy with ⟨h1, h2, h3⟩ | ⟨h1, h2⟩
  ·rw [hz] at h3
   cases h3
   exact Or.inl ⟨h1, h2, rfl⟩
  ·rw [hz] at h2
   cases h2
   exact Or.inr ⟨h1, rfl⟩
 refine ⟨by rw [← h.len]; exact hm.len, fun z hz => ?_, by dsimp only; omega, fun t ht i j z hi hj => ?_⟩
 ·obtain ⟨i, hi⟩ := List.mem_iff_getElem?.1 hz
  obtain ⟨y, _, ⟨h1, h2⟩, h3⟩ := get hi
  dsimp only
  rcases h3 with ⟨_, h4, h5⟩ | ⟨_, h5⟩
  ·have := List.idxOf_lt_length_of_mem h4
   omega
  ·omega
 ·obtain ⟨y, hy, hy0, hy1⟩ := get hi
  obtain ⟨x, hx, hx0, hx1⟩ := get hj
  have hxy : x = y ∧ ((i : Int) ∈ s ↔ (j : Int) ∈ s) := by
   rcases hy1 with ⟨a1, a2, a3⟩ | ⟨a1, a2⟩ <;> rcases hx1 with ⟨b1, b2, b3⟩ | ⟨b1, b2⟩
   ·exact ⟨tq b2 a2 (by omega), by simp [a1, b1]⟩
   ·omega
   ·omega
   ·exact ⟨by omega, by simp [a1, b1]⟩
  rw [List.mem_append, List.mem_singleton] at ht
  rcases ht with ht | rfl
  ·exact h.apart t ht i j y hy (hxy.1 ▸ hx)
  ·exact hxy.2
theorem lR {n : Nat} : ∀ {sets done : List (List Int)} {st : List Int × Int}, jK n done st → (∀ s ∈ sets, (∀ g ∈ s, 0 ≤ g ∧ g < (n : Int)) ∧ s.Nodup) → jK n (done ++ sets) (sets.foldl gU st)
 | [], done, st, h, _ => by rw [List.append_nil]; exact h
 | s :: sets, done, st, h, hd => by
  have := lR (sets := sets) (pz h (hd s (by simp)).1 (hd s (by simp)).2) fun x hx => hd x (by simp [hx])
  rw [List.append_assoc] at this
  exact this
theorem jD {n : Nat} {sets : List (List Int)} (h : ∀ s ∈ sets, (∀ g ∈ s, 0 ≤ g ∧ g < (n : Int)) ∧ s.Nodup) : jK n sets (kq n sets) := by
 have := lR (sets := sets) (done := []) (st := (List.replicate n 0, 1)) ⟨by simp, fun z hz => by rw [(List.mem_replicate.1 hz).2]; omega, by dsimp only; omega, fun s hs => by cases hs⟩ h
 rwa [Dr] at this
def fS (l : List Int) : List Int := l.foldl cV []
theorem gy (l : List Int) (z : Int) : fS (l ++ [z]) = cV (fS l) z := by simp [fS]
theorem kB {P : List Int → Prop} (h0 : P []) (h : ∀ l z, P l → P (l ++ [z])) (l : List Int) : P l := by
 have : ∀ (n : Nat) (l : List Int), l.length = n → P l := by
  intro n
  induction n with
  | zero => intro l hl; rw [List.length_eq_zero_iff.1 hl]; exact h0
  | succ n ih =>
   intro l hl
   have hne : l ≠ [] := fun e => by rw [e] at hl; simp at hl
   rw [← List.dropLast_concat_getLast hne]
   exact h _ _ (ih _ (by rw [List.length_dropLast]; omega))
 exact this _ l rfl
theorem kA (l : List Int) : ∀ z ∈ l, z ∈ fS l := by
 refine kB (P := fun l => ∀ z ∈ l, z ∈ fS l) (fun z hz => by cases hz) (fun l y ih z hz => ?_) l
 rw [gy]
 rw [List.mem_append, List.mem_singleton] at hz
 rcases hz with hz | rfl
 ·exact re _ (ih z hz)
 ·exact iK _ _
theorem sI (l : List Int) : (fS l).Nodup := by
 refine kB (P := fun l => (fS l).Nodup) (by simp [fS]) (fun l y ih => ?_) l
 rw [gy]
 exact jG _ ih
theorem xC (l : List Int) : (fS l).length ≤ l.length := by
 refine kB (P := fun l => (fS l).length ≤ l.length) (by simp [fS]) (fun l y ih => ?_) l
 rw [gy, List.length_append, List.length_singleton]
 have := (nA (fS l) y).2
 omega
def eE (l : List Int) : List Int := l.map fun z => ((fS l).idxOf z : Nat)
theorem sN (l : List Int) (z : Int) : eE (l ++ [z]) = eE l ++ [(((cV (fS l) z).idxOf z : Nat) : Int)] := by
 unfold eE
 rw [gy, List.map_append]
 congr 1
 refine List.map_congr_left fun y hy => ?_
 rw [nz _ (kA l y hy)]
theorem eW (l : List Int) : (eE l).length = l.length := by simp [eE]
def cR (n : Nat) (sets : List (List Int)) : List Int := eE (kq n sets).1
def eM (l : List Int) : Int := l.foldl (fun m z => max m (z + 1)) 0
theorem n3 : ∀ {l : List Int} {m : Int}, m ≤ l.foldl (fun m z => max m (z + 1)) m ∧ ∀ z ∈ l, z < l.foldl (fun m z => max m (z + 1)) m
 | [], m => ⟨Int.le_refl _, fun z hz => by cases hz⟩
 | a :: l, m => by
  obtain ⟨h1, h2⟩ := n3 (l := l) (m := max m (a + 1))
  rw [List.foldl_cons]
  refine ⟨by omega, fun z hz => ?_⟩
  rw [List.mem_cons] at hz
  rcases hz with rfl | hz
  ·omega
  ·exact h2 z hz
theorem ov : ∀ {l : List Int} {m k : Int}, m ≤ k → (∀ z ∈ l, z < k) → l.foldl (fun m z => max m (z + 1)) m ≤ k
 | [], _, _, h, _ => h
 | a :: l, m, k, h, hl => by
  rw [List.foldl_cons]
  exact ov (by have := hl a (by simp); omega) fun z hz => hl z (by simp [hz])
theorem oB (n : Nat) (sets : List (List Int)) (h : ∀ s ∈ sets, (∀ g ∈ s, 0 ≤ g ∧ g < (n : Int)) ∧ s.Nodup) : (cR n sets).length = n := by
 unfold cR
 rw [eW]
 exact (jD h).len
theorem oA (n : Nat) (sets : List (List Int)) (h : ∀ s ∈ sets, (∀ g ∈ s, 0 ≤ g ∧ g < (n : Int)) ∧ s.Nodup) : ∀ z ∈ cR n sets, 0 ≤ z ∧ z < n := by
 intro z hz
 have hl := (jD h).len
 unfold cR eE at hz
 obtain ⟨y, hy, rfl⟩ := List.mem_map.1 hz
 have h1 := List.idxOf_lt_length_of_mem (kA _ y hy)
 have h2 := xC (kq n sets).1
 omega
theorem qR (n : Nat) (sets : List (List Int)) (h : ∀ s ∈ sets, (∀ g ∈ s, 0 ≤ g ∧ g < (n : Int)) ∧ s.Nodup) : pV n (eM (cR n sets)).toNat (cR n sets) sets := by
 refine ⟨oB n sets h, fun z hz => ?_, fun s hs i j z hi hj => ?_⟩
 ·have h1 := (oA n sets h z hz).1
  have h2 := (n3 (l := cR n sets) (m := 0)).2 z hz
  unfold eM
  omega
 ·unfold cR eE at hi hj
  rw [List.getElem?_map, Option.map_eq_some_iff] at hi hj
  obtain ⟨x, hx, hx1⟩ := hi
  obtain ⟨y, hy, hy1⟩ := hj
  have hxy : x = y := tq (kA _ x (Dw hx)) (kA _ y (Dw hy)) (by omega)
  subst hxy
  exact (jD h).apart s hs i j x hx hy
end Go.Proofs.YtpmdfoaadejmkaaGreatDoor
namespace Go.Proofs.YtpmdfoaadejmkaaGreatDoor
open Go.RowKit Go.MapKept
section
variable {P : Program} {fr : bw} {B : Bs} {L : AL} {d : Option Tmp} {ty t : TypeId} {pos : String} {af : Array Edge} {g : Option (Nat × Bool)} {x y z : Operand} {u : AV}
theorem u7 (i : Nat) {b kt et : Nat} {kd : TypeDesc} {m : Value → Option AV} {ks : List Value} (ht : P.underlying t = some (.map kt et)) (hx : aX fr x = some (.sc (.map (some b)))) (hL : L[i]? = some (b, cg kd m)) (hn : ks.Pairwise (· ≠ ·)) (hk : ∀ k, (m k).isSome = true ↔ k ∈ ks) :
    AO P ⟨d, .call ⟨.builtin .len, #[x], #[t]⟩, ty, pos, af, g⟩ fr B L (fun c L' => c = .sc (.int .i64 ks.length) ∧ L' = L) := by
  intro σ ρ w hρ hw
  obtain ⟨o, ho, hM⟩ := hw.here _ (Dw hL)
  have hM' : hQ kd m σ o := hM
  obtain ⟨es, clock, rfl, h1, h2, h3⟩ := hM'
  have hl : es.size = ks.length := by
    have key : ∀ (es : List MapEntry) (ks : List Value), es.Pairwise (fun x y => x.key ≠ y.key) → ks.Pairwise (· ≠ ·) → (∀ k, (∃ x ∈ es, x.key = k) ↔ k ∈ ks) → es.length = ks.length := by
      intro es
      induction es with
      | nil =>
        intro ks _ _ h
        cases ks with
        | nil => rfl
        | cons k ks => obtain ⟨x, hx, _⟩ := (h k).2 (by simp); cases hx
      | cons e es ih =>
        intro ks he hks h
        obtain ⟨he1, he2⟩ := List.pairwise_cons.1 he
        obtain ⟨a, c, rfl⟩ := List.append_of_mem ((h e.key).1 ⟨e, by simp, rfl⟩)
        obtain ⟨p1, p2, p3⟩ := List.pairwise_append.1 hks
        obtain ⟨p4, p5⟩ := List.pairwise_cons.1 p2
        have := ih (a ++ c) he2 (List.pairwise_append.2 ⟨p1, p5, fun x hx y hy => p3 x hx y (by simp [hy])⟩) fun k => by
          constructor
          · rintro ⟨x, hx, rfl⟩
            have hm := (h x.key).1 ⟨x, by simp [hx], rfl⟩
            rw [List.mem_append, List.mem_cons] at hm
            rw [List.mem_append]
            rcases hm with hm | hm | hm
            · exact .inl hm
            · exact absurd hm.symm (he1 x hx)
            · exact .inr hm
          · intro hk
            obtain ⟨x, hx, hxk⟩ := (h k).2 (by rw [List.mem_append] at hk; rw [List.mem_append, List.mem_cons]; rcases hk with hk | hk; exact .inl hk; exact .inr (.inr hk))
            rcases List.mem_cons.1 hx with rfl | hx
            · exfalso
              rw [List.mem_append] at hk
              rcases hk with hk | hk
              · exact p3 k hk _ (List.mem_cons_self ..) hxk.symm
              · exact p4 k hk hxk
            · exact ⟨x, hx, hxk⟩
        rw [List.length_cons, this, List.length_append, List.length_append, List.length_cons]
        omega
    have := key es.toList ks h2 hn fun k => by
      rw [← hk]
      constructor
      · rintro ⟨x, hx, rfl⟩
        obtain ⟨_, c, hc, _⟩ := h1 x hx
        rw [hc]; rfl
      · intro h
        obtain ⟨c, hc⟩ := Option.isSome_iff_exists.1 h
        exact h3 k c hc
    simpa using this
  unfold fw
  have hg := MapKept.run_getObj_map (P := P) ho
  rw [show (execOp ρ ⟨d, .call ⟨.builtin .len, #[x], #[t]⟩, ty, pos, af, g⟩).run P w = .ok (.value (.int .i64 ks.length)) w by
    simp [execOp, resolve, (hρ x _ hx).sc_inv, invoke, builtin, Builtin.len_, run_underlying ht, hg, goInt, hl, Result.andThen]]
  exact ⟨σ, .sc _, _, bK.le_refl _, .sc _, hw, rfl, rfl⟩
end
section
variable {P : Program} {tt : TT} {r : Option Nat} {ops : Array Oper} {Q : Exit → Act → World → Prop} {nt : Nat} {D : List Deferred} {fr : bw} {B : Bs} {L : AL} {rest : List Oper} {d : Nat} {ty t t' : TypeId} {pos : String} {af : Array Edge} {x y z : Operand} {u : AV}
theorem x6 (i : Nat) (ks : List Value) {b kt et : Nat} {kd : TypeDesc} {m : Value → Option AV} (ht : P.underlying t = some (.map kt et)) (hx : aX fr x = some (.sc (.map (some b)))) (hL : L[i]? = some (b, cg kd m)) (hn : ks.Pairwise (· ≠ ·)) (hk : ∀ k, (m k).isSome = true ↔ k ∈ ks) (hd : Nat.ble nt d = false) (h : bh P r ops Q nt D rest ((d, .sc (.int .i64 ks.length)) :: fr) B L) : bh P r ops Q nt D (⟨some d, .call ⟨.builtin .len, #[x], #[t]⟩, ty, pos, af, none⟩ :: rest) fr B L :=
  c6 hd rfl (u7 i ht hx hL hn hk) fun c L' ⟨h1, h2⟩ => by subst h1; subst h2; exact h
end
end Go.Proofs.YtpmdfoaadejmkaaGreatDoor
namespace Go.Proofs.YtpmdfoaadejmkaaGreatDoor
open Go.RowKit
attribute [local irreducible] AT bh AX AO Av Kt b6 di DA cC
open Go.MapKept
abbrev KJ : TypeDesc := .int .i64
def D3 (l : List Int) : Value → Option AV
 | .int .i64 z => if z ∈ l then some (dx true) else none
 | _ => none
def D2 (f : aN) (n : Int) : Bool := match f.Glyphs[n.toNat]? with | some g => g.Mark | none => false
end Go.Proofs.YtpmdfoaadejmkaaGreatDoor
namespace Go.Proofs.YtpmdfoaadejmkaaGreatDoor
open Go.RowKit
end Go.Proofs.YtpmdfoaadejmkaaGreatDoor
namespace Go.Proofs.YtpmdfoaadejmkaaGreatDoor
open Go.RowKit
section
variable {P : Program} {r : Option Nat} {Q : Exit → Act → World → Prop} {nt : Nat} {D : List Deferred} {fr : bw} {B : Bs} {L : AL}
theorem t3 {α : Type} {A C : Code} (ks : List Nat) (fr1 : α → bw) (L1 : α → AL) (φ : α → Prop) (hA : ∀ Q', (∀ x fr', φ x → fx fr' ks = some (fr1 x) → AX P .normal Q' nt D fr' B (L1 x)) → AT P r A Q' nt D fr B L) (hB : ∀ x, φ x → AT P r C Q nt D (fr1 x) B (L1 x)) : AT P r A (Kt P r C Q) nt D fr B L :=
 hA _ fun x _ hx h => a6 (y7 ks h (hB x hx))
end
theorem qD {α : Type} {sz : Nat} : ∀ (l : List (List α)) (i c : Nat) (e : List α) (v : α), (∀ e ∈ l, e.length = sz) → l[i]? = some e → c < sz → l.flatten.set (i * sz + c) v = (l.set i (e.set c v)).flatten
 | [], i, c, e, v, _, h, _ => by simp at h
 | x :: l, 0, c, e, v, hs, h, hc => by
  simp at h
  subst h
  have hx := hs x (List.mem_cons_self ..)
  rw [List.flatten_cons, List.set_cons_zero, List.flatten_cons, Nat.zero_mul, Nat.zero_add, List.set_append_left _ _ (by omega)]
 | x :: l, i + 1, c, e, v, hs, h, hc => by
  have hx := hs x (List.mem_cons_self ..)
  rw [List.flatten_cons, List.set_cons_succ, List.flatten_cons, ← qD l i c e v (fun e he => hs e (Dt _ he)) (by simpa using h) hc, List.set_append_right _ _ (by rw [hx, Nat.add_mul]; omega), hx, show (i + 1) * sz + c - sz = i * sz + c by rw [Nat.add_mul]; omega]
end Go.Proofs.YtpmdfoaadejmkaaGreatDoor
