/-
  Pointers and nil; places in a table that is a block; an empty row that is written; numbers that may go over.
-/
import Derived.Test.YtpmdfoaadejmkaaGreatDoorM12
import Derived.Laws.Pointers
import Derived.Laws.BitsAllLaws
import Derived.Test.YtpmdfoaadejmkaaGreatDoorRows
import Derived.WalkKit
import Derived.ProofKit
import Derived.OpenShut
import Derived.ChangeOld
import Derived.SizedLaws
import Derived.Deep.DeepHandedRow
import Derived.Lib.LaidTab
import Derived.Test.YtpmdfoaadejmkaaGreatDoorM05
import Derived.Test.YtpmdfoaadejmkaaGreatDoorM06
import Derived.Test.YtpmdfoaadejmkaaGreatDoorM04
import Derived.Test.YtpmdfoaadejmkaaGreatDoorM09
namespace Go.Proofs.YtpmdfoaadejmkaaGreatDoor
open Go.RowKit
def uQ : AV → Option Bool
 | .iptr _ => some false
 | .sc (.pointer none) => some true
 | .sc (.pointer (some _)) => some false
 | _ => none
theorem oA {u : AV} {b : Bool} (h : uQ u = some b) {σ : bJ} {v : Value} (hv : VR σ u v) : ∃ p, v = .pointer p ∧ p.isNone = b := by
 unfold uQ at h
 split at h
 ·cases h
  obtain ⟨b', off, h1, _⟩ := hv.iptr_inv
  exact ⟨_, h1, rfl⟩
 ·cases h
  exact ⟨none, hv.sc_inv, rfl⟩
 ·cases h
  exact ⟨_, hv.sc_inv, rfl⟩
 ·cases h
section
variable {P : Program} {fr : bw} {B : Bs} {L : AL} {d : Option Tmp} {ty t t' : TypeId} {pos : String} {af : Array Edge} {g : Option (Nat × Bool)} {x y z q : Operand} {u : AV}
theorem nc {e : TypeId} (h : P.underlying t = some (.pointer e)) : P.underlying t = some (.pointer (P.pointee t)) := by
 rw [show P.pointee t = e by simp [Program.pointee, h]]; exact h
theorem Ac {e : TypeId} {b : Bool} (ht : P.underlying t = some (.pointer e)) (hx : aW fr x = some u) (hu : uQ u = some b) (hy : aW fr y = some (.sc (.pointer none))) : Av P ⟨d, .binOp .eql t x y t', ty, pos, af, g⟩ fr (.sc (.bool b)) := fun σ ρ w hρ _ => by
 obtain ⟨p, hp, hb⟩ := oA hu (hρ x u hx)
 refine ⟨_, ?_, .sc _⟩
 subst hb
 simp [execOp, hp, (hρ y _ hy).sc_inv, eqGuard, run_eql_pointer_nil w t p (nc ht)]
theorem Al {e : TypeId} {b : Bool} (ht : P.underlying t = some (.pointer e)) (hx : aW fr x = some u) (hu : uQ u = some b) (hy : aW fr y = some (.sc (.pointer none))) : Av P ⟨d, .binOp .neq t x y t', ty, pos, af, g⟩ fr (.sc (.bool (!b))) := fun σ ρ w hρ _ => by
 obtain ⟨p, hp, hb⟩ := oA hu (hρ x u hx)
 refine ⟨_, ?_, .sc _⟩
 subst hb
 simp [execOp, hp, (hρ y _ hy).sc_inv, eqGuard, run_neq_pointer_nil w t p (nc ht)]
theorem A5 {n e sz k b off : Nat} {qq : IntKind} {a : Int} (ht : P.underlying t = some (.array n e)) (hs : (P.info? e).map (·.size) = some sz) (hx : aW fr x = some (.sc (.pointer (some ⟨b, off, none⟩)))) (hy : aW fr y = some (.sc (.int qq a))) (ha : a = (k : Int)) (hk : k < n) : Av P ⟨d, .indexAddr t x y, ty, pos, af, g⟩ fr (.sc (.pointer (some ⟨b, off + k * sz, none⟩))) :=
 fun σ ρ w hρ _ => by
  subst ha
  have hyv := (hρ y _ hy).sc_inv
  have hv := (hρ x _ hx).sc_inv
  have hk' : (k : Int) < (n : Int) := by omega
  have hso : (sizeOf e : Sem Nat).run P w = .ok sz w := by
   cases hi : P.info? e with
   | none => rw [hi] at hs; cases hs
   | some i => rw [hi] at hs; simp at hs; simp [sizeOf, typeInfo, hi, hs]
  refine ⟨.pointer (some ⟨b, off + k * sz, none⟩), ?_, .sc _⟩
  simp [execOp, hv, hyv, Instr.indexAt, asIntOf, run_underlying ht, hk', hso, Instr.sureAddr, Addr.add]
  by_cases hn : n ≤ 1 <;> by_cases h0 : k * sz = 0 <;> simp [hn, run_underlying ht, hso, hk, h0]
theorem xW {e sz by_ : Nat} {parts : Array (Nat × Operand)} (hc : j9 P t e sz by_) (hsz : 0 < sz) (hp : parts = #[]) : AO P ⟨d, .buildSlice t 0 parts, ty, pos, af, g⟩ fr B L (fun c L' => ∃ b, c = .sc (.slice (some ⟨b, 0, none⟩) 0 0) ∧ L' = (b, .box [] e) :: L) := by
 intro σ ρ w hρ hw
 subst hp
 haveI := hc
 have hr := xi (P := P) (t := t) (by simpa [Nat.blt_eq] using hsz) [] (by simp) (by simp [Nat.ble_eq]) w
 simp at hr
 unfold fq
 rw [show (execOp ρ ⟨d, .buildSlice t 0 #[], ty, pos, af, g⟩).run P w = .ok (.value (.slice (some ⟨w.heap.size, 0, none⟩) 0 0)) (w.alloc (.cells #[] e)) by
  simp [execOp, hr]]
 exact ⟨σ, .sc _, _, bJ.le_refl _, .sc _, hw.alloc _ (.box [] e) ⟨[], rfl, cI.nil, by simp⟩, _, rfl, rfl⟩
end
section
variable {P : Program} {tt : TT} {r : Option Nat} {ops : Array Oper} {Q : Exit → Act → World → Prop} {nt : Nat} {D : List Deferred} {fr : bw} {B : Bs} {L : AL} {rest : List Oper} {d : Nat} {ty t t' : TypeId} {pos : String} {af : Array Edge} {x y z : Operand} {u : AV}
theorem n3 {e : TypeId} {b : Bool} (ht : P.underlying t = some (.pointer e)) (hx : aW fr x = some u) (hu : uQ u = some b) (hy : aW fr y = some (.sc (.pointer none))) (hd : Nat.ble nt d = false) (h : bf P r ops Q nt D rest ((d, .sc (.bool b)) :: fr) B L) : bf P r ops Q nt D (⟨some d, .binOp .eql t x y t', ty, pos, af, none⟩ :: rest) fr B L := bT (Ac ht hx hu hy) hd rfl h
theorem po {e : TypeId} {b : Bool} (ht : P.underlying t = some (.pointer e)) (hx : aW fr x = some u) (hu : uQ u = some b) (hy : aW fr y = some (.sc (.pointer none))) (hd : Nat.ble nt d = false) (h : bf P r ops Q nt D rest ((d, .sc (.bool (!b))) :: fr) B L) : bf P r ops Q nt D (⟨some d, .binOp .neq t x y t', ty, pos, af, none⟩ :: rest) fr B L := bT (Al ht hx hu hy) hd rfl h
theorem sn (ok : dg P tt) (k : Nat) {n e sz b off : Nat} {q : IntKind} {a : Int} (ht : xY tt t = some (n, e, sz)) (hx : aW fr x = some (.sc (.pointer (some ⟨b, off, none⟩)))) (hy : aW fr y = some (.sc (.int q a))) (ha : a = (k : Int)) (hk : k < n) (hd : Nat.ble nt d = false) (h : bf P r ops Q nt D rest ((d, .sc (.pointer (some ⟨b, off + k * sz, none⟩))) :: fr) B L) :
  bf P r ops Q nt D (⟨some d, .indexAddr t x y, ty, pos, af, none⟩ :: rest) fr B L := bT (A5 (iN ok ht).1 (iN ok ht).2 hx hy ha hk) hd rfl h
theorem B2 (ok : dg P tt) {e sz by_ : Nat} (ht : iF tt t = some (e, sz, by_)) (hd : Nat.ble nt d = false) (h : ∀ b, bf P r ops Q nt D rest ((d, .sc (.slice (some ⟨b, 0, none⟩) 0 0)) :: fr) B ((b, .box [] e) :: L)) :
  bf P r ops Q nt D (⟨some d, .buildSlice t 0 #[], ty, pos, af, none⟩ :: rest) fr B L := c6 hd rfl (xW (b8 ok ht).1 (b8 ok ht).2 rfl) fun c L' ⟨b, h1, h2⟩ => by subst h1; subst h2; exact h b
theorem B3 {k : IntKind} {a b : Int} (hx : aW fr x = some (.sc (.int k a))) (hy : aW fr y = some (.sc (.int k b))) (hd : Nat.ble nt d = false) (h : bf P r ops Q nt D rest ((d, .sc (.int k (k.wrap (a * b)))) :: fr) B L) : bf P r ops Q nt D (⟨some d, .binOp .mul t x y t', ty, pos, af, none⟩ :: rest) fr B L := bT (zD hx hy) hd rfl h
theorem B4 {k : IntKind} {a : Int} (hx : aW fr x = some (.sc (.int k a))) (hd : Nat.ble nt d = false) (h : bf P r ops Q nt D rest ((d, .sc (.int k (k.wrap (0 - a)))) :: fr) B L) : bf P r ops Q nt D (⟨some d, .unOp .neg t x, ty, pos, af, none⟩ :: rest) fr B L := bT (BA hx) hd rfl h
theorem k9 (ok : dg P tt) {a : Int} {q q' : IntKind} {ti ti' : TI} (hx : aW fr x = some (.sc (.int q a))) (ht : cG tt t = some ti) (hk : ti.k = .int q) (ht' : cG tt t' = some ti') (hk' : ti'.k = .int q') (hd : Nat.ble nt d = false) (h : bf P r ops Q nt D rest ((d, .sc (.int q' (q'.wrap a))) :: fr) B L) :
  bf P r ops Q nt D (⟨some d, .convert t t' x, ty, pos, af, none⟩ :: rest) fr B L := by
 haveI := ok.int ht hk
 haveI := ok.int ht' hk'
 exact bT (tU hx) hd rfl h
end
end Go.Proofs.YtpmdfoaadejmkaaGreatDoor
namespace Go.Proofs.YtpmdfoaadejmkaaGreatDoor
open Go.RowKit
attribute [local irreducible] AT bf AX AO Av Kt aZ df DA cA
abbrev Br (cls : List Int) (tab : List (List Int)) (ends : List Nat) : AV := .agg [.imm 1 (aU cls), .imm 1 (b7 tab), .imm 1 (eF ends)]
theorem kz (l : List Nat) : (eF l).length = l.length := by simp [eF]
theorem rk {l : List Nat} {i : Nat} {z : Nat} (h : l[i]? = some z) : (eF l)[i]? = some [ga z] := by simp [eF, h]
section
variable (cls : List Int) (tab : List (List Int)) (ends : List Nat)
theorem vU (s : Int) : bk Tryz.prog 301 [Br cls tab ends, az s] (ga (fQ ends s)) := by
 refine aB Tryz.func301 rfl Tryz.ntmps301 rfl fun B => ?_
 have hel := kz ends
 repeat' (first|refine a8 ?_|refine a0 ?_|refine a5 ?_|refine a6 ?_|refine a7 a4 rfl rfl ?_|refine aX ?_|fail)
 refine bG [1, 2] (s < 0 ∨ (ends.length : Int) ≤ s) rfl (fun Q' K => ?_) (fun hC => ?_) (fun hC => ?_)
 ·repeat' (first|refine a6 ?_|refine a7 a4 rfl rfl ?_|refine an rfl rfl ?_|refine aw rfl rfl rfl rfl ?_|refine aG rfl rfl rfl (fun _ => ?_) (fun _ => ?_))
  all_goals exact K _ _ rfl rfl (by simp_all <;> omega)
 ·repeat' (first|refine a8 ?_|refine a0 ?_|refine ae ?_|refine a5 ?_|refine am ?_|refine a6 ?_|refine a7 a4 rfl rfl ?_)
  refine ak rfl rfl ?_
  unfold fQ
  rcases hC with h | h
  ·rw [if_pos h]; rfl
  ·by_cases h0 : s < 0
   ·rw [if_pos h0]; rfl
   ·rw [if_neg h0, List.getD_eq_getElem?_getD, List.getElem?_eq_none (by omega)]; rfl
 ·obtain ⟨z, hz⟩ : ∃ z, ends[s.toNat]? = some z := ⟨_, Bj (by omega)⟩
  have hzg := rk hz
  repeat' (first|refine a8 ?_|refine a0 ?_|refine ah ?_|refine ae ?_|refine a5 ?_|refine a6 ?_|refine a7 a4 rfl rfl ?_|(apply aE; first|refine aD a4 ?_|refine aA a4 ?_)|fail)
  refine ak rfl rfl ?_
  unfold fQ
  rw [if_neg (fun h => hC (.inl h)), List.getD_eq_getElem?_getD, hz]
  rfl
instance (s : Int) : AD Tryz.prog 301 [Br cls tab ends, az s] (ga (fQ ends s)) := ⟨vU cls tab ends s⟩
theorem wZ (s g : Int) : bk Tryz.prog 302 [Br cls tab ends, az s, az g] (az (fb cls tab s g)) := by
 refine aB Tryz.func302 rfl Tryz.ntmps302 rfl fun B => ?_
 have hcl := b6 cls
 have htl := bQ tab
 repeat' (first|refine a8 ?_|refine a0 ?_|refine a5 ?_|refine a6 ?_|refine a7 a4 rfl rfl ?_|refine aX ?_|fail)
 refine bG [1, 2, 3] ((s < 0 ∨ (tab.length : Int) ≤ s) ∨ (g < 0 ∨ (cls.length : Int) ≤ g)) rfl (fun Q' K => ?_) (fun hC => ?_) (fun hC => ?_)
 ·repeat' (first|refine a6 ?_|refine a7 a4 rfl rfl ?_|refine an rfl rfl ?_|refine aw rfl rfl rfl rfl ?_|refine aG rfl rfl rfl (fun _ => ?_) (fun _ => ?_))
  all_goals exact K _ _ rfl rfl (by simp_all <;> omega)
 ·repeat' (first|refine a8 ?_|refine a0 ?_|refine ae ?_|refine a5 ?_|refine am ?_|refine a6 ?_|refine a7 a4 rfl rfl ?_)
  refine ak rfl rfl ?_
  unfold fb
  by_cases h0 : s < 0 ∨ g < 0
  ·rw [if_pos h0]
  ·rw [if_neg h0]
   split
   ·rename_i h1 h2
    have := (Dp h1).1
    have := (Dp h2).1
    omega
   ·rfl
 ·obtain ⟨dl, hrow⟩ : ∃ z, tab[s.toNat]? = some z := ⟨_, Bj (by omega)⟩
  obtain ⟨c, hc⟩ : ∃ z, cls[g.toNat]? = some z := ⟨_, Bj (by omega)⟩
  have hrg := fm hrow
  have hcg := bI hc
  have hrl := b6 dl
  have hN : fb cls tab s g = if c < 0 then -1 else match dl[c.toNat]? with
   | some z => if 0 ≤ z ∧ z < tab.length then z else -1
   | none => -1 := by
   unfold fb
   rw [if_neg (by omega), hrow, hc]
   rfl
  rw [hN]
  repeat' (first|refine a8 ?_|refine ah ?_|refine a5 ?_)
  refine bj 11 [(0, .v), (1, .v), (2, .v), (3, .v), (4, .v), (5, .v), (6, .v), (7, .v), (8, .v), (9, .v), (10, .v)] none ?_ trivial rfl (by kernel_rfl) (by kernel_rfl) (by kernel_rfl) c9 (by kernel_rfl) rfl
  repeat' (first|refine aC ?_|refine bh a4 ?_|(apply cC;refine cZ a4 ?_)|fail)
  refine bv [3, 7, 39] rfl rfl ?_
  repeat' (first|refine a8 ?_|refine a0 ?_|refine a5 ?_|refine a6 ?_|refine a7 a4 rfl rfl ?_)
  refine bG [3, 7, 8] (c < 0 ∨ (dl.length : Int) ≤ c) rfl (fun Q' K => ?_) (fun hC2 => ?_) (fun hC2 => ?_)
  ·repeat' (first|refine a6 ?_|refine a7 a4 rfl rfl ?_|refine an rfl rfl ?_|refine aw rfl rfl rfl rfl ?_|refine aG rfl rfl rfl (fun _ => ?_) (fun _ => ?_))
   all_goals exact K _ _ rfl rfl (by simp_all <;> omega)
  ·repeat' (first|refine a8 ?_|refine a0 ?_|refine ae ?_|refine a5 ?_|refine am ?_|refine a6 ?_|refine a7 a4 rfl rfl ?_)
   refine ak rfl rfl ?_
   by_cases h0 : c < 0
   ·rw [if_pos h0]
   ·rw [if_neg h0, List.getElem?_eq_none (by omega)]
  ·obtain ⟨z, hz⟩ : ∃ z, dl[c.toNat]? = some z := ⟨_, Bj (by omega)⟩
   have hzg := bI hz
   rw [if_neg (fun h => hC2 (.inl h)), hz]
   dsimp only
   repeat' (first|refine a8 ?_|refine a0 ?_|refine ah ?_|refine a5 ?_|refine a6 ?_|refine a7 a4 rfl rfl ?_|(apply aE; first|refine aD a4 ?_|refine aA a4 ?_)|fail)
   refine bG [9] (0 ≤ z ∧ z < tab.length) rfl (fun Q' K => ?_) (fun hC3 => ?_) (fun hC3 => ?_)
   ·repeat' (first|refine a6 ?_|refine a7 a4 rfl rfl ?_|refine an rfl rfl ?_|refine aw rfl rfl rfl rfl ?_|refine aG rfl rfl rfl (fun _ => ?_) (fun _ => ?_))
    all_goals exact K _ _ rfl rfl (by simp_all <;> omega)
   ·rw [if_pos hC3]
    repeat' (first|refine a8 ?_|refine a0 ?_|refine ae ?_|refine a5 ?_|refine am ?_|refine a6 ?_|refine a7 a4 rfl rfl ?_)
    exact ak rfl rfl rfl
   ·rw [if_neg hC3]
    repeat' (first|refine a8 ?_|refine a0 ?_|refine ah ?_|refine ae ?_|refine a5 ?_|refine a6 ?_|refine a7 a4 rfl rfl ?_)
    exact ak rfl rfl rfl
instance (s g : Int) : AD Tryz.prog 302 [Br cls tab ends, az s, az g] (az (fb cls tab s g)) := ⟨wZ cls tab ends s g⟩
theorem ic {ends : List Nat} (h : ∀ z ∈ ends, z < 18446744073709551616) (s : Int) : fQ ends s < 18446744073709551616 := by
 unfold fQ
 split
 ·decide
 ·rw [List.getD_eq_getElem?_getD]
  cases hz : ends[s.toNat]? with
  | none => decide
  | some z => exact h z (Dw hz)
theorem x2 {a b : Nat} (ha : a < 18446744073709551616) (hb : b < 18446744073709551616) : a ||| b < 18446744073709551616 := Nat.or_lt_two_pow (n := 64) ha hb
theorem qW {cls : List Int} {tab : List (List Int)} {ends : List Nat} (h : ∀ z ∈ ends, z < 18446744073709551616) : ∀ (gl : List Int) (s : Int) (told : Nat), told < 18446744073709551616 → je cls tab ends s gl told < 18446744073709551616
 | [], _, _, ht => ht
 | g :: r, s, told, ht => by
  rw [je]
  split
  ·exact ht
  ·exact qW h r _ _ (x2 ht (ic h _))
theorem qX (h : ∀ z ∈ ends, z < 18446744073709551616) (gl : List Int) : ec cls tab ends gl < 18446744073709551616 := qW h gl 0 _ (ic h _)
theorem qY (hE : ∀ z ∈ ends, z < 18446744073709551616) (gl : List Int) : bk Tryz.prog 286 [Br cls tab ends, .imm 1 (aU gl)] (ga (ec cls tab ends gl)) := by
 refine aB Tryz.func286 rfl Tryz.ntmps286 rfl fun B => ?_
 have hgl := b6 gl
 refine cf 1 rfl rfl fun hlen => ?_
 repeat' (first|refine a8 ?_|refine a0 ?_|refine aj ?_|refine a5 ?_|refine a6 ?_|refine a7 a4 rfl rfl ?_|refine aX ?_|(apply bb;refine b4 ?_)|fail)
 refine aK [2, 12, 13] (α := Nat × Int × Nat) (fun x => [(14, az x.1), (5, az x.2.1), (6, ga x.2.2)]) (fun x => x.1 ≤ gl.length ∧ x.2.2 < 18446744073709551616 ∧ je cls tab ends x.2.1 (gl.drop x.1) x.2.2 = ec cls tab ends gl) (fun _ => []) (fun x => gl.length - x.1) (0, 0, fQ ends 0) rfl ⟨rfl, rfl, rfl, trivial⟩ ⟨Nat.zero_le _, ic hE 0, rfl⟩ (fun _ _ h => h) ?_
 rintro ⟨i, s, told⟩ ⟨hi, ht, hr⟩
 dsimp only at hi ht hr ⊢
 try dsimp only [Ds, Dr, Dq, Dn]
 repeat' (first|refine a8 ?_|refine a0 ?_|refine a5 ?_|refine a6 ?_|refine a7 a4 rfl rfl ?_)
 refine aq rfl (fun h => ?_) (fun h => ?_)
 ·have hil : i < gl.length := by have := Dz h; omega
  obtain ⟨z, hz⟩ : ∃ z, gl[i]? = some z := ⟨_, Bj hil⟩
  have hzg := bI hz
  have hd : gl.drop i = z :: gl.drop (i + 1) := by
   rw [List.drop_eq_getElem_cons hil, (Dp hz).2]
  rw [hd, je] at hr
  clear h
  repeat' (first|refine a8 ?_|refine a0 ?_|refine aj ?_|refine ah ?_|refine a5 ?_|refine a6 ?_|refine a7 a4 rfl rfl ?_|(apply aE; first|refine aD a4 ?_|refine aA a4 ?_)|(apply bb;refine b4 ?_)|fail)
  refine aq rfl (fun h => ?_) (fun h => ?_)
  ·have h2 : fb cls tab s z = -1 := Dz h
   rw [if_pos h2] at hr
   repeat' (first|refine a8 ?_|refine a0 ?_|refine ae ?_|refine aL ?_|refine a5 ?_|refine ar ?_|refine av ?_|refine cY rfl ?_|refine au ?_|refine a6 ?_|refine a7 a4 rfl rfl ?_)
   refine ak rfl rfl ?_
   rw [hr]
  ·have h2 : ¬ fb cls tab s z = -1 := Dy h
   rw [if_neg h2] at hr
   repeat' (first|refine a0 ?_|refine ah ?_|refine a5 ?_|refine a7 a4 rfl rfl ?_|(apply bb;refine b4 ?_)|fail)
   refine pi rfl rfl rfl ?_
   rw [u64_or_nat _ _ ht (ic hE _)]
   repeat' (first|refine a0 ?_|refine a5 ?_|refine aH ?_|refine a6 ?_|refine a7 a4 rfl rfl ?_|(apply aS; refine aR ?_)|fail)
   exact ay (i + 1, fb cls tab s z, told ||| fQ ends (fb cls tab s z)) rfl ⟨by rw [Dv]; rfl, rfl, rfl, trivial⟩ ⟨hil, x2 ht (ic hE _), hr⟩ (by dsimp only; omega) (fun _ _ h => h)
 ·have hil : i = gl.length := by have := Dy h; omega
  subst hil
  rw [List.drop_length, je] at hr
  repeat' (first|refine a8 ?_|refine a0 ?_|refine ae ?_|refine aL ?_|refine a5 ?_|refine ar ?_|refine av ?_|refine au ?_|refine a6 ?_|refine a7 a4 rfl rfl ?_)
  refine ak rfl rfl ?_
  rw [hr]
end
abbrev vr (e : lY) : AV := .agg (BG e)
structure oO (e : lY) : Prop where
 fore : ∀ z ∈ e.foreE, z < 18446744073709551616
 back : ∀ z ∈ e.backE, z < 18446744073709551616
theorem wt (e : lY) (h : oO e) (gl : List Int) : bk Tryz.prog 257 [vr e, .imm 1 (aU gl)] (ga (ec e.cls e.fore e.foreE gl)) := by
 refine aB Tryz.func257 rfl Tryz.ntmps257 rfl fun B => ?_
 haveI := AD.mk (qY e.cls e.fore e.foreE h.fore gl)
 repeat' (first|refine a8 ?_|refine a0 ?_|refine ae ?_|refine a5 ?_|refine a6 ?_|refine a7 a4 rfl rfl ?_|refine aX ?_|(apply bb;refine b4 ?_)|fail)
 exact ak rfl rfl rfl
theorem vR (e : lY) (h : oO e) (gl : List Int) : bk Tryz.prog 256 [vr e, .imm 1 (aU gl)] (ga (ec e.cls e.back e.backE gl)) := by
 refine aB Tryz.func256 rfl Tryz.ntmps256 rfl fun B => ?_
 haveI := AD.mk (qY e.cls e.back e.backE h.back gl)
 repeat' (first|refine a8 ?_|refine a0 ?_|refine ae ?_|refine a5 ?_|refine a6 ?_|refine a7 a4 rfl rfl ?_|refine aX ?_|(apply bb;refine b4 ?_)|fail)
 exact ak rfl rfl rfl
def j8 : List Int := [0, 1, 56, 2, 57, 49, 28, 3, 61, 58, 42, 50, 38, 29, 17, 4, 62, 47, 59, 36, 45, 43, 51, 22, 53, 39, 33, 30, 24, 18, 12, 5, 63, 55, 48, 27, 60, 41, 37, 16, 46, 35, 44, 21, 52, 32, 23, 11, 54, 26, 40, 15, 34, 20, 31, 10, 25, 14, 19, 9, 13, 8, 7, 6]
def sH : List AV := j8.map fun z => .sc (.int .u8 z)
abbrev cz : Nat × AB := (0, .box sH 364)
def Dc (x : Int) : Int := bits .and .u64 x (IntKind.u64.wrap (0 - x))
def CJ (x : Int) : Int := IntKind.u64.wrap (Dc x * 285870213051353865) / 2 ^ min 58 IntKind.u64.bits
def Cj (x : Nat) : Int := j8.getD (CJ x).toNat 0
theorem rj : ∀ (n : Nat), n < 64 → n ≠ 0 → 0 ≤ CJ (n : Nat) ∧ CJ (n : Nat) < 64 := by decide +kernel
theorem xC : ∀ (n : Nat), n < 64 → ∀ (i : Nat), i < 6 → n.testBit i = true → (∀ (j : Nat), j < i → n.testBit j = false) → Cj n = (i : Nat) := by decide +kernel
theorem xw {k : Nat} (h : k < 64) : sH[0 + k * 1]? = some (.sc (.int .u8 (j8.getD k 0))) := by
 have hl : j8.length = 64 := rfl
 unfold sH
 rw [List.getElem?_map, Nat.zero_add, Nat.mul_one, Bj (by omega), List.getD_eq_getElem?_getD, Bj (by omega)]
 rfl
theorem C9 (x : Nat) (hx : x < 64) (h0 : x ≠ 0) : AC Tryz.prog 258 [ga x] [cz] fun c L => c = az (Cj x) ∧ L = [cz] := by
 refine aB Tryz.func258 rfl Tryz.ntmps258 rfl fun B => ?_
 have hz : ¬ ((x : Int) = 0) := by omega
 obtain ⟨k, hk⟩ := Int.eq_ofNat_of_zero_le (rj x hx h0).1
 have hk64 : k < 64 := by have := (rj x hx h0).2; omega
 have hkc := xw hk64
 repeat' (first|refine a8 ?_|refine a0 ?_|refine a5 ?_|refine a6 ?_|refine a7 a4 rfl rfl ?_)
 refine aq rfl (fun h => absurd (Dz h) hz) (fun _ => ?_)
 repeat' (first|refine a8 ?_|refine a0 ?_|refine ah ?_|refine a5 ?_|refine a7 a4 rfl rfl ?_)
 refine B4 rfl rfl ?_
 refine ph rfl rfl rfl ?_
 refine B3 rfl rfl rfl ?_
 refine sq 58 rfl rfl rfl rfl ?_
 refine sn a4 k rfl rfl rfl hk hk64 rfl ?_
 refine ai a4 0 rfl rfl rfl hkc rfl ?_
 refine k9 a4 rfl rfl rfl rfl rfl rfl ?_
 repeat' (first|refine ae ?_|refine a5 ?_|refine a6 ?_|refine a7 a4 rfl rfl ?_)
 refine ak rfl rfl ⟨?_, rfl⟩
 unfold Cj
 rw [hk, Int.toNat_natCast]
 have hb : ∀ k < 64, IntKind.i64.wrap (j8.getD k 0) = j8.getD k 0 := by decide
 rw [hb k hk64]
def oX (b : Nat) : Int := if b = 0 then -1 else Cj b
theorem tT (e : lY) (h : oO e) (bg fg : List Int) (hb : ec e.cls e.back e.backE bg &&& ec e.cls e.fore e.foreE fg < 64) : AC Tryz.prog 189 [vr e, .imm 1 (aU bg), .imm 1 (aU fg)] [cz] fun c L => c = az (oX (ec e.cls e.back e.backE bg &&& ec e.cls e.fore e.foreE fg)) ∧ L = [cz] := by
 refine aB Tryz.func189 rfl Tryz.ntmps189 rfl fun B => ?_
 haveI := AD.mk (wt e h fg)
 haveI := AD.mk (vR e h bg)
 have h1 := qX e.cls e.back e.backE h.back bg
 have h2 := qX e.cls e.fore e.foreE h.fore fg
 repeat' (first|refine a8 ?_|refine a0 ?_|refine a5 ?_|refine a6 ?_|refine a7 a4 rfl rfl ?_|refine aX ?_|fail)
 refine bj 5 [(0, .v), (1, .v), (2, .v), (3, .v), (4, .v)] none ?_ trivial rfl (by kernel_rfl) (by kernel_rfl) (by kernel_rfl) c9 (by kernel_rfl) rfl
 repeat' (first|refine aC ?_|refine bh a4 ?_|(apply cK;refine da ?_)|fail)
 refine bv [10, 11, 12] rfl rfl ?_
 repeat' (first|(apply bb;refine b4 ?_)|fail)
 refine ph rfl rfl rfl ?_
 rw [u64_and_nat _ _ h1 h2]
 generalize ec e.cls e.back e.backE bg &&& ec e.cls e.fore e.foreE fg = b at hb ⊢
 repeat' (first|refine a8 ?_|refine a0 ?_|refine a5 ?_|refine a6 ?_|refine a7 a4 rfl rfl ?_)
 unfold oX
 refine aq rfl (fun h => ?_) (fun h => ?_)
 ·have hb0 : b = 0 := by have := Dz h; omega
  rw [if_pos hb0]
  repeat' (first|refine a8 ?_|refine a0 ?_|refine ae ?_|refine a5 ?_|refine am ?_|refine a6 ?_|refine a7 a4 rfl rfl ?_)
  exact ak rfl rfl ⟨rfl, rfl⟩
 ·have hb0 : b ≠ 0 := by have := Dy h; omega
  rw [if_neg hb0]
  repeat' (first|refine a8 ?_|refine a0 ?_|refine ah ?_|refine a5 ?_|refine a7 a4 rfl rfl ?_)
  refine aN [cz] [] (C9 b hb hb0) rfl rfl (Do _) rfl fun c L1 ⟨hc, hL⟩ => ?_
  subst hc; subst hL
  repeat' (first|refine ae ?_|refine a5 ?_|refine a6 ?_|refine a7 a4 rfl rfl ?_)
  exact ak rfl rfl ⟨rfl, rfl⟩
end Go.Proofs.YtpmdfoaadejmkaaGreatDoor
namespace Go.Proofs.YtpmdfoaadejmkaaGreatDoor
open Go.RowKit
attribute [local irreducible] AT bf AX AO Av Kt aZ df DA cA
open Go.ChangeShapes Go.WideShapes Go.ChangeAt Go.RowKit
theorem Tryz.own : ownKnob Tryz.prog.godebug = none := by kernel_rfl
theorem Tryz.laidOut : laidOutB Tryz.prog = true := by kernel_rfl
theorem BO : Tryz.prog.globalNamed "math/bits.deBruijn64tab" = some 0 := by kernel_rfl
theorem wv : (Tryz.prog.globals[0]?).map (·.type) = some 364 := by kernel_rfl
theorem w3 : Tryz.prog.cellsOf 364 = 64 := by kernel_rfl
theorem ya : Tryz.prog.cellsOf 5 = 1 := by kernel_rfl
theorem Bg : (((begin Tryz.prog (fun _ _ => 0) default).world.heap)[0]?).bind Obj.row? = some ((List.replicate 64 (Value.int .u8 0)).toArray, 364) := by kernel_rfl
def BR : List (String × DataW Unit) := [("math/bits.deBruijn64tab", Lib.tabData .u8 j8)]
theorem C8 {W : World} (hL : laidMet Tryz.prog BR W) (hS : W.ShapedOpen Tryz.prog) : W.heap[0]? = some (.cells (j8.map (Value.int .u8)).toArray 364 (0, 0)) := by
 have h : Lib.TabIs Tryz.prog W "math/bits.deBruijn64tab" .u8 j8 := Lib.tabIs_of_head (rest := []) BO wv Tryz.underlying364 Tryz.underlying5 ya w3 hL
 obtain ⟨cs, h1, _, _⟩ := hS.1 0 _ 364 (Dz (by kernel_rfl)) Bg
 unfold Lib.TabIs World.var? at h
 rw [BO, Option.bind_some, h1] at h
 cases h
 exact h1
def wM (W : World) : bJ := fun b off => if b = 0 then none else W.cell? ⟨b, off, none⟩
theorem zu {σ : bJ} : cI σ sH (j8.map (Value.int .u8)) := by
 unfold sH
 generalize j8 = l
 induction l with
 | nil => exact cI.nil
 | cons x l ih => exact cI.cons (.sc _) ih
theorem rl {σ : bJ} {vs : List Value} (h : cI σ sH vs) : vs = j8.map (Value.int .u8) := by
 unfold sH at h
 revert vs
 generalize j8 = l
 induction l with
 | nil =>
  intro vs h
  exact List.eq_nil_of_length_eq_zero h.1.symm
 | cons x l ih =>
  intro vs h
  obtain ⟨y, u, rfl, h1, h2⟩ := cI.inv h
  rw [h1.sc_inv, ih h2]
  rfl
theorem yS {W : World} (h : W.heap[0]? = some (.cells (j8.map (Value.int .u8)).toArray 364 (0, 0))) : ck ⟨W, wM W, [0]⟩ (wM W) [cz] W := by
 have h0 : 0 < W.heap.size := by
  rcases Nat.lt_or_ge 0 W.heap.size with h' | h'
  ·exact h'
  ·rw [Array.getElem?_eq_none h'] at h; cases h
 refine ⟨rfl, rfl, rfl, Nat.le_refl _, fun _ _ _ => rfl, fun p hp => ?_, fun p hp => ?_, by simp, fun b off u hu => ?_, fun p hp off _ => ?_, fun _ _ _ h => h, fun _ _ _ _ => rfl⟩
 ·rw [List.mem_singleton.1 hp]
  exact ⟨_, h, _, rfl, zu, fun u hu => by
   obtain ⟨z, _, rfl⟩ := List.mem_map.1 hu
   rfl⟩
 ·rw [List.mem_singleton.1 hp]
  exact .inr (by simp)
 ·unfold wM at hu
  split at hu
  ·cases hu
  ·exact hu
 ·rw [List.mem_singleton.1 hp]
  rfl
theorem zR {n : Int} (h : (Lit.int .u8 n).wf = true) : 0 ≤ n ∧ n ≤ 255 := by
 unfold Lit.wf at h
 rw [Bool.and_eq_true] at h
 have h1 : IntKind.min .u8 ≤ n := Dz h.1
 have h2 : n ≤ IntKind.max .u8 := Dz h.2
 have e1 : IntKind.min .u8 = 0 := by decide
 have e2 : IntKind.max .u8 = 255 := by decide
 omega
theorem vb {f : FuncId} {args : List AV} {u : Value} (h : AC Tryz.prog f args [cz] fun c L => c = .sc u ∧ L = [cz]) (W : World) (hT : W.heap[0]? = some (.cells (j8.map (Value.int .u8)).toArray 364 (0, 0))) (vs : List Value) (hv : cI (wM W) args vs) : Calls Tryz.prog f vs.toArray W fun e W' => ∃ v, e = .returned v ∧ Below W.heap.size W W' ∧ v = u :=
 (h (wM W) W vs hv (yS hT)).mono fun e W' ⟨v, τ, c, L', he, hr, hst, hc, hL⟩ => by
  subst hc
  subst hL
  refine ⟨v, he, ⟨hst.os, hst.tape, hst.output, hst.size, fun k hk => ?_⟩, hr.sc_inv⟩
  by_cases h0 : k = 0
  ·subst h0
   obtain ⟨o, h1, vs', h2, h3, _⟩ := hst.here cz (by simp)
   rw [h1, h2, hT, rl h3]
  ·exact hst.old k hk (by simp [h0])
end Go.Proofs.YtpmdfoaadejmkaaGreatDoor
namespace Go.Proofs.YtpmdfoaadejmkaaGreatDoor
open Go.RowKit
attribute [local irreducible] AT bf AX AO Av Kt aZ df DA cA
section
variable {α : Type} [BEq α] [LawfulBEq α]
def cU (t : List α) (z : α) : List α := if t.contains z = true then t else t ++ [z]
theorem dQ {t : List α} {z : α} (h : z ∈ t) : cU t z = t := if_pos (List.contains_iff_mem.2 h)
theorem ez {t : List α} {z : α} (h : z ∉ t) : cU t z = t ++ [z] := if_neg fun e => h (List.contains_iff_mem.1 e)
theorem iG (t : List α) (z : α) : z ∈ cU t z := by
 by_cases h : z ∈ t
 ·rw [dQ h]; exact h
 ·rw [ez h]; simp
theorem re {t : List α} {x : α} (z : α) (h : x ∈ t) : x ∈ cU t z := by
 by_cases hz : z ∈ t
 ·rw [dQ hz]; exact h
 ·rw [ez hz]; simp [h]
theorem nu {t : List α} {x : α} (z : α) (h : x ∈ t) : (cU t z).idxOf x = t.idxOf x := by
 by_cases hz : z ∈ t
 ·rw [dQ hz]
 ·rw [ez hz, List.idxOf_append, if_pos h]
theorem ku {t : List α} {z : α} (h : z ∉ t) : (cU t z).idxOf z = t.length := by
 rw [ez h, List.idxOf_append, if_neg h, List.idxOf_cons_self, Nat.zero_add]
theorem zl {t : List α} {z : α} : (cU t z)[(cU t z).idxOf z]? = some z := by
 have h := List.idxOf_lt_length_of_mem (iG t z)
 rw [Bj h, List.getElem_idxOf]
theorem kr {t : List α} {x : α} {i : Nat} (z : α) (h : t[i]? = some x) : (cU t z)[i]? = some x := by
 by_cases hz : z ∈ t
 ·rw [dQ hz]; exact h
 ·rw [ez hz, List.getElem?_append_left (Dp h).1]; exact h
theorem jA {t : List α} (z : α) (h : t.Nodup) : (cU t z).Nodup := by
 by_cases hz : z ∈ t
 ·rw [dQ hz]; exact h
 ·rw [ez hz, List.nodup_append]
  exact ⟨h, by simp, fun a ha b hb => by rw [List.mem_singleton] at hb; subst hb; exact fun e => hz (e ▸ ha)⟩
theorem nv (t : List α) (z : α) : t.length ≤ (cU t z).length ∧ (cU t z).length ≤ t.length + 1 := by
 by_cases hz : z ∈ t
 ·rw [dQ hz]; omega
 ·rw [ez hz, List.length_append, List.length_singleton]; omega
theorem tk {t : List α} {x y : α} (hx : x ∈ t) (hy : y ∈ t) (h : t.idxOf x = t.idxOf y) : x = y := by
 have h1 := List.getElem_idxOf (List.idxOf_lt_length_of_mem hx)
 have h2 := List.getElem_idxOf (List.idxOf_lt_length_of_mem hy)
 rw [← h1, ← h2]
 congr 1
end
def fC (k : Int) (st : List Int × List Int) (g : Int) : List Int × List Int :=
 (st.1.set g.toNat (k + ((cU st.2 (st.1.getD g.toNat 0)).idxOf (st.1.getD g.toNat 0) : Nat)), cU st.2 (st.1.getD g.toNat 0))
def gQ (st : List Int × Int) (s : List Int) : List Int × Int := ((s.foldl (fC st.2) (st.1, [])).1, st.2 + (s.foldl (fC st.2) (st.1, [])).2.length)
def kj (n : Nat) (sets : List (List Int)) : List Int × Int := sets.foldl gQ (List.replicate n 0, 1)
structure m5 (c0 : List Int) (k : Int) (p : List Int) (st : List Int × List Int) : Prop where
 len : st.1.length = c0.length
 nodup : st.2.Nodup
 few : st.2.length ≤ p.length
 at_ : ∀ (i : Nat) z, c0[i]? = some z → ((i : Int) ∈ p ∧ z ∈ st.2 ∧ st.1[i]? = some (k + (st.2.idxOf z : Nat))) ∨ ((i : Int) ∉ p ∧ st.1[i]? = some z)
theorem pd {c0 : List Int} {k : Int} {p : List Int} {st : List Int × List Int} (h : m5 c0 k p st) {g : Int} (h0 : 0 ≤ g) (hl : g < c0.length) (hn : g ∉ p) : m5 c0 k (p ++ [g]) (fC k st g) := by
 obtain ⟨z, hz⟩ : ∃ z, c0[g.toNat]? = some z := ⟨_, Bj (by omega)⟩
 have hg0 : ((g.toNat : Nat) : Int) = g := Int.toNat_of_nonneg h0
 have hzs : st.1[g.toNat]? = some z := by
  rcases h.at_ g.toNat z hz with ⟨h1, _⟩ | ⟨_, h2⟩
  ·rw [hg0] at h1; exact absurd h1 hn
  ·exact h2
 have hzd : st.1.getD g.toNat 0 = z := by rw [List.getD_eq_getElem?_getD, hzs]; rfl
 unfold fC
 rw [hzd]
 refine ⟨by rw [List.length_set]; exact h.len, jA _ h.nodup, ?_, fun i y hy => ?_⟩
 ·have := h.few
  rw [List.length_append, List.length_singleton]
  have h2 := (nv st.2 z).2
  dsimp only
  omega
 ·by_cases hi : i = g.toNat
  ·subst hi
   rw [hz] at hy
   cases hy
   refine Or.inl ⟨by rw [hg0]; simp, iG _ _, ?_⟩
   dsimp only
   rw [List.getElem?_set_self (by rw [h.len]; omega)]
  ·have hne : g.toNat ≠ i := fun e => hi e.symm
   have hne2 : (i : Int) ≠ g := fun e => hi (by omega)
   dsimp only
   rw [List.getElem?_set_ne hne]
   rcases h.at_ i y hy with ⟨h1, h2, h3⟩ | ⟨h1, h2⟩
   ·exact Or.inl ⟨List.mem_append_left _ h1, re _ h2, by rw [h3, nu _ h2]⟩
   ·exact Or.inr ⟨by simp [h1, hne2], h2⟩
theorem lI {c0 : List Int} {k : Int} : ∀ {s p : List Int} {st : List Int × List Int}, m5 c0 k p st → (∀ g ∈ s, 0 ≤ g ∧ g < c0.length) → (p ++ s).Nodup → m5 c0 k (p ++ s) (s.foldl (fC k) st)
 | [], p, st, h, _, _ => by rw [List.append_nil]; exact h
 | g :: s, p, st, h, hd, hn => by
  have hg := hd g (by simp)
  have hgp : g ∉ p := fun hp => by
   rw [List.nodup_append] at hn
   exact hn.2.2 g hp g (by simp) rfl
  have := lI (s := s) (pd h hg.1 hg.2 hgp) (fun x hx => hd x (by simp [hx])) (by rw [List.append_assoc]; exact hn)
  rw [List.append_assoc] at this
  exact this
structure jE (n : Nat) (done : List (List Int)) (st : List Int × Int) : Prop where
 len : st.1.length = n
 dom : ∀ z ∈ st.1, 0 ≤ z ∧ z < st.2
 pos : 0 ≤ st.2
 apart : ∀ s ∈ done, ∀ (i j : Nat) z, st.1[i]? = some z → st.1[j]? = some z → ((i : Int) ∈ s ↔ (j : Int) ∈ s)
theorem px {n : Nat} {done : List (List Int)} {st : List Int × Int} (h : jE n done st) {s : List Int} (hd : ∀ g ∈ s, 0 ≤ g ∧ g < (n : Int)) (hn : s.Nodup) : jE n (done ++ [s]) (gQ st s) := by
 have hm := lI (c0 := st.1) (k := st.2) (s := s) (p := []) (st := (st.1, [])) ⟨rfl, by simp, by simp, fun i z hz => Or.inr ⟨by simp, hz⟩⟩ (fun g hg => by rw [h.len]; exact hd g hg) (by simpa using hn)
 rw [Dr] at hm
 unfold gQ
 generalize s.foldl (fC st.2) (st.1, []) = r at hm
 have hp := h.pos
 have get : ∀ {i : Nat} {z : Int}, r.1[i]? = some z → ∃ y, st.1[i]? = some y ∧ (0 ≤ y ∧ y < st.2) ∧ (((i : Int) ∈ s ∧ y ∈ r.2 ∧ z = st.2 + (r.2.idxOf y : Nat)) ∨ ((i : Int) ∉ s ∧ z = y)) := by
  intro i z hz
  have hi := (Dp hz).1
  rw [hm.len] at hi
  obtain ⟨y, hy⟩ : ∃ y, st.1[i]? = some y := ⟨_, Bj hi⟩
  refine ⟨y, hy, h.dom y (Dw hy), ?_⟩
  rcases hm.at_ i y hy with ⟨h1, h2, h3⟩ | ⟨h1, h2⟩
  ·rw [hz] at h3
   cases h3
   exact Or.inl ⟨h1, h2, rfl⟩
  ·rw [hz] at h2
   cases h2
   exact Or.inr ⟨h1, rfl⟩
 refine ⟨by rw [← h.len]; exact hm.len, fun z hz => ?_, by dsimp only; omega, fun t ht i j z hi hj => ?_⟩
 ·obtain ⟨i, hi⟩ := List.mem_iff_getElem?.1 hz
  obtain ⟨y, _, ⟨h1, h2⟩, h3⟩ := get hi
  dsimp only
  rcases h3 with ⟨_, h4, h5⟩ | ⟨_, h5⟩
  ·have := List.idxOf_lt_length_of_mem h4
   omega
  ·omega
 ·obtain ⟨y, hy, hy0, hy1⟩ := get hi
  obtain ⟨x, hx, hx0, hx1⟩ := get hj
  have hxy : x = y ∧ ((i : Int) ∈ s ↔ (j : Int) ∈ s) := by
   rcases hy1 with ⟨a1, a2, a3⟩ | ⟨a1, a2⟩ <;> rcases hx1 with ⟨b1, b2, b3⟩ | ⟨b1, b2⟩
   ·exact ⟨tk b2 a2 (by omega), by simp [a1, b1]⟩
   ·omega
   ·omega
   ·exact ⟨by omega, by simp [a1, b1]⟩
  rw [List.mem_append, List.mem_singleton] at ht
  rcases ht with ht | rfl
  ·exact h.apart t ht i j y hy (hxy.1 ▸ hx)
  ·exact hxy.2
theorem lK {n : Nat} : ∀ {sets done : List (List Int)} {st : List Int × Int}, jE n done st → (∀ s ∈ sets, (∀ g ∈ s, 0 ≤ g ∧ g < (n : Int)) ∧ s.Nodup) → jE n (done ++ sets) (sets.foldl gQ st)
 | [], done, st, h, _ => by rw [List.append_nil]; exact h
 | s :: sets, done, st, h, hd => by
  have := lK (sets := sets) (px h (hd s (by simp)).1 (hd s (by simp)).2) fun x hx => hd x (by simp [hx])
  rw [List.append_assoc] at this
  exact this
theorem jx {n : Nat} {sets : List (List Int)} (h : ∀ s ∈ sets, (∀ g ∈ s, 0 ≤ g ∧ g < (n : Int)) ∧ s.Nodup) : jE n sets (kj n sets) := by
 have := lK (sets := sets) (done := []) (st := (List.replicate n 0, 1)) ⟨by simp, fun z hz => by rw [(List.mem_replicate.1 hz).2]; omega, by dsimp only; omega, fun s hs => by cases hs⟩ h
 rwa [Dr] at this
def fO (l : List Int) : List Int := l.foldl cU []
theorem gr (l : List Int) (z : Int) : fO (l ++ [z]) = cU (fO l) z := by simp [fO]
theorem kw {P : List Int → Prop} (h0 : P []) (h : ∀ l z, P l → P (l ++ [z])) (l : List Int) : P l := by
 have : ∀ (n : Nat) (l : List Int), l.length = n → P l := by
  intro n
  induction n with
  | zero => intro l hl; rw [List.length_eq_zero_iff.1 hl]; exact h0
  | succ n ih =>
   intro l hl
   have hne : l ≠ [] := fun e => by rw [e] at hl; simp at hl
   rw [← List.dropLast_concat_getLast hne]
   exact h _ _ (ih _ (by rw [List.length_dropLast]; omega))
 exact this _ l rfl
theorem kv (l : List Int) : ∀ z ∈ l, z ∈ fO l := by
 refine kw (P := fun l => ∀ z ∈ l, z ∈ fO l) (fun z hz => by cases hz) (fun l y ih z hz => ?_) l
 rw [gr]
 rw [List.mem_append, List.mem_singleton] at hz
 rcases hz with hz | rfl
 ·exact re _ (ih z hz)
 ·exact iG _ _
theorem sG (l : List Int) : (fO l).Nodup := by
 refine kw (P := fun l => (fO l).Nodup) (by simp [fO]) (fun l y ih => ?_) l
 rw [gr]
 exact jA _ ih
theorem xt (l : List Int) : (fO l).length ≤ l.length := by
 refine kw (P := fun l => (fO l).length ≤ l.length) (by simp [fO]) (fun l y ih => ?_) l
 rw [gr, List.length_append, List.length_singleton]
 have := (nv (fO l) y).2
 omega
def eA (l : List Int) : List Int := l.map fun z => ((fO l).idxOf z : Nat)
theorem sL (l : List Int) (z : Int) : eA (l ++ [z]) = eA l ++ [(((cU (fO l) z).idxOf z : Nat) : Int)] := by
 unfold eA
 rw [gr, List.map_append]
 congr 1
 refine List.map_congr_left fun y hy => ?_
 rw [nu _ (kv l y hy)]
theorem eU (l : List Int) : (eA l).length = l.length := by simp [eA]
def cP (n : Nat) (sets : List (List Int)) : List Int := eA (kj n sets).1
def eI (l : List Int) : Int := l.foldl (fun m z => max m (z + 1)) 0
theorem mX : ∀ {l : List Int} {m : Int}, m ≤ l.foldl (fun m z => max m (z + 1)) m ∧ ∀ z ∈ l, z < l.foldl (fun m z => max m (z + 1)) m
 | [], m => ⟨Int.le_refl _, fun z hz => by cases hz⟩
 | a :: l, m => by
  obtain ⟨h1, h2⟩ := mX (l := l) (m := max m (a + 1))
  rw [List.foldl_cons]
  refine ⟨by omega, fun z hz => ?_⟩
  rw [List.mem_cons] at hz
  rcases hz with rfl | hz
  ·omega
  ·exact h2 z hz
theorem ot : ∀ {l : List Int} {m k : Int}, m ≤ k → (∀ z ∈ l, z < k) → l.foldl (fun m z => max m (z + 1)) m ≤ k
 | [], _, _, h, _ => h
 | a :: l, m, k, h, hl => by
  rw [List.foldl_cons]
  exact ot (by have := hl a (by simp); omega) fun z hz => hl z (by simp [hz])
theorem oy (n : Nat) (sets : List (List Int)) (h : ∀ s ∈ sets, (∀ g ∈ s, 0 ≤ g ∧ g < (n : Int)) ∧ s.Nodup) : (cP n sets).length = n := by
 unfold cP
 rw [eU]
 exact (jx h).len
theorem ox (n : Nat) (sets : List (List Int)) (h : ∀ s ∈ sets, (∀ g ∈ s, 0 ≤ g ∧ g < (n : Int)) ∧ s.Nodup) : ∀ z ∈ cP n sets, 0 ≤ z ∧ z < n := by
 intro z hz
 have hl := (jx h).len
 unfold cP eA at hz
 obtain ⟨y, hy, rfl⟩ := List.mem_map.1 hz
 have h1 := List.idxOf_lt_length_of_mem (kv _ y hy)
 have h2 := xt (kj n sets).1
 omega
theorem qR (n : Nat) (sets : List (List Int)) (h : ∀ s ∈ sets, (∀ g ∈ s, 0 ≤ g ∧ g < (n : Int)) ∧ s.Nodup) : pT n (eI (cP n sets)).toNat (cP n sets) sets := by
 refine ⟨oy n sets h, fun z hz => ?_, fun s hs i j z hi hj => ?_⟩
 ·have h1 := (ox n sets h z hz).1
  have h2 := (mX (l := cP n sets) (m := 0)).2 z hz
  unfold eI
  omega
 ·unfold cP eA at hi hj
  rw [List.getElem?_map, Option.map_eq_some_iff] at hi hj
  obtain ⟨x, hx, hx1⟩ := hi
  obtain ⟨y, hy, hy1⟩ := hj
  have hxy : x = y := tk (kv _ x (Dw hx)) (kv _ y (Dw hy)) (by omega)
  subst hxy
  exact (jx h).apart s hs i j x hx hy
end Go.Proofs.YtpmdfoaadejmkaaGreatDoor
namespace Go.Proofs.YtpmdfoaadejmkaaGreatDoor
open Go.RowKit Go.MapKept
section
variable {P : Program} {fr : bw} {B : Bs} {L : AL} {d : Option Tmp} {ty t : TypeId} {pos : String} {af : Array Edge} {g : Option (Nat × Bool)} {x y z : Operand} {u : AV}
theorem u1 (i : Nat) {b kt et : Nat} {kd : TypeDesc} {m : Value → Option AV} {ks : List Value} (ht : P.underlying t = some (.map kt et)) (hx : aW fr x = some (.sc (.map (some b)))) (hL : L[i]? = some (b, ce kd m)) (hn : ks.Pairwise (· ≠ ·)) (hk : ∀ k, (m k).isSome = true ↔ k ∈ ks) :
    AO P ⟨d, .call ⟨.builtin .len, #[x], #[t]⟩, ty, pos, af, g⟩ fr B L (fun c L' => c = .sc (.int .i64 ks.length) ∧ L' = L) := by
  intro σ ρ w hρ hw
  obtain ⟨o, ho, hM⟩ := hw.here _ (Dw hL)
  have hM' : gX kd m σ o := hM
  obtain ⟨es, clock, rfl, h1, h2, h3⟩ := hM'
  have hl : es.size = ks.length := by
    have key : ∀ (es : List MapEntry) (ks : List Value), es.Pairwise (fun x y => x.key ≠ y.key) → ks.Pairwise (· ≠ ·) → (∀ k, (∃ x ∈ es, x.key = k) ↔ k ∈ ks) → es.length = ks.length := by
      intro es
      induction es with
      | nil =>
        intro ks _ _ h
        cases ks with
        | nil => rfl
        | cons k ks => obtain ⟨x, hx, _⟩ := (h k).2 (by simp); cases hx
      | cons e es ih =>
        intro ks he hks h
        obtain ⟨he1, he2⟩ := List.pairwise_cons.1 he
        obtain ⟨a, c, rfl⟩ := List.append_of_mem ((h e.key).1 ⟨e, by simp, rfl⟩)
        obtain ⟨p1, p2, p3⟩ := List.pairwise_append.1 hks
        obtain ⟨p4, p5⟩ := List.pairwise_cons.1 p2
        have := ih (a ++ c) he2 (List.pairwise_append.2 ⟨p1, p5, fun x hx y hy => p3 x hx y (by simp [hy])⟩) fun k => by
          constructor
          · rintro ⟨x, hx, rfl⟩
            have hm := (h x.key).1 ⟨x, by simp [hx], rfl⟩
            rw [List.mem_append, List.mem_cons] at hm
            rw [List.mem_append]
            rcases hm with hm | hm | hm
            · exact .inl hm
            · exact absurd hm.symm (he1 x hx)
            · exact .inr hm
          · intro hk
            obtain ⟨x, hx, hxk⟩ := (h k).2 (by rw [List.mem_append] at hk; rw [List.mem_append, List.mem_cons]; rcases hk with hk | hk; exact .inl hk; exact .inr (.inr hk))
            rcases List.mem_cons.1 hx with rfl | hx
            · exfalso
              rw [List.mem_append] at hk
              rcases hk with hk | hk
              · exact p3 k hk _ (List.mem_cons_self ..) hxk.symm
              · exact p4 k hk hxk
            · exact ⟨x, hx, hxk⟩
        rw [List.length_cons, this, List.length_append, List.length_append, List.length_cons]
        omega
    have := key es.toList ks h2 hn fun k => by
      rw [← hk]
      constructor
      · rintro ⟨x, hx, rfl⟩
        obtain ⟨_, c, hc, _⟩ := h1 x hx
        rw [hc]; rfl
      · intro h
        obtain ⟨c, hc⟩ := Option.isSome_iff_exists.1 h
        exact h3 k c hc
    simpa using this
  unfold fq
  have hg := MapKept.run_getObj_map (P := P) ho
  rw [show (execOp ρ ⟨d, .call ⟨.builtin .len, #[x], #[t]⟩, ty, pos, af, g⟩).run P w = .ok (.value (.int .i64 ks.length)) w by
    simp [execOp, resolve, (hρ x _ hx).sc_inv, invoke, builtin, Builtin.len_, run_underlying ht, hg, goInt, hl, Result.andThen]]
  exact ⟨σ, .sc _, _, bJ.le_refl _, .sc _, hw, rfl, rfl⟩
end
section
variable {P : Program} {tt : TT} {r : Option Nat} {ops : Array Oper} {Q : Exit → Act → World → Prop} {nt : Nat} {D : List Deferred} {fr : bw} {B : Bs} {L : AL} {rest : List Oper} {d : Nat} {ty t t' : TypeId} {pos : String} {af : Array Edge} {x y z : Operand} {u : AV}
theorem wX (i : Nat) (ks : List Value) {b kt et : Nat} {kd : TypeDesc} {m : Value → Option AV} (ht : P.underlying t = some (.map kt et)) (hx : aW fr x = some (.sc (.map (some b)))) (hL : L[i]? = some (b, ce kd m)) (hn : ks.Pairwise (· ≠ ·)) (hk : ∀ k, (m k).isSome = true ↔ k ∈ ks) (hd : Nat.ble nt d = false) (h : bf P r ops Q nt D rest ((d, .sc (.int .i64 ks.length)) :: fr) B L) : bf P r ops Q nt D (⟨some d, .call ⟨.builtin .len, #[x], #[t]⟩, ty, pos, af, none⟩ :: rest) fr B L :=
  c6 hd rfl (u1 i ht hx hL hn hk) fun c L' ⟨h1, h2⟩ => by subst h1; subst h2; exact h
end
end Go.Proofs.YtpmdfoaadejmkaaGreatDoor
namespace Go.Proofs.YtpmdfoaadejmkaaGreatDoor
open Go.RowKit
attribute [local irreducible] AT bf AX AO Av Kt aZ df DA cA
open Go.MapKept
abbrev KJ : TypeDesc := .int .i64
def CV (l : List Int) : Value → Option AV
 | .int .i64 z => if z ∈ l then some (dx true) else none
 | _ => none
def CU (f : aM) (n : Int) : Bool := match f.Glyphs[n.toNat]? with | some g => g.Mark | none => false
end Go.Proofs.YtpmdfoaadejmkaaGreatDoor
namespace Go.Proofs.YtpmdfoaadejmkaaGreatDoor
open Go.RowKit
end Go.Proofs.YtpmdfoaadejmkaaGreatDoor
namespace Go.Proofs.YtpmdfoaadejmkaaGreatDoor
open Go.RowKit
section
variable {P : Program} {r : Option Nat} {Q : Exit → Act → World → Prop} {nt : Nat} {D : List Deferred} {fr : bw} {B : Bs} {L : AL}
theorem y1 {α : Type} {A C : Code} (ks : List Nat) (fr1 : α → bw) (L1 : α → AL) (φ : α → Prop) (hA : ∀ Q', (∀ x fr', φ x → fu fr' ks = some (fr1 x) → AX P .normal Q' nt D fr' B (L1 x)) → AT P r A Q' nt D fr B L) (hB : ∀ x, φ x → AT P r C Q nt D (fr1 x) B (L1 x)) : AT P r A (Kt P r C Q) nt D fr B L :=
 hA _ fun x _ hx h => a5 (xZ ks h (hB x hx))
end
theorem qB {α : Type} {sz : Nat} : ∀ (l : List (List α)) (i c : Nat) (e : List α) (v : α), (∀ e ∈ l, e.length = sz) → l[i]? = some e → c < sz → l.flatten.set (i * sz + c) v = (l.set i (e.set c v)).flatten
 | [], i, c, e, v, _, h, _ => by simp at h
 | x :: l, 0, c, e, v, hs, h, hc => by
  simp at h
  subst h
  have hx := hs x (List.mem_cons_self ..)
  rw [List.flatten_cons, List.set_cons_zero, List.flatten_cons, Nat.zero_mul, Nat.zero_add, List.set_append_left _ _ (by omega)]
 | x :: l, i + 1, c, e, v, hs, h, hc => by
  have hx := hs x (List.mem_cons_self ..)
  rw [List.flatten_cons, List.set_cons_succ, List.flatten_cons, ← qB l i c e v (fun e he => hs e (Dt _ he)) (by simpa using h) hc, List.set_append_right _ _ (by rw [hx, Nat.add_mul]; omega), hx, show (i + 1) * sz + c - sz = i * sz + c by rw [Nat.add_mul]; omega]
end Go.Proofs.YtpmdfoaadejmkaaGreatDoor
