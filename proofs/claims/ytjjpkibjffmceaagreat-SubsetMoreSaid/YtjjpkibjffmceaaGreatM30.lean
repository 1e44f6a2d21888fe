/-
  What is asked for, by bits.
-/
import Derived.Test.YtjjpkibjffmceaaGreatM25
import Derived.Test.YtjjpkibjffmceaaGreatM29
import Derived.Laws.BitsAllLaws
import Derived.Test.YtjjpkibjffmceaaGreatM05
import Derived.Laws.Shifts
import Derived.Test.YtjjpkibjffmceaaGreatM24
import Derived.Test.YtjjpkibjffmceaaGreatM06
import Derived.Test.YtjjpkibjffmceaaGreatM11
import Derived.Test.YtjjpkibjffmceaaGreatM23
namespace Go.Proofs.YtjjpkibjffmceaaGreat
open Go.RowKit
attribute [local irreducible] AT bV AX AO Av Kt bC eH DA dl
def gh (a : Int) (i : Nat) : Bool := decide (bits .and .u32 (a / 2 ^ min i 32) 1 = 1)
theorem sI {a i : Nat} (ha : a < 4294967296) (hi : i < 32) : gh a i = a.testBit i := by
 unfold gh
 rw [Nat.min_eq_left (by omega)]
 have h1 : ((a : Int) / 2 ^ i) = ((a / 2 ^ i : Nat) : Int) := by
  rw [Int.natCast_ediv, Int.natCast_pow]
  rfl
 have h2 : a / 2 ^ i < 4294967296 := Nat.lt_of_le_of_lt (Nat.div_le_self ..) ha
 have h3 := u32_and_nat (a / 2 ^ i) 1 h2 (by omega)
 rw [h1, show (1 : Int) = ((1 : Nat) : Int) from rfl, h3, Nat.and_one_is_mod, Nat.testBit_eq_decide_div_mod_eq]
 exact decide_eq_decide.2 (by omega)
theorem vF {a b : Int} {i : Nat} (ha : 0 ≤ a ∧ a < 4294967296) (hb : 0 ≤ b ∧ b < 4294967296) (hi : i < 32) (h : gh a i = true) : gh (bits .or .u32 a b) i = true := by
 obtain ⟨n, rfl⟩ := Int.eq_ofNat_of_zero_le ha.1
 obtain ⟨m, rfl⟩ := Int.eq_ofNat_of_zero_le hb.1
 rw [u32_or_nat n m (by omega) (by omega)]
 rw [sI (by omega) hi] at h
 rw [sI (Nat.or_lt_two_pow (n := 32) (by omega) (by omega)) hi, Nat.testBit_or, h]
 rfl
def eI {α : Type} (p : Nat → Bool) (l : List α) : Nat → List α
 | 0 => []
 | k + 1 => eI p l k ++ (if p k = true then (l[k]?).toList else [])
theorem ia {α : Type} {p : Nat → Bool} {l : List α} {x : α} : ∀ {k : Nat}, x ∈ eI p l k ↔ ∃ i, i < k ∧ p i = true ∧ l[i]? = some x
 | 0 => by simp [eI]
 | k + 1 => by
  rw [eI, List.mem_append, ia]
  constructor
  ·rintro (⟨i, h1, h2⟩ | h)
   ·exact ⟨i, by omega, h2⟩
   ·split at h
    ·rename_i hp
     exact ⟨k, by omega, hp, Option.mem_toList.1 h⟩
    ·cases h
  ·rintro ⟨i, h1, h2, h3⟩
   by_cases e : i = k
   ·subst e
    right
    rw [if_pos h2]
    exact Option.mem_toList.2 h3
   ·exact .inl ⟨i, by omega, h2, h3⟩
theorem jd {α : Type} (p : Nat → Bool) (l : List α) : ∀ k, (eI p l k).length ≤ k
 | 0 => Nat.le_refl _
 | k + 1 => by
  have := jd p l k
  rw [eI, List.length_append]
  split
  ·cases l[k]? <;> simp <;> omega
  ·simp; omega
def zR : ByteArray := bytes [110, 111, 110, 101]
def oN (a : Int) : List Int := eI (gh a) fI 17
def sC (a : Int) : List ByteArray := eI (gh a) (dU ++ [zR]) 9
theorem qA {a z : Int} (h : z ∈ oN a) : z ∈ fI := by
 obtain ⟨i, _, _, hi⟩ := ia.1 h
 exact Gx hi
theorem mR {rs : List Int} (h : ∀ z ∈ rs, z ∈ fI ∨ z = 1114111) : rs.any qi = false := by
 rw [Bool.eq_false_iff]
 intro hb
 obtain ⟨z, hz, hbz⟩ := List.any_eq_true.1 hb
 rcases h z hz with k | rfl
 ·rw [Ay _ k] at hbz; cases hbz
 ·exact absurd hbz (by decide)
theorem ph {l : List ByteArray} {s : ByteArray} : fE l s = true ↔ s ∈ l := by
 unfold fE
 rw [List.any_eq_true]
 constructor
 ·rintro ⟨t, h1, h2⟩
  rw [← Gz h2]; exact h1
 ·exact fun h => ⟨s, h, decide_eq_true rfl⟩
def mB {α : Type} (x : α) (l : List α) : List α := x :: (l.reverse.flatMap fun y => [y, y])
theorem nw {α : Type} {x y : α} {l : List α} : y ∈ mB x l ↔ y = x ∨ y ∈ l := by
 simp [mB]
def dz : ByteArray := bytes [110, 111, 116, 104, 105, 110, 103]
theorem y6 {f : aI} (h : eN f) (rs : List Int) (fs : List ByteArray) : f4 f rs (mB 1114111 rs) fs (mB dz fs) := by
 refine ⟨fun c hc => ?_, fun t ht => ?_⟩
 ·rw [nw]
  have hm : c.Rune ∈ eV := h.charR.subset (List.mem_map_of_mem hc)
  have hne : c.Rune ≠ 1114111 := fun e => by rw [e] at hm; exact absurd hm (by decide)
  exact ⟨.inr, fun h => h.resolve_left hne⟩
 ·have hm : t.Name ∈ dU := h.featN.subset (List.mem_map_of_mem ht)
  have hne : t.Name ≠ dz := (by decide : ∀ s ∈ dU, s ≠ dz) _ hm
  rw [Bool.eq_iff_iff, ph, ph, nw]
  exact ⟨.inr, fun h => h.resolve_left hne⟩
theorem yx {f : aI} {a b c d : Int} (ha : 0 ≤ a ∧ a < 4294967296) (hb : 0 ≤ b ∧ b < 4294967296) (hc : 0 ≤ c ∧ c < 4294967296) (hd : 0 ≤ d ∧ d < 4294967296) :
  ∀ z ∈ gY f (oN a) (sC c), z ∈ gY f (oN (bits .or .u32 a b)) (sC (bits .or .u32 c d)) := by
 refine xe (fun z hz => ?_) fun s hs => ?_
 ·obtain ⟨i, h1, h2, h3⟩ := ia.1 hz
  exact ia.2 ⟨i, h1, vF ha hb (by omega) h2, h3⟩
 ·rw [ph] at hs ⊢
  obtain ⟨i, h1, h2, h3⟩ := ia.1 hs
  exact ia.2 ⟨i, h1, vF hc hd (by omega) h2, h3⟩
noncomputable def gk (f : aI) (rs : List Int) (fs : List ByteArray) : List Int := dY (gY f rs fs)
theorem n7 {f : aI} {rs : List Int} {fs : List ByteArray} {z : Int} : z ∈ gk f rs fs ↔ z ∈ gY f rs fs := (gO _).mem_iff
theorem n8 (f : aI) (rs : List Int) (fs : List ByteArray) : co f.Glyphs.length (gk f rs fs) := by
 have h := (ou (f := f) rs fs).ok
 exact ⟨(gO _).nodup_iff.2 h.nodup, fun z hz => h.dom z (n7.1 hz)⟩
theorem xd (f : aI) (rs : List Int) (fs : List ByteArray) : (gk f rs fs).length ≤ f.Glyphs.length := gK (n8 f rs fs).nodup (n8 f rs fs).dom
theorem vb (f : aI) (fs : List ByteArray) : (reachN f fs).length ≤ f.Lookups.length := by
 unfold reachN
 refine Nat.le_trans (List.length_filter_le ..) ?_
 simp
end Go.Proofs.YtjjpkibjffmceaaGreat
namespace Go.Proofs.YtjjpkibjffmceaaGreat
open Go.RowKit
section
variable {P : Program} {tt : TT} {r : Option Nat} {ops : Array Oper} {Q : Exit → Act → World → Prop} {nt : Nat} {D : List Deferred} {fr : cg} {B : Bs} {L : AL} {rest : List Oper} {d : Nat} {ty t t' : TypeId} {pos : String} {af : Array Edge} {g : Option (Nat × Bool)} {x y z : Operand} {u : AV}
theorem Dm {dd : Option Tmp} {k kk : IntKind} {a b : Int} (i : Nat) (hx : bH fr x = some (.sc (.int k a))) (hy : bH fr y = some (.sc (.int kk b))) (hb : b = (i : Int)) : Av P ⟨dd, .binOp .shr t x y t', ty, pos, af, g⟩ fr (.sc (.int k (a / 2 ^ min i k.bits))) := by
 intro σ ρ w hρ _
 subst hb
 refine ⟨_, ?_, .sc _⟩
 have h := shift_shr_any k kk a (i : Int) (Int.natCast_nonneg i)
 simp [execOp, (hρ x _ hx).sc_inv, (hρ y _ hy).sc_inv, eqGuard, binOp, h]
theorem D7 {dd : Option Tmp} {k : IntKind} {a b : Int} (hx : bH fr x = some (.sc (.int k a))) (hy : bH fr y = some (.sc (.int k b))) : Av P ⟨dd, .binOp .and t x y t', ty, pos, af, g⟩ fr (.sc (.int k (bits .and k a b))) := by
 intro σ ρ w hρ _
 refine ⟨_, ?_, .sc _⟩
 simp [execOp, (hρ x _ hx).sc_inv, (hρ y _ hy).sc_inv, eqGuard, binOp, intBits_and]
theorem AW {dd : Option Tmp} {k : IntKind} {a b : Int} (hx : bH fr x = some (.sc (.int k a))) (hy : bH fr y = some (.sc (.int k b))) : Av P ⟨dd, .binOp .or t x y t', ty, pos, af, g⟩ fr (.sc (.int k (bits .or k a b))) := by
 intro σ ρ w hρ _
 refine ⟨_, ?_, .sc _⟩
 simp [execOp, (hρ x _ hx).sc_inv, (hρ y _ hy).sc_inv, eqGuard, binOp, intBits_or]
theorem zP (i : Nat) {k kk : IntKind} {a b : Int} (hx : bH fr x = some (.sc (.int k a))) (hy : bH fr y = some (.sc (.int kk b))) (hb : b = (i : Int)) (hd : Nat.ble nt d = false) (h : bV P r ops Q nt D rest ((d, .sc (.int k (a / 2 ^ min i k.bits))) :: fr) B L) :
  bV P r ops Q nt D (⟨some d, .binOp .shr t x y t', ty, pos, af, none⟩ :: rest) fr B L := dJ (Dm i hx hy hb) hd rfl h
theorem zJ {k : IntKind} {a b : Int} (hx : bH fr x = some (.sc (.int k a))) (hy : bH fr y = some (.sc (.int k b))) (hd : Nat.ble nt d = false) (h : bV P r ops Q nt D rest ((d, .sc (.int k (bits .and k a b))) :: fr) B L) :
  bV P r ops Q nt D (⟨some d, .binOp .and t x y t', ty, pos, af, none⟩ :: rest) fr B L := dJ (D7 hx hy) hd rfl h
theorem vW {k : IntKind} {a b : Int} (hx : bH fr x = some (.sc (.int k a))) (hy : bH fr y = some (.sc (.int k b))) (hd : Nat.ble nt d = false) (h : bV P r ops Q nt D rest ((d, .sc (.int k (bits .or k a b))) :: fr) B L) :
  bV P r ops Q nt D (⟨some d, .binOp .or t x y t', ty, pos, af, none⟩ :: rest) fr B L := dJ (AW hx hy) hd rfl h
end
end Go.Proofs.YtjjpkibjffmceaaGreat
namespace Go.Proofs.YtjjpkibjffmceaaGreat
open Go.RowKit
attribute [local irreducible] AT bV AX AO Av Kt bC eH DA dl
abbrev CD (z : Int) : AV := .sc (.int .u32 z)
structure AN where
 Font : List Int
 Runes : Int
 Features : Int
 Text : List Int
 Place : List Int
 Some : Int
def Bd (a : AN) : List AV := [.imm 1 (aT a.Font), CD a.Runes, CD a.Features, .imm 1 (aT a.Text), .imm 1 (aT a.Place), CD a.Some]
theorem xt : CX Tryz.prog 23 [] 9 1 (ey dU) := by
 refine aQ Tryz.func23 rfl Tryz.ntmps23 rfl fun B => ?_
 repeat' (first|refine ae ?_|refine a6 ?_|refine aq ?_|refine a7 ?_|refine a8 ?_|refine aa a2 rfl rfl ?_|refine iz (d := 1) a2 fun _=>?_|fail)
 exact aA rfl rfl ⟨_, rfl, rfl⟩
set_option maxHeartbeats 1000000 in
theorem nW (a : AN) : bQ Tryz.prog 9 [.agg (Bd a)] (o9 (oN a.Runes) (sC a.Features)) := by
 refine aQ Tryz.func9 rfl Tryz.ntmps9 rfl fun B => ?_
 repeat' (first|refine ae ?_|refine a6 ?_|refine a7 ?_|refine a8 ?_|refine aa a2 rfl rfl ?_|(apply aG; first|refine ai a2 0 rfl rfl rfl rfl rfl rfl rfl ?_|refine ai a2 1 rfl rfl rfl rfl rfl rfl rfl ?_|refine ai a2 2 rfl rfl rfl rfl rfl rfl rfl ?_|refine ai a2 3 rfl rfl rfl rfl rfl rfl rfl ?_|fail)|refine bg ?_|refine b7 a2 fun _=>?_|fail)
 refine vY xR rfl rfl rfl fun k => ?_
 repeat' (first|refine bG a2 ?_|fail)
 rename_i t2 t3
 refine bE a2 [(t3, .box [bL, bL] 40), (t2, .box [bL, bL] 40)] rfl rfl rfl rfl (Gm _) (by simp [aR, eV]) (by simp [aR, eV]) rfl fun k' => ?_
 refine aN (bi (t := 11) (c' := .imm 1 (aT fI)) rfl fun σ v h => VR.im h) ?_
 refine aN (bY (L' := [(t3, .box [bL, bL] 40), (t2, .box [bL, bL] 40)]) (List.sublist_append_right ..)) ?_
 have h17 : (aT fI).length = 17 := rfl
 repeat' (first|refine ae ?_|refine a6 ?_|refine ak ?_|refine a7 ?_|refine a8 ?_|refine aa a2 rfl rfl ?_)
 refine bI (br 0 rfl fun σ vs h => cn (k := 0) (c' := .vec none 1 []) h rfl fun v hv => cy 1 hv) ?_
 refine aJ [1, 2, 3, 4] (α := Nat × Option (Nat × Nat)) (fun x => [(5, aM x.1)]) (fun x => x.1 ≤ 17) (fun x => [(t3, .box [.vec x.2 1 (aT (eI (gh a.Runes) fI x.1)), bL] 40), (t2, .box [bL, bL] 40)] ++ tok x.2 3 1 (aT (eI (gh a.Runes) fI x.1)).length) (fun x => 17 - x.1) (0, none) rfl ⟨rfl, trivial⟩ (Nat.zero_le _) (fun _ _ h => h) ?_
 rintro ⟨i, q⟩ hi
 dsimp only at hi ⊢
 have hpl := jd (gh a.Runes) fI i
 have hsl := aR (eI (gh a.Runes) fI i)
 try dsimp only [Gr, Gq, Gp, Gj]
 repeat' (first|refine ae ?_|refine a6 ?_|refine a7 ?_|refine a8 ?_|refine aa a2 rfl rfl ?_)
 refine aw rfl (fun h => ?_) (fun h => ?_)
 ·have hil : i < 17 := by have := Gz h; rw [h17] at this; omega
  obtain ⟨z, hz⟩ : ∃ z, fI[i]? = some z := ⟨_, Ee (by exact hil)⟩
  have hzg := bW hz
  clear h
  repeat' (first|refine ae ?_|refine a6 ?_|refine ak ?_|refine ar ?_|refine a7 ?_|refine aa a2 rfl rfl ?_)
  refine zP i rfl rfl rfl rfl ?_
  repeat' (first|fail)
  refine zJ rfl rfl rfl ?_
  repeat' (first|refine a7 ?_|refine a8 ?_|refine aa a2 rfl rfl ?_)
  refine aw rfl (fun hb => ?_) (fun hb => ?_)
  ·have hb : gh a.Runes i = true := hb
   have hst : eI (gh a.Runes) fI (i + 1) = eI (gh a.Runes) fI i ++ [z] := by rw [eI, hz, if_pos hb]; rfl
   repeat' (first|fail)
   refine bt 7 [(0, .v), (1, .l), (2, .v), (3, .v), (4, .v), (5, .v), (6, .v)] none ?_ trivial rfl (by kernel_rfl) (by kernel_rfl) (by kernel_rfl) mixed (by kernel_rfl) rfl
   repeat' (first|refine aC ?_|refine aZ a2 ?_|(apply ca;refine ck a2 ?_)|refine eh a2 ?_|refine df a2 0 rfl rfl rfl rfl (by first|trivial|rfl) ?_)
   refine bq [1, 2, 3, 4, 5, 25, 30] rfl rfl ?_
   repeat' (first|fail)
   refine bE a2 _ rfl rfl rfl rfl (List.perm_append_comm (l₁ := [_, _])) (by simp; omega) (by simp; omega) rfl fun q' => ?_
   refine aN (aK (List.perm_append_comm (l₂ := [_, _]))) ?_
   repeat' (first|refine a6 ?_|refine a7 ?_|refine aH ?_|refine a8 ?_|refine aa a2 rfl rfl ?_|(apply aV; refine aU ?_)|(apply aG; first|refine ai a2 0 rfl rfl rfl rfl rfl rfl rfl ?_|refine ai a2 1 rfl rfl rfl rfl rfl rfl rfl ?_|refine ai a2 2 rfl rfl rfl rfl rfl rfl rfl ?_|refine ai a2 3 rfl rfl rfl rfl rfl rfl rfl ?_|fail))
   exact aB (i + 1, q') rfl ⟨by rw [Gw]; rfl, trivial⟩ (by dsimp only; omega) (by dsimp only; omega) (fun _ _ h => by dsimp only; rw [hst, ← j3]; exact h)
  ·have hb : gh a.Runes i = false := hb
   have hst : eI (gh a.Runes) fI (i + 1) = eI (gh a.Runes) fI i := by rw [eI, hb, if_neg (by decide), List.append_nil]
   repeat' (first|refine a6 ?_|refine ar ?_|refine a7 ?_|refine aH ?_|refine a8 ?_|refine aa a2 rfl rfl ?_|(apply aV; refine aU ?_)|fail)
   exact aB (i + 1, q) rfl ⟨by rw [Gw]; rfl, trivial⟩ (by dsimp only; omega) (by dsimp only; omega) (fun _ _ h => by dsimp only; rw [hst]; exact h)
 have hil : i = 17 := by have := Gy h; rw [h17] at this; omega
 subst hil
 clear h hi
 have hR : eI (gh a.Runes) fI 17 = oN a.Runes := rfl
 rw [hR]
 clear hR hsl hpl
 generalize oN a.Runes = R
 repeat' (first|refine ae ?_|refine a6 ?_|refine aO ?_|refine a7 ?_|refine au ?_|refine ay ?_|refine av ?_)
 refine aN (br 0 rfl fun σ vs h => cn (k := 0) (c' := .imm 1 (aT R)) h rfl fun v hv => VR.im hv) ?_
 refine aN (bY (L' := [(t3, .box [.imm 1 (aT R), bL] 40), (t2, .box [bL, bL] 40)]) (List.sublist_append_left [_, _] _)) ?_
 refine aN (br 0 rfl fun σ vs h => cn (k := 1) (c' := .vec none 1 []) h rfl fun v hv => cy 1 hv) ?_
 refine vY xt rfl rfl rfl fun k2 => ?_
 repeat' (first|refine bG a2 ?_|fail)
 refine bE a2 [(t3, .box [.imm 1 (aT R), .vec none 1 []] 40), (t2, .box [bL, bL] 40)] rfl rfl rfl rfl (Gm _) (by simp [fq, dU]) (by simp [fq, dU]) rfl fun k3 => ?_
 refine aN (bi (t := 35) (c' := .imm 1 (ey (dU ++ [zR]))) rfl fun σ v h => VR.im h) ?_
 refine aN (bY (L' := [(t3, .box [.imm 1 (aT R), .vec none 1 []] 40), (t2, .box [bL, bL] 40)]) (List.sublist_append_right ..)) ?_
 generalize hNN : dU ++ [zR] = NN
 have h9 : (ey NN).length = 9 := by rw [← hNN]; rfl
 have h9' : NN.length = 9 := by rw [← hNN]; rfl
 repeat' (first|refine ae ?_|refine a6 ?_|refine ak ?_|refine a7 ?_|refine a8 ?_|refine aa a2 rfl rfl ?_)
 refine aJ [1, 2, 3, 6] (α := Nat × Option (Nat × Nat)) (fun x => [(7, aM x.1)]) (fun x => x.1 ≤ 9) (fun x => [(t3, .box [.imm 1 (aT R), .vec x.2 1 (ey (eI (gh a.Features) NN x.1))] 40), (t2, .box [bL, bL] 40)] ++ tok x.2 9 1 (ey (eI (gh a.Features) NN x.1)).length) (fun x => 9 - x.1) (0, none) rfl ⟨rfl, trivial⟩ (Nat.zero_le _) (fun _ _ h => h) ?_
 rintro ⟨i, q⟩ hi
 dsimp only at hi ⊢
 have hpl := jd (gh a.Features) NN i
 have hsl := fq (eI (gh a.Features) NN i)
 try dsimp only [Gr, Gq, Gp, Gj]
 repeat' (first|refine ae ?_|refine a6 ?_|refine a7 ?_|refine a8 ?_|refine aa a2 rfl rfl ?_)
 refine aw rfl (fun h => ?_) (fun h => ?_)
 ·have hil : i < 9 := by have := Gz h; rw [h9] at this; omega
  obtain ⟨z, hz⟩ : ∃ z, NN[i]? = some z := ⟨_, Ee (by omega)⟩
  have hzg : (ey NN)[i]? = some [gE z] := by unfold ey; rw [List.getElem?_map, hz]; rfl
  clear h
  repeat' (first|refine ae ?_|refine a6 ?_|refine ak ?_|refine ar ?_|refine a7 ?_|refine aa a2 rfl rfl ?_)
  refine zP i rfl rfl rfl rfl ?_
  repeat' (first|fail)
  refine zJ rfl rfl rfl ?_
  repeat' (first|refine a7 ?_|refine a8 ?_|refine aa a2 rfl rfl ?_)
  refine aw rfl (fun hb => ?_) (fun hb => ?_)
  ·have hb : gh a.Features i = true := hb
   have hst : eI (gh a.Features) NN (i + 1) = eI (gh a.Features) NN i ++ [z] := by rw [eI, hz, if_pos hb]; rfl
   repeat' (first|fail)
   refine bt 7 [(0, .v), (1, .l), (2, .v), (3, .v), (4, .v), (5, .v), (6, .v)] none ?_ trivial rfl (by kernel_rfl) (by kernel_rfl) (by kernel_rfl) mixed (by kernel_rfl) rfl
   repeat' (first|refine aC ?_|refine aZ a2 ?_|(apply ca;refine ck a2 ?_)|refine eh a2 ?_|refine df a2 0 rfl rfl rfl rfl (by first|trivial|rfl) ?_)
   refine bq [1, 2, 3, 6, 7, 49, 54] rfl rfl ?_
   repeat' (first|fail)
   refine bE a2 _ rfl rfl rfl rfl (List.perm_append_comm (l₁ := [_, _])) (by simp; omega) (by simp; omega) rfl fun q' => ?_
   refine aN (aK (List.perm_append_comm (l₂ := [_, _]))) ?_
   repeat' (first|refine a6 ?_|refine a7 ?_|refine aH ?_|refine a8 ?_|refine aa a2 rfl rfl ?_|(apply aV; refine aU ?_)|(apply aG; first|refine ai a2 0 rfl rfl rfl rfl rfl rfl rfl ?_|refine ai a2 1 rfl rfl rfl rfl rfl rfl rfl ?_|refine ai a2 2 rfl rfl rfl rfl rfl rfl rfl ?_|refine ai a2 3 rfl rfl rfl rfl rfl rfl rfl ?_|fail))
   exact aB (i + 1, q') rfl ⟨by rw [Gw]; rfl, trivial⟩ (by dsimp only; omega) (by dsimp only; omega) (fun _ _ h => by dsimp only; rw [hst, Au]; exact h)
  ·have hb : gh a.Features i = false := hb
   have hst : eI (gh a.Features) NN (i + 1) = eI (gh a.Features) NN i := by rw [eI, hb, if_neg (by decide), List.append_nil]
   repeat' (first|refine a6 ?_|refine ar ?_|refine a7 ?_|refine aH ?_|refine a8 ?_|refine aa a2 rfl rfl ?_|(apply aV; refine aU ?_)|fail)
   exact aB (i + 1, q) rfl ⟨by rw [Gw]; rfl, trivial⟩ (by dsimp only; omega) (by dsimp only; omega) (fun _ _ h => by dsimp only; rw [hst]; exact h)
 have hil : i = 9 := by have := Gy h; rw [h9] at this; omega
 subst hil
 clear h hi
 have hF : eI (gh a.Features) NN 9 = sC a.Features := by rw [← hNN]; rfl
 rw [hF]
 clear hF hsl hpl hNN h9 h9'
 generalize sC a.Features = F
 repeat' (first|refine ae ?_|refine a6 ?_|refine aq ?_|refine aO ?_|refine a7 ?_|refine au ?_|refine ay ?_|refine av ?_|refine a8 ?_|(apply bK; first|refine aj a2 0 rfl rfl rfl rfl rfl ?_|refine aj a2 1 rfl rfl rfl rfl rfl ?_|refine aj a2 2 rfl rfl rfl rfl rfl ?_|refine aj a2 3 rfl rfl rfl rfl rfl ?_|refine aD a2 0 rfl rfl rfl rfl rfl ?_|refine aD a2 1 rfl rfl rfl rfl rfl ?_|refine aD a2 2 rfl rfl rfl rfl rfl ?_|refine aj a2 1 rfl rfl rfl (by assumption) rfl ?_|refine aj a2 0 rfl rfl rfl (by assumption) rfl ?_|fail)|(apply aG; first|refine ai a2 0 rfl rfl rfl rfl rfl rfl rfl ?_|refine ai a2 1 rfl rfl rfl rfl rfl rfl rfl ?_|refine ai a2 2 rfl rfl rfl rfl rfl rfl rfl ?_|refine ai a2 3 rfl rfl rfl rfl rfl rfl rfl ?_|fail))
 refine be (br 1 (cs' := [.imm 1 (aT R), .imm 1 (ey F)]) rfl fun σ vs h => nD.vrs (a := [.imm 1 (aT R), .vec q 1 (ey F)]) (b := [.imm 1 (aT R), .imm 1 (ey F)]) ⟨eb.refl _, eb.im, trivial⟩ h) ?_
 exact ol (cs := [o9 R F]) ⟨⟨t2, 1, _, _, rfl, rfl, .inr ⟨dm a2 rfl, rfl⟩⟩, trivial⟩ rfl
theorem xk (l : List Int) : bQ Tryz.prog 8 [.imm 1 (aT l)] (ct (md (l.take 300))) := by
 refine aQ Tryz.func8 rfl Tryz.ntmps8 rfl fun B => ?_
 have hnl := aR l
 repeat' (first|refine ae ?_|refine a6 ?_|refine a7 ?_|refine a8 ?_|refine aa a2 rfl rfl ?_|refine b7 a2 fun _=>?_|fail)
 refine DR a2 (min l.length 300) rfl rfl rfl rfl rfl (by omega) (by omega) rfl ?_
 rw [xa, show l.take (min l.length 300) = l.take 300 by
  rcases Nat.le_total l.length 300 with h | h
  ·rw [Nat.min_eq_left h, List.take_of_length_le (Nat.le_refl _), List.take_of_length_le h]
  ·rw [Nat.min_eq_right h]]
 repeat' (first|fail)
 refine bc (hc := ⟨zB (l.take 300) (by rw [List.length_take]; omega)⟩) ?_
 repeat' (first|refine aq ?_|refine a7 ?_|refine a8 ?_|(apply aG; first|refine ai a2 0 rfl rfl rfl rfl rfl rfl rfl ?_|refine ai a2 1 rfl rfl rfl rfl rfl rfl rfl ?_|refine ai a2 2 rfl rfl rfl rfl rfl rfl rfl ?_|refine ai a2 3 rfl rfl rfl rfl rfl rfl rfl ?_|fail))
 exact ol (cs := [ct (md (l.take 300))]) ⟨⟨_, 0, _, _, rfl, rfl, .inr ⟨dm a2 rfl, rfl⟩⟩, trivial⟩ rfl
end Go.Proofs.YtjjpkibjffmceaaGreat
namespace Go.Proofs.YtjjpkibjffmceaaGreat
open Go.ChangeShapes Go.WideShapes Go.ChangeAt Go.RowKit Go.Deep Go.Joins
section
variable {H : Type} {enc : TypeId × Value → H} {W : World}
abbrev oF (z : Int) : Prop := 0 ≤ z ∧ z < 4294967296
theorem C1 {P : Program} {t : TypeId} (ht : P.underlying t = some (.int .u32)) : wp enc P W t (fun z : Int => [CD z]) oF := fun fuel cs x h _ => by
 obtain ⟨z, rfl, -, hz⟩ := DataW.trod_int ht h
 have h1 : IntKind.u32.min ≤ z ∧ z ≤ IntKind.u32.max := by simpa [Lit.wf] using hz
 exact ⟨z, dI.cons (.sc _) dI.nil, by intro u hu; rw [Gk hu]; rfl, h1.1, Int.lt_of_le_of_lt h1.2 (by decide)⟩
theorem oU : wp enc Tryz.prog W 23 (fun z : Int => [CD z]) oF := C1 Tryz.underlying23
theorem oA : wp enc Tryz.prog W 25 Bd (fun a => oF a.Runes ∧ oF a.Features) :=
 (v7 (N := 6) Tryz.underlying25 (by kernel_rfl) (i9 (s := 1) rfl (by kernel_rfl) FE (i9 (s := 1) rfl (by kernel_rfl) oU (i9 (s := 1) rfl (by kernel_rfl) oU (i9 (s := 1) rfl (by kernel_rfl) FE (i9 (s := 1) rfl (by kernel_rfl) FE (i9 (s := 1) rfl (by kernel_rfl) oU zV))))))).map
  (fun p => ⟨p.1, p.2.1, p.2.2.1, p.2.2.2.1, p.2.2.2.2.1, p.2.2.2.2.2.1⟩) (fun _ => rfl) fun _ h => ⟨h.2.1, h.2.2.1⟩
set_option maxRecDepth 100000 in
theorem xv {base : Nat} {v : Value} {d : DataW H} {p : List MemPlace} (hok : Value.okWide Tryz.prog W .any base 25 v) (h : DataW.Trod enc Tryz.prog W 0 (fun _ => true) true 25 v d p) (hl : qu Tryz.prog 25 d) : ∃ a : AN, VR (jS W) (.agg (Bd a)) v ∧ oF a.Runes ∧ oF a.Features := by
 obtain ⟨cs, rfl, hsz⟩ := okWide_struct Tryz.underlying25 hok
 obtain ⟨fuel, hf⟩ := h
 obtain ⟨x, h1, h2, h3⟩ := oA (enc := enc) fuel cs.toList _ (by simpa [Value.cells] using hf) hl
 have := VR.agg (σ := jS W) _ _ h1.1 h1.2 h2
 exact ⟨x, by simpa using this, h3⟩
set_option maxRecDepth 100000 in
theorem qV {base : Nat} {v : Value} {d : DataW H} {p : List MemPlace} (hok : Value.okWide Tryz.prog W .any base 23 v) (h : DataW.Trod enc Tryz.prog W 0 (fun _ => true) true 23 v d p) (hl : qu Tryz.prog 23 d) : ∃ z, VR (jS W) (CD z) v ∧ oF z := by
 obtain ⟨z, rfl⟩ := okWide_int Tryz.underlying23 hok
 obtain ⟨fuel, hf⟩ := h
 obtain ⟨x, h1, h2, h3⟩ := oU (enc := enc) fuel [.int .u32 z] _ (by simpa [Value.cells] using hf) hl
 exact ⟨x, h1.2 0 _ _ rfl rfl, h3⟩
end
end Go.Proofs.YtjjpkibjffmceaaGreat
namespace Go.Proofs.YtjjpkibjffmceaaGreat
open Go.RowKit
section
variable {P : Program} {tt : TT} {r : Option Nat} {ops : Array Oper} {Q : Exit → Act → World → Prop} {nt : Nat} {D : List Deferred} {fr : cg} {B : Bs} {L : AL} {rest : List Oper} {d : Nat} {ty t t' : TypeId} {pos : String} {af : Array Edge} {g : Option (Nat × Bool)} {x y z : Operand} {u : AV}
theorem eu {a b : ByteArray} (hx : bH fr x = some (.sc (.string a))) (hy : bH fr y = some (.sc (.string b))) (hs : a.size + b.size ≤ 1000000) (hd : Nat.ble nt d = false) (h : bV P r ops Q nt D rest ((d, .sc (.string (a ++ b))) :: fr) B L) :
  bV P r ops Q nt D (⟨some d, .binOp .add t x y t', ty, pos, af, none⟩ :: rest) fr B L := dJ (CF hx hy hs) hd rfl h
theorem zL (ok : fa P tt) {a : Int} {q q' : IntKind} {ti ti' : TI} (hx : bH fr x = some (.sc (.int q a))) (ht : dG tt t = some ti) (hk : ti.k = .int q) (ht' : dG tt t' = some ti') (hk' : ti'.k = .int q') (hd : Nat.ble nt d = false) (h : bV P r ops Q nt D rest ((d, .sc (.int q' (q'.wrap a))) :: fr) B L) :
  bV P r ops Q nt D (⟨some d, .convert t t' x, ty, pos, af, none⟩ :: rest) fr B L := by
 haveI := ok.int ht hk
 haveI := ok.int ht' hk'
 exact dJ (qw hx) hd rfl h
theorem vX (ok : fa P tt) {e by_ : Nat} {c : Int} {ti ti' : TI} (hx : bH fr x = some u) (hu : iF u = some (1, [[.sc (.int .u8 c)]])) (ht : mF tt t = some (e, 1, by_)) (he : dG tt e = some ti) (hk : ti.k = .int .u8) (ht' : dG tt t' = some ti') (hk' : ti'.k = .str) (hd : Nat.ble nt d = false) (h : bV P r ops Q nt D rest ((d, .sc (.string ⟨#[UInt8.ofNat c.toNat]⟩)) :: fr) B L) :
  bV P r ops Q nt D (⟨some d, .convert t t' x, ty, pos, af, none⟩ :: rest) fr B L := dJ (vy (bZ ok ht).1 (ok.int he hk) (ok.str ht' hk') hx (dc hu)) hd rfl h
end
end Go.Proofs.YtjjpkibjffmceaaGreat
namespace Go.Proofs.YtjjpkibjffmceaaGreat
open Go.RowKit
attribute [local irreducible] AT bV AX AO Av Kt bC eH DA dl
class gP (z : Int) : Prop where
 ok : NB z
theorem wV (m : Nat) : ld m = (if m / 10 = 0 then ⟨#[]⟩ else ld (m / 10)) ++ nM (m % 10) := by
 conv => lhs; rw [ld]
 by_cases h : m < 10
 ·rw [if_pos h, if_pos (by omega), Nat.mod_eq_of_lt h]
  exact ByteArray.empty_append.symm
 ·rw [if_neg h, if_neg (by omega)]
def lS (k : Int) (s : ByteArray) : Prop := k ≠ 0 ∨ s = ⟨#[]⟩
instance (k : Int) (s : ByteArray) : Decidable (lS k s) := inferInstanceAs (Decidable (_ ∨ _))
theorem AE : ∀ n < 10, UInt8.ofNat (IntKind.u8.wrap (48 + ((n : Nat) : Int))).toNat = UInt8.ofNat (48 + n) := by decide
theorem ru {m : Nat} {s : ByteArray} : (nM m ++ s).size ≠ 0 := by rw [Gv, lc]; omega
set_option maxHeartbeats 2000000 in
theorem uw (z : Int) (hz : NB z) : bQ Tryz.prog 58 [aM z] (gE (cj z)) := by
  refine aQ Tryz.func58 rfl Tryz.ntmps58 rfl fun B => ?_
  have hs9 := yR (m := z.natAbs) (by have := hz.1; have := hz.2; omega)
  repeat' (first|refine ae ?_|refine a6 ?_|refine ak ?_|refine a7 ?_|refine a8 ?_|refine aa a2 rfl rfl ?_)
  refine aJ [0] (α := Int × ByteArray) (fun x => [(4, aM x.1), (3, gE x.2)]) (fun x => ld z.natAbs = (if lS x.1 x.2 then ld x.1.natAbs else ⟨#[]⟩) ++ x.2 ∧ x.1.natAbs ≤ 999999999) (fun _ => []) (fun x => x.1.natAbs + (if x.2.size = 0 then 1 else 0)) (z, ⟨#[]⟩) rfl ⟨rfl, rfl, trivial⟩ ⟨?_, by have := hz.1; have := hz.2; dsimp only; omega⟩ (fun _ _ h => h) ?_
  · dsimp only
    rw [if_pos (.inr rfl)]
    exact ByteArray.append_empty.symm
  rintro ⟨k, s⟩ ⟨hI, hk⟩
  dsimp only at hI hk ⊢
  try dsimp only [Gr, Gq, Gp, Gj]
  repeat' (first|refine ae ?_|refine a6 ?_|refine aa a2 rfl rfl ?_)
  refine dq (t := 12) [0, 3, 4] (lS k s) rfl (fun Q' K => ?_) ?_
  · repeat' (first|refine a8 ?_|refine aa a2 rfl rfl ?_|refine aF rfl rfl ?_|refine aL rfl rfl rfl rfl ?_|refine bf rfl rfl rfl (fun _ => ?_) (fun _ => ?_))
    all_goals exact K _ _ rfl rfl (by clear K; unfold lS; simp_all <;> omega)
  repeat' (first|refine a7 ?_)
  refine aw rfl (fun hc => ?_) (fun hc => ?_)
  · have hC := Gz hc
    rw [if_pos hC] at hI
    have hsz : s.size ≤ 9 := by
      have := congrArg ByteArray.size hI
      rw [Gv] at this
      omega
    have hm : (k.tmod 10).natAbs = k.natAbs % 10 := Int.natAbs_tmod k 10
    have hq : (k.tdiv 10).natAbs = k.natAbs / 10 := Int.natAbs_tdiv k 10
    have hq2 : IntKind.i64.wrap (k.tdiv 10) = k.tdiv 10 := mU (by omega)
    have hC2 : k ≠ 0 ∨ s.size = 0 := hC.imp id fun h => by rw [h]; rfl
    have hlt : k.natAbs % 10 < 10 := Nat.mod_lt _ (by omega)
    have hfin : ∀ t : ByteArray, t = nM (k.natAbs % 10) ++ s → ld z.natAbs = (if lS (k.tdiv 10) t then ld (k.tdiv 10).natAbs else ⟨#[]⟩) ++ t := fun t ht => by
      subst ht
      rw [hI, wV k.natAbs, ByteArray.append_assoc, hq]
      refine congrArg (· ++ _) ?_
      by_cases h0 : k.natAbs / 10 = 0
      · rw [if_pos h0, if_neg]
        rintro (h | h)
        · exact h (by omega)
        · exact ru (congrArg ByteArray.size h)
      · rw [if_neg h0, if_pos (.inl fun h => h0 (by rw [h] at hq; exact hq.symm))]
    clear hc
    repeat' (first|refine ae ?_|refine a6 ?_|refine ak ?_|refine ar ?_|refine a7 ?_|refine aa a2 rfl rfl ?_)
    refine zO ?_ rfl rfl (by omega) rfl
    repeat' (first|refine ae ?_|refine a6 ?_|refine a7 ?_|refine a8 ?_|refine aa a2 rfl rfl ?_)
    refine aw rfl (fun hd => ?_) (fun hd => ?_)
    · have hd := Gz hd
      have hdg : (0 : Int) - k.tmod 10 = ((k.natAbs % 10 : Nat) : Int) := by omega
      repeat' (first|refine ae ?_|refine a6 ?_|refine a7 ?_|refine a8 ?_|refine aa a2 rfl rfl ?_|(apply aV; refine aU ?_)|fail)
      rw [hdg]
      repeat' (first|fail)
      refine zL a2 rfl rfl rfl rfl rfl rfl ?_
      repeat' (first|refine bG a2 ?_|fail)
      refine vX a2 rfl rfl rfl rfl rfl rfl rfl rfl ?_
      rw [AE _ hlt]
      repeat' (first|refine aa a2 rfl rfl ?_)
      refine eu rfl rfl (by rw [show (⟨#[UInt8.ofNat (48 + k.natAbs % 10)]⟩ : ByteArray).size = 1 from rfl]; omega) rfl ?_
      repeat' (first|refine a6 ?_|refine a7 ?_|refine a8 ?_|refine aa a2 rfl rfl ?_)
      refine aU ?_ (vC rfl rfl (by omega)) rfl
      rw [hq2]
      repeat' (first|refine aH ?_|refine a8 ?_|refine aa a2 rfl rfl ?_)
      refine aB (k.tdiv 10, nM (k.natAbs % 10) ++ s) rfl ⟨rfl, rfl, trivial⟩ ⟨hfin _ rfl, by dsimp only; omega⟩ ?_ (fun _ _ h => h)
      dsimp only
      rw [if_neg ru]
      split <;> omega
    · have hd := Gy hd
      have hdg : k.tmod 10 = ((k.natAbs % 10 : Nat) : Int) := by omega
      rw [hdg]
      repeat' (first|refine ae ?_|refine a6 ?_|refine ar ?_|refine a7 ?_|refine aa a2 rfl rfl ?_|(apply aV; refine aU ?_)|fail)
      refine zL a2 rfl rfl rfl rfl rfl rfl ?_
      repeat' (first|refine bG a2 ?_|fail)
      refine vX a2 rfl rfl rfl rfl rfl rfl rfl rfl ?_
      rw [AE _ hlt]
      repeat' (first|refine aa a2 rfl rfl ?_)
      refine eu rfl rfl (by rw [show (⟨#[UInt8.ofNat (48 + k.natAbs % 10)]⟩ : ByteArray).size = 1 from rfl]; omega) rfl ?_
      repeat' (first|refine a6 ?_|refine a7 ?_|refine a8 ?_|refine aa a2 rfl rfl ?_)
      refine aU ?_ (vC rfl rfl (by omega)) rfl
      rw [hq2]
      repeat' (first|refine aH ?_|refine a8 ?_|refine aa a2 rfl rfl ?_)
      refine aB (k.tdiv 10, nM (k.natAbs % 10) ++ s) rfl ⟨rfl, rfl, trivial⟩ ⟨hfin _ rfl, by dsimp only; omega⟩ ?_ (fun _ _ h => h)
      dsimp only
      rw [if_neg ru]
      split <;> omega
  have hC := Gy hc
  rw [if_neg hC] at hI
  have hI : ld z.natAbs = s := by rw [hI]; exact ByteArray.empty_append
  subst hI
  clear hc hC hk
  repeat' (first|refine ae ?_|refine a6 ?_|refine aO ?_|refine a7 ?_|refine au ?_|refine ay ?_|refine av ?_|refine a8 ?_|refine aa a2 rfl rfl ?_)
  unfold cj iO uW
  refine aw rfl (fun hn => ?_) (fun hn => ?_)
  · rw [if_pos (Gz hn)]
    repeat' (first|refine ae ?_|refine a6 ?_|refine aa a2 rfl rfl ?_)
    refine eu rfl rfl (by rw [show (⟨#[45]⟩ : ByteArray).size = 1 from rfl]; omega) rfl ?_
    repeat' (first|fail)
    refine eu rfl rfl (by rw [Gv, show (⟨#[45]⟩ : ByteArray).size = 1 from rfl, show (⟨#[32]⟩ : ByteArray).size = 1 from rfl]; omega) rfl ?_
    repeat' (first|refine aq ?_|refine a7 ?_|refine aE ?_|refine a8 ?_|refine aa a2 rfl rfl ?_)
    exact aA rfl rfl rfl
  · rw [if_neg (Gy hn)]
    repeat' (first|refine ae ?_|refine a6 ?_|refine ar ?_|refine a7 ?_|refine aa a2 rfl rfl ?_)
    refine eu rfl rfl (by rw [show (⟨#[32]⟩ : ByteArray).size = 1 from rfl]; omega) rfl ?_
    repeat' (first|refine aq ?_|refine a7 ?_|refine a8 ?_|refine aa a2 rfl rfl ?_)
    exact aA rfl rfl rfl
instance (z : Int) [h : gP z] : AD Tryz.prog 58 [aM z] (gE (cj z)) := ⟨uw z h.ok⟩
theorem Cz (b : Bool) : bQ Tryz.prog 59 [cO b] (gE (sh b)) := by
 refine aQ Tryz.func59 rfl Tryz.ntmps59 rfl fun B => ?_
 repeat' (first|refine ae ?_|refine a6 ?_|refine a7 ?_|refine a8 ?_|refine aa a2 rfl rfl ?_)
 cases b with
 | true =>
  repeat' (first|refine ae ?_|refine a6 ?_|refine aq ?_|refine a7 ?_|refine aE ?_|refine a8 ?_|refine aa a2 rfl rfl ?_|refine bS rfl ?_)
  exact aA rfl rfl rfl
 | false =>
  repeat' (first|refine ae ?_|refine a6 ?_|refine ar ?_|refine aq ?_|refine a7 ?_|refine a8 ?_|refine aa a2 rfl rfl ?_|refine bN rfl ?_)
  exact aA rfl rfl rfl
instance (b : Bool) : AD Tryz.prog 59 [cO b] (gE (sh b)) := ⟨Cz b⟩
theorem j8 {n : Nat} (h : n ≤ 999999999) : gP (n : Int) := ⟨⟨by omega, by omega⟩⟩
theorem Ac (l : List Int) (h : yb l) : bQ Tryz.prog 60 [.imm 1 (aT l)] (gE (of l)) := by
 refine aQ Tryz.func60 rfl Tryz.ntmps60 rfl fun B => ?_
 have hil := aR l
 have hl := h.1
 haveI : gP (((aT l).length : Nat) : Int) := j8 (by omega)
 have e0 : cj (((aT l).length : Nat) : Int) = dO l.length := by rw [hil]; rfl
 have h0 := cx (n := l.length) (by omega)
 repeat' (first|refine ae ?_|refine a6 ?_|refine ak ?_|refine a7 ?_|refine a8 ?_|refine aa a2 rfl rfl ?_|(apply bh;refine bc ?_)|fail)
 rw [e0]
 repeat' (first|fail)
 refine aJ [0] (α := Nat) (fun i => [(4, aM i), (3, gE ((l.take i).foldl r5 (dO l.length)))]) (fun i => i ≤ l.length) (fun _ => []) (fun i => l.length - i) 0 rfl ⟨rfl, rfl, trivial⟩ (Nat.zero_le _) (fun _ _ h => h) ?_
 intro i hi
 try dsimp only [Gr, Gq, Gp, Gj]
 repeat' (first|refine ae ?_|refine a6 ?_|refine a7 ?_|refine a8 ?_|refine aa a2 rfl rfl ?_)
 refine aw rfl (fun hh => ?_) (fun hh => ?_)
 ·have hil : i < l.length := by have := Gz hh; omega
  obtain ⟨z, hz⟩ : ∃ z, l[i]? = some z := ⟨_, Ee hil⟩
  have hzi := bW hz
  have hzn := h.2 z (Gx hz)
  haveI : gP z := ⟨hzn⟩
  have k1 := aY hzn
  have k2 := cH (n := 16) (m := 11) i (pR h.2) h.1 h0
  have hst : (l.take (i + 1)).foldl r5 (dO l.length) = (l.take i).foldl r5 (dO l.length) ++ cj z := dp hz
  repeat' (first|refine ae ?_|refine a6 ?_|refine ak ?_|refine ar ?_|refine a7 ?_|refine aa a2 rfl rfl ?_|(apply aX; first|refine aW a2 ?_|refine aP a2 ?_)|(apply bh;refine bc ?_)|fail)
  refine eu rfl rfl (by omega) rfl ?_
  repeat' (first|refine a6 ?_|refine a7 ?_|refine aH ?_|refine a8 ?_|refine aa a2 rfl rfl ?_|(apply aV; refine aU ?_)|fail)
  exact aB (i + 1) rfl ⟨by rw [Gw]; rfl, by rw [hst]; rfl, trivial⟩ (by omega) (by omega) (fun _ _ h => h)
 have hil : i = l.length := by have := Gy hh; omega
 subst hil
 rw [List.take_length]
 repeat' (first|refine ae ?_|refine a6 ?_|refine aq ?_|refine aO ?_|refine a7 ?_|refine au ?_|refine ay ?_|refine av ?_|refine a8 ?_|refine aa a2 rfl rfl ?_)
 exact aA rfl rfl rfl
theorem wI (l : List ew) (h : Ed l) : bQ Tryz.prog 61 [.imm 2 (l.map dS)] (gE (qC l)) := by
 refine aQ Tryz.func61 rfl Tryz.ntmps61 rfl fun B => ?_
 have hml : (l.map dS).length = l.length := Gu ..
 have hl := h.1
 haveI : gP (((l.map dS).length : Nat) : Int) := j8 (by omega)
 have e0 : cj (((l.map dS).length : Nat) : Int) = dO l.length := by rw [hml]; rfl
 have h0 := cx (n := l.length) (by omega)
 repeat' (first|refine ae ?_|refine a6 ?_|refine ak ?_|refine a7 ?_|refine a8 ?_|refine aa a2 rfl rfl ?_|(apply bh;refine bc ?_)|fail)
 rw [e0]
 repeat' (first|fail)
 refine aJ [0] (α := Nat) (fun i => [(4, aM i), (3, gE ((l.take i).foldl nq (dO l.length)))]) (fun i => i ≤ l.length) (fun _ => []) (fun i => l.length - i) 0 rfl ⟨rfl, rfl, trivial⟩ (Nat.zero_le _) (fun _ _ h => h) ?_
 intro i hi
 try dsimp only [Gr, Gq, Gp, Gj]
 repeat' (first|refine ae ?_|refine a6 ?_|refine a7 ?_|refine a8 ?_|refine aa a2 rfl rfl ?_)
 refine aw rfl (fun hh => ?_) (fun hh => ?_)
 ·have hil : i < l.length := by have := Gz hh; omega
  obtain ⟨z, hz⟩ : ∃ z, l[i]? = some z := ⟨_, Ee hil⟩
  have hzg := bn (c := dS) hz
  have hzn := h.2 z (Gx hz)
  haveI : gP z.Op := ⟨hzn.1⟩
  haveI : gP z.A := ⟨hzn.2⟩
  have k1 := aY hzn.1
  have k3 := aY hzn.2
  have k2 := cH (n := 50) (m := 11) i (o4 h.2) h.1 h0
  have hst : (l.take (i + 1)).foldl nq (dO l.length) = (l.take i).foldl nq (dO l.length) ++ cj z.Op ++ cj z.A := dp hz
  repeat' (first|refine ae ?_|refine ak ?_|refine ar ?_|refine a7 ?_)
  refine bt 14 [(0, .v), (1, .v), (2, .v), (3, .v), (4, .v), (5, .v), (6, .v), (7, .v), (8, .v), (9, .v), (10, .v), (11, .v), (12, .v), (13, .v)] none ?_ trivial rfl (by kernel_rfl) (by kernel_rfl) (by kernel_rfl) mixed (by kernel_rfl) rfl
  repeat' (first|refine aC ?_|refine aZ a2 ?_|(apply ca;refine ck a2 ?_)|(apply bB;refine bP ?_)|fail)
  refine di ?_ rfl rfl (by omega) (by first | trivial | rfl)
  repeat' (first|refine aC ?_|refine aZ a2 ?_|(apply ca;refine ck a2 ?_)|(apply bB;refine bP ?_)|fail)
  refine bq [0, 4, 21, 27] rfl rfl ?_
  repeat' (first|fail)
  refine eu rfl rfl (by rw [Gv]; omega) rfl ?_
  repeat' (first|refine a6 ?_|refine a7 ?_|refine aH ?_|refine a8 ?_|refine aa a2 rfl rfl ?_|(apply aV; refine aU ?_)|fail)
  exact aB (i + 1) rfl ⟨by rw [Gw]; rfl, by rw [hst]; rfl, trivial⟩ (by omega) (by omega) (fun _ _ h => h)
 have hil : i = l.length := by have := Gy hh; omega
 subst hil
 rw [List.take_length]
 repeat' (first|refine ae ?_|refine a6 ?_|refine aq ?_|refine aO ?_|refine a7 ?_|refine au ?_|refine ay ?_|refine av ?_|refine a8 ?_|refine aa a2 rfl rfl ?_)
 exact aA rfl rfl rfl
class Ef (l : List Int) : Prop where
 ok : yb l
class Fk (l : List ew) : Prop where
 ok : Ed l
instance (l : List Int) [h : Ef l] : AD Tryz.prog 60 [.imm 1 (aT l)] (gE (of l)) := ⟨Ac l h.ok⟩
instance (l : List ew) [h : Fk l] : AD Tryz.prog 61 [.imm 2 (l.map dS)] (gE (qC l)) := ⟨wI l h.ok⟩
end Go.Proofs.YtjjpkibjffmceaaGreat
