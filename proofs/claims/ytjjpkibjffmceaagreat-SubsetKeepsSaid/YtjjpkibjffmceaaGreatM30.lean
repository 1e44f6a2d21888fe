/-
  What is asked for, by bits.
-/
import Derived.Test.YtjjpkibjffmceaaGreatM25
import Derived.Test.YtjjpkibjffmceaaGreatM29
import Derived.Laws.BitsAllLaws
import Derived.Test.YtjjpkibjffmceaaGreatM05
import Derived.Laws.Shifts
import Derived.Test.YtjjpkibjffmceaaGreatM24
import Derived.Test.YtjjpkibjffmceaaGreatM06
import Derived.Test.YtjjpkibjffmceaaGreatM11
import Derived.Test.YtjjpkibjffmceaaGreatM23
namespace Go.Proofs.YtjjpkibjffmceaaGreat
open Go.RowKit
attribute [local irreducible] AT bT AX AO Av Kt bk ej DA cX
def gM (a : Int) (i : Nat) : Bool := decide (bits .and .u32 (a / 2 ^ min i 32) 1 = 1)
def ev {α : Type} (p : Nat → Bool) (l : List α) : Nat → List α
 | 0 => []
 | k + 1 => ev p l k ++ (if p k = true then (l[k]?).toList else [])
theorem qm {α : Type} {p : Nat → Bool} {l : List α} {x : α} : ∀ {k : Nat}, x ∈ ev p l k ↔ ∃ i, i < k ∧ p i = true ∧ l[i]? = some x
 | 0 => by simp [ev]
 | k + 1 => by
  rw [ev, List.mem_append, qm]
  constructor
  ·rintro (⟨i, h1, h2⟩ | h)
   ·exact ⟨i, by omega, h2⟩
   ·split at h
    ·rename_i hp
     exact ⟨k, by omega, hp, Option.mem_toList.1 h⟩
    ·cases h
  ·rintro ⟨i, h1, h2, h3⟩
   by_cases e : i = k
   ·subst e
    right
    rw [if_pos h2]
    exact Option.mem_toList.2 h3
   ·exact .inl ⟨i, by omega, h2, h3⟩
theorem mM {α : Type} (p : Nat → Bool) (l : List α) : ∀ k, (ev p l k).length ≤ k
 | 0 => Nat.le_refl _
 | k + 1 => by
  have := mM p l k
  rw [ev, List.length_append]
  split
  ·cases l[k]? <;> simp <;> omega
  ·simp; omega
def yV : ByteArray := bytes [110, 111, 110, 101]
def vR (a : Int) : List Int := ev (gM a) fX 17
def A8 (a : Int) : List ByteArray := ev (gM a) (dW ++ [yV]) 9
theorem vS {a z : Int} (h : z ∈ vR a) : z ∈ fX := by
 obtain ⟨i, _, _, hi⟩ := qm.1 h
 exact Gx hi
theorem vU {rs : List Int} (h : ∀ z ∈ rs, z ∈ fX ∨ z = 1114111) : rs.any rX = false := by
 rw [Bool.eq_false_iff]
 intro hb
 obtain ⟨z, hz, hbz⟩ := List.any_eq_true.1 hb
 rcases h z hz with k | rfl
 ·rw [zG _ k] at hbz; cases hbz
 ·exact absurd hbz (by decide)
def Fc {α : Type} (x : α) (l : List α) : List α := x :: (l.reverse.flatMap fun y => [y, y])
def Eh : ByteArray := bytes [110, 111, 116, 104, 105, 110, 103]
noncomputable def gI (f : aJ) (rs : List Int) (fs : List ByteArray) : List Int := dM (oG f rs fs)
theorem mH {f : aJ} {rs : List Int} {fs : List ByteArray} {z : Int} : z ∈ gI f rs fs ↔ z ∈ oG f rs fs := (gA _).mem_iff
theorem kq (f : aJ) (rs : List Int) (fs : List ByteArray) : ce f.Glyphs.length (gI f rs fs) := by
 have h := (lM (f := f) rs fs).ok
 exact ⟨(gA _).nodup_iff.2 h.nodup, fun z hz => h.dom z (mH.1 hz)⟩
theorem wy (f : aJ) (rs : List Int) (fs : List ByteArray) : (gI f rs fs).length ≤ f.Glyphs.length := gw (kq f rs fs).nodup (kq f rs fs).dom
theorem uz (f : aJ) (fs : List ByteArray) : (dx f fs).length ≤ f.Lookups.length := by
 unfold dx
 refine Nat.le_trans (List.length_filter_le ..) ?_
 simp
end Go.Proofs.YtjjpkibjffmceaaGreat
namespace Go.Proofs.YtjjpkibjffmceaaGreat
open Go.RowKit
section
variable {P : Program} {tt : TT} {r : Option Nat} {ops : Array Oper} {Q : Exit → Act → World → Prop} {nt : Nat} {D : List Deferred} {fr : ca} {B : Bs} {L : AL} {rest : List Oper} {d : Nat} {ty t t' : TypeId} {pos : String} {af : Array Edge} {g : Option (Nat × Bool)} {x y z : Operand} {u : AV}
theorem Cv {dd : Option Tmp} {k kk : IntKind} {a b : Int} (i : Nat) (hx : bH fr x = some (.sc (.int k a))) (hy : bH fr y = some (.sc (.int kk b))) (hb : b = (i : Int)) : Av P ⟨dd, .binOp .shr t x y t', ty, pos, af, g⟩ fr (.sc (.int k (a / 2 ^ min i k.bits))) := by
 intro σ ρ w hρ _
 subst hb
 refine ⟨_, ?_, .sc _⟩
 have h := shift_shr_any k kk a (i : Int) (Int.natCast_nonneg i)
 simp [execOp, (hρ x _ hx).sc_inv, (hρ y _ hy).sc_inv, eqGuard, binOp, h]
theorem Ce {dd : Option Tmp} {k : IntKind} {a b : Int} (hx : bH fr x = some (.sc (.int k a))) (hy : bH fr y = some (.sc (.int k b))) : Av P ⟨dd, .binOp .and t x y t', ty, pos, af, g⟩ fr (.sc (.int k (bits .and k a b))) := by
 intro σ ρ w hρ _
 refine ⟨_, ?_, .sc _⟩
 simp [execOp, (hρ x _ hx).sc_inv, (hρ y _ hy).sc_inv, eqGuard, binOp, intBits_and]
theorem yT (i : Nat) {k kk : IntKind} {a b : Int} (hx : bH fr x = some (.sc (.int k a))) (hy : bH fr y = some (.sc (.int kk b))) (hb : b = (i : Int)) (hd : Nat.ble nt d = false) (h : bT P r ops Q nt D rest ((d, .sc (.int k (a / 2 ^ min i k.bits))) :: fr) B L) :
  bT P r ops Q nt D (⟨some d, .binOp .shr t x y t', ty, pos, af, none⟩ :: rest) fr B L := dy (Cv i hx hy hb) hd rfl h
theorem yN {k : IntKind} {a b : Int} (hx : bH fr x = some (.sc (.int k a))) (hy : bH fr y = some (.sc (.int k b))) (hd : Nat.ble nt d = false) (h : bT P r ops Q nt D rest ((d, .sc (.int k (bits .and k a b))) :: fr) B L) :
  bT P r ops Q nt D (⟨some d, .binOp .and t x y t', ty, pos, af, none⟩ :: rest) fr B L := dy (Ce hx hy) hd rfl h
end
end Go.Proofs.YtjjpkibjffmceaaGreat
namespace Go.Proofs.YtjjpkibjffmceaaGreat
open Go.RowKit
attribute [local irreducible] AT bT AX AO Av Kt bk ej DA cX
abbrev DD (z : Int) : AV := .sc (.int .u32 z)
structure zU where
 Font : List Int
 Runes : Int
 Features : Int
 Text : List Int
 Place : List Int
 Some : Int
def Ae (a : zU) : List AV := [.imm 1 (aU a.Font), DD a.Runes, DD a.Features, .imm 1 (aU a.Text), .imm 1 (aU a.Place), DD a.Some]
theorem wL : C5 Tryz.prog 23 [] 9 1 (gi dW) := by
 refine aP Tryz.func23 rfl Tryz.ntmps23 rfl fun B => ?_
 repeat' (first|refine ah ?_|refine a7 ?_|refine ar ?_|refine a8 ?_|refine aa ?_|refine ae a6 rfl rfl ?_|refine jU (d := 1) a6 fun _=>?_|fail)
 exact aA rfl rfl ⟨_, rfl, rfl⟩
set_option maxHeartbeats 1000000 in
theorem sV (a : zU) : bO Tryz.prog 9 [.agg (Ae a)] (nD (vR a.Runes) (A8 a.Features)) := by
 refine aP Tryz.func9 rfl Tryz.ntmps9 rfl fun B => ?_
 repeat' (first|refine ah ?_|refine a7 ?_|refine a8 ?_|refine aa ?_|refine ae a6 rfl rfl ?_|(apply aH; first|refine aj a6 0 rfl rfl rfl rfl rfl rfl rfl ?_|refine aj a6 1 rfl rfl rfl rfl rfl rfl rfl ?_|refine aj a6 2 rfl rfl rfl rfl rfl rfl rfl ?_|refine aj a6 3 rfl rfl rfl rfl rfl rfl rfl ?_|fail)|refine be ?_|refine b5 a6 fun _=>?_|fail)
 refine vi x8 rfl rfl rfl fun k => ?_
 repeat' (first|refine bz a6 ?_|fail)
 rename_i t2 t3
 refine bF a6 [(t3, .box [bI, bI] 40), (t2, .box [bI, bI] 40)] rfl rfl rfl rfl (Gm _) (by simp [aQ, eR]) (by simp [aQ, eR]) rfl fun k' => ?_
 refine aO (bg (t := 11) (c' := .imm 1 (aU fX)) rfl fun σ v h => VR.im h) ?_
 refine aO (bY (L' := [(t3, .box [bI, bI] 40), (t2, .box [bI, bI] 40)]) (List.sublist_append_right ..)) ?_
 have h17 : (aU fX).length = 17 := rfl
 repeat' (first|refine ah ?_|refine a7 ?_|refine aq ?_|refine a8 ?_|refine aa ?_|refine ae a6 rfl rfl ?_)
 refine bK (bi 0 rfl fun σ vs h => cg (k := 0) (c' := .vec none 1 []) h rfl fun v hv => co 1 hv) ?_
 refine aN [1, 2, 3, 4] (α := Nat × Option (Nat × Nat)) (fun x => [(5, aM x.1)]) (fun x => x.1 ≤ 17) (fun x => [(t3, .box [.vec x.2 1 (aU (ev (gM a.Runes) fX x.1)), bI] 40), (t2, .box [bI, bI] 40)] ++ tok x.2 3 1 (aU (ev (gM a.Runes) fX x.1)).length) (fun x => 17 - x.1) (0, none) rfl ⟨rfl, trivial⟩ (Nat.zero_le _) (fun _ _ h => h) ?_
 rintro ⟨i, q⟩ hi
 dsimp only at hi ⊢
 have hpl := mM (gM a.Runes) fX i
 have hsl := aQ (ev (gM a.Runes) fX i)
 try dsimp only [Gr, Gq, Gp, Gj]
 repeat' (first|refine ah ?_|refine a7 ?_|refine a8 ?_|refine aa ?_|refine ae a6 rfl rfl ?_)
 refine aw rfl (fun h => ?_) (fun h => ?_)
 ·have hil : i < 17 := by have := Gz h; rw [h17] at this; omega
  obtain ⟨z, hz⟩ : ∃ z, fX[i]? = some z := ⟨_, Ds (by exact hil)⟩
  have hzg := bN hz
  clear h
  repeat' (first|refine ah ?_|refine a7 ?_|refine aq ?_|refine au ?_|refine a8 ?_|refine ae a6 rfl rfl ?_)
  refine yT i rfl rfl rfl rfl ?_
  repeat' (first|fail)
  refine yN rfl rfl rfl ?_
  repeat' (first|refine a8 ?_|refine aa ?_|refine ae a6 rfl rfl ?_)
  refine aw rfl (fun hb => ?_) (fun hb => ?_)
  ·have hb : gM a.Runes i = true := hb
   have hst : ev (gM a.Runes) fX (i + 1) = ev (gM a.Runes) fX i ++ [z] := by rw [ev, hz, if_pos hb]; rfl
   repeat' (first|fail)
   refine bt 7 [(0, .v), (1, .l), (2, .v), (3, .v), (4, .v), (5, .v), (6, .v)] none ?_ trivial rfl (by kernel_rfl) (by kernel_rfl) (by kernel_rfl) mixed (by kernel_rfl) rfl
   repeat' (first|refine aE ?_|refine aZ a6 ?_|(apply bP;refine c8 a6 ?_)|refine ee a6 ?_|refine cI a6 0 rfl rfl rfl rfl (by first|trivial|rfl) ?_)
   refine br [1, 2, 3, 4, 5, 25, 30] rfl rfl ?_
   repeat' (first|fail)
   refine bF a6 _ rfl rfl rfl rfl (List.perm_append_comm (l₁ := [_, _])) (by simp; omega) (by simp; omega) rfl fun q' => ?_
   refine aO (aK (List.perm_append_comm (l₂ := [_, _]))) ?_
   repeat' (first|refine a7 ?_|refine a8 ?_|refine aI ?_|refine aa ?_|refine ae a6 rfl rfl ?_|(apply aW; refine aV ?_)|(apply aH; first|refine aj a6 0 rfl rfl rfl rfl rfl rfl rfl ?_|refine aj a6 1 rfl rfl rfl rfl rfl rfl rfl ?_|refine aj a6 2 rfl rfl rfl rfl rfl rfl rfl ?_|refine aj a6 3 rfl rfl rfl rfl rfl rfl rfl ?_|fail))
   exact aC (i + 1, q') rfl ⟨by rw [Gw]; rfl, trivial⟩ (by dsimp only; omega) (by dsimp only; omega) (fun _ _ h => by dsimp only; rw [hst, ← jQ]; exact h)
  ·have hb : gM a.Runes i = false := hb
   have hst : ev (gM a.Runes) fX (i + 1) = ev (gM a.Runes) fX i := by rw [ev, hb, if_neg (by decide), List.append_nil]
   repeat' (first|refine a7 ?_|refine au ?_|refine a8 ?_|refine aI ?_|refine aa ?_|refine ae a6 rfl rfl ?_|(apply aW; refine aV ?_)|fail)
   exact aC (i + 1, q) rfl ⟨by rw [Gw]; rfl, trivial⟩ (by dsimp only; omega) (by dsimp only; omega) (fun _ _ h => by dsimp only; rw [hst]; exact h)
 have hil : i = 17 := by have := Gy h; rw [h17] at this; omega
 subst hil
 clear h hi
 have hR : ev (gM a.Runes) fX 17 = vR a.Runes := rfl
 rw [hR]
 clear hR hsl hpl
 generalize vR a.Runes = R
 repeat' (first|refine ah ?_|refine a7 ?_|refine aR ?_|refine a8 ?_|refine av ?_|refine aB ?_|refine ay ?_)
 refine aO (bi 0 rfl fun σ vs h => cg (k := 0) (c' := .imm 1 (aU R)) h rfl fun v hv => VR.im hv) ?_
 refine aO (bY (L' := [(t3, .box [.imm 1 (aU R), bI] 40), (t2, .box [bI, bI] 40)]) (List.sublist_append_left [_, _] _)) ?_
 refine aO (bi 0 rfl fun σ vs h => cg (k := 1) (c' := .vec none 1 []) h rfl fun v hv => co 1 hv) ?_
 refine vi wL rfl rfl rfl fun k2 => ?_
 repeat' (first|refine bz a6 ?_|fail)
 refine bF a6 [(t3, .box [.imm 1 (aU R), .vec none 1 []] 40), (t2, .box [bI, bI] 40)] rfl rfl rfl rfl (Gm _) (by simp [fR, dW]) (by simp [fR, dW]) rfl fun k3 => ?_
 refine aO (bg (t := 35) (c' := .imm 1 (gi (dW ++ [yV]))) rfl fun σ v h => VR.im h) ?_
 refine aO (bY (L' := [(t3, .box [.imm 1 (aU R), .vec none 1 []] 40), (t2, .box [bI, bI] 40)]) (List.sublist_append_right ..)) ?_
 generalize hNN : dW ++ [yV] = NN
 have h9 : (gi NN).length = 9 := by rw [← hNN]; rfl
 have h9' : NN.length = 9 := by rw [← hNN]; rfl
 repeat' (first|refine ah ?_|refine a7 ?_|refine aq ?_|refine a8 ?_|refine aa ?_|refine ae a6 rfl rfl ?_)
 refine aN [1, 2, 3, 6] (α := Nat × Option (Nat × Nat)) (fun x => [(7, aM x.1)]) (fun x => x.1 ≤ 9) (fun x => [(t3, .box [.imm 1 (aU R), .vec x.2 1 (gi (ev (gM a.Features) NN x.1))] 40), (t2, .box [bI, bI] 40)] ++ tok x.2 9 1 (gi (ev (gM a.Features) NN x.1)).length) (fun x => 9 - x.1) (0, none) rfl ⟨rfl, trivial⟩ (Nat.zero_le _) (fun _ _ h => h) ?_
 rintro ⟨i, q⟩ hi
 dsimp only at hi ⊢
 have hpl := mM (gM a.Features) NN i
 have hsl := fR (ev (gM a.Features) NN i)
 try dsimp only [Gr, Gq, Gp, Gj]
 repeat' (first|refine ah ?_|refine a7 ?_|refine a8 ?_|refine aa ?_|refine ae a6 rfl rfl ?_)
 refine aw rfl (fun h => ?_) (fun h => ?_)
 ·have hil : i < 9 := by have := Gz h; rw [h9] at this; omega
  obtain ⟨z, hz⟩ : ∃ z, NN[i]? = some z := ⟨_, Ds (by omega)⟩
  have hzg : (gi NN)[i]? = some [kf z] := by unfold gi; rw [List.getElem?_map, hz]; rfl
  clear h
  repeat' (first|refine ah ?_|refine a7 ?_|refine aq ?_|refine au ?_|refine a8 ?_|refine ae a6 rfl rfl ?_)
  refine yT i rfl rfl rfl rfl ?_
  repeat' (first|fail)
  refine yN rfl rfl rfl ?_
  repeat' (first|refine a8 ?_|refine aa ?_|refine ae a6 rfl rfl ?_)
  refine aw rfl (fun hb => ?_) (fun hb => ?_)
  ·have hb : gM a.Features i = true := hb
   have hst : ev (gM a.Features) NN (i + 1) = ev (gM a.Features) NN i ++ [z] := by rw [ev, hz, if_pos hb]; rfl
   repeat' (first|fail)
   refine bt 7 [(0, .v), (1, .l), (2, .v), (3, .v), (4, .v), (5, .v), (6, .v)] none ?_ trivial rfl (by kernel_rfl) (by kernel_rfl) (by kernel_rfl) mixed (by kernel_rfl) rfl
   repeat' (first|refine aE ?_|refine aZ a6 ?_|(apply bP;refine c8 a6 ?_)|refine ee a6 ?_|refine cI a6 0 rfl rfl rfl rfl (by first|trivial|rfl) ?_)
   refine br [1, 2, 3, 6, 7, 49, 54] rfl rfl ?_
   repeat' (first|fail)
   refine bF a6 _ rfl rfl rfl rfl (List.perm_append_comm (l₁ := [_, _])) (by simp; omega) (by simp; omega) rfl fun q' => ?_
   refine aO (aK (List.perm_append_comm (l₂ := [_, _]))) ?_
   repeat' (first|refine a7 ?_|refine a8 ?_|refine aI ?_|refine aa ?_|refine ae a6 rfl rfl ?_|(apply aW; refine aV ?_)|(apply aH; first|refine aj a6 0 rfl rfl rfl rfl rfl rfl rfl ?_|refine aj a6 1 rfl rfl rfl rfl rfl rfl rfl ?_|refine aj a6 2 rfl rfl rfl rfl rfl rfl rfl ?_|refine aj a6 3 rfl rfl rfl rfl rfl rfl rfl ?_|fail))
   exact aC (i + 1, q') rfl ⟨by rw [Gw]; rfl, trivial⟩ (by dsimp only; omega) (by dsimp only; omega) (fun _ _ h => by dsimp only; rw [hst, zD]; exact h)
  ·have hb : gM a.Features i = false := hb
   have hst : ev (gM a.Features) NN (i + 1) = ev (gM a.Features) NN i := by rw [ev, hb, if_neg (by decide), List.append_nil]
   repeat' (first|refine a7 ?_|refine au ?_|refine a8 ?_|refine aI ?_|refine aa ?_|refine ae a6 rfl rfl ?_|(apply aW; refine aV ?_)|fail)
   exact aC (i + 1, q) rfl ⟨by rw [Gw]; rfl, trivial⟩ (by dsimp only; omega) (by dsimp only; omega) (fun _ _ h => by dsimp only; rw [hst]; exact h)
 have hil : i = 9 := by have := Gy h; rw [h9] at this; omega
 subst hil
 clear h hi
 have hF : ev (gM a.Features) NN 9 = A8 a.Features := by rw [← hNN]; rfl
 rw [hF]
 clear hF hsl hpl hNN h9 h9'
 generalize A8 a.Features = F
 repeat' (first|refine ah ?_|refine a7 ?_|refine ar ?_|refine aR ?_|refine a8 ?_|refine av ?_|refine aB ?_|refine ay ?_|refine aa ?_|(apply bB; first|refine ak a6 0 rfl rfl rfl rfl rfl ?_|refine ak a6 1 rfl rfl rfl rfl rfl ?_|refine ak a6 2 rfl rfl rfl rfl rfl ?_|refine ak a6 3 rfl rfl rfl rfl rfl ?_|refine aD a6 0 rfl rfl rfl rfl rfl ?_|refine aD a6 1 rfl rfl rfl rfl rfl ?_|refine aD a6 2 rfl rfl rfl rfl rfl ?_|refine ak a6 1 rfl rfl rfl (by assumption) rfl ?_|refine ak a6 0 rfl rfl rfl (by assumption) rfl ?_|fail)|(apply aH; first|refine aj a6 0 rfl rfl rfl rfl rfl rfl rfl ?_|refine aj a6 1 rfl rfl rfl rfl rfl rfl rfl ?_|refine aj a6 2 rfl rfl rfl rfl rfl rfl rfl ?_|refine aj a6 3 rfl rfl rfl rfl rfl rfl rfl ?_|fail))
 refine ba (bi 1 (cs' := [.imm 1 (aU R), .imm 1 (gi F)]) rfl fun σ vs h => mZ.vrs (a := [.imm 1 (aU R), .vec q 1 (gi F)]) (b := [.imm 1 (aU R), .imm 1 (gi F)]) ⟨dw.refl _, dw.im, trivial⟩ h) ?_
 exact nK (cs := [nD R F]) ⟨⟨t2, 1, _, _, rfl, rfl, .inr ⟨cY a6 rfl, rfl⟩⟩, trivial⟩ rfl
theorem wE (l : List Int) : bO Tryz.prog 8 [.imm 1 (aU l)] (cr (lQ (l.take 300))) := by
 refine aP Tryz.func8 rfl Tryz.ntmps8 rfl fun B => ?_
 have hnl := aQ l
 repeat' (first|refine ah ?_|refine a7 ?_|refine a8 ?_|refine aa ?_|refine ae a6 rfl rfl ?_|refine b5 a6 fun _=>?_|fail)
 refine CX a6 (min l.length 300) rfl rfl rfl rfl rfl (by omega) (by omega) rfl ?_
 rw [wv, show l.take (min l.length 300) = l.take 300 by
  rcases Nat.le_total l.length 300 with h | h
  ·rw [Nat.min_eq_left h, List.take_of_length_le (Nat.le_refl _), List.take_of_length_le h]
  ·rw [Nat.min_eq_right h]]
 repeat' (first|fail)
 refine bh (hc := ⟨yG (l.take 300) (by rw [List.length_take]; omega)⟩) ?_
 repeat' (first|refine ar ?_|refine a8 ?_|refine aa ?_|(apply aH; first|refine aj a6 0 rfl rfl rfl rfl rfl rfl rfl ?_|refine aj a6 1 rfl rfl rfl rfl rfl rfl rfl ?_|refine aj a6 2 rfl rfl rfl rfl rfl rfl rfl ?_|refine aj a6 3 rfl rfl rfl rfl rfl rfl rfl ?_|fail))
 exact nK (cs := [cr (lQ (l.take 300))]) ⟨⟨_, 0, _, _, rfl, rfl, .inr ⟨cY a6 rfl, rfl⟩⟩, trivial⟩ rfl
end Go.Proofs.YtjjpkibjffmceaaGreat
namespace Go.Proofs.YtjjpkibjffmceaaGreat
open Go.ChangeShapes Go.WideShapes Go.ChangeAt Go.RowKit Go.Deep Go.Joins
section
variable {H : Type} {enc : TypeId × Value → H} {W : World}
abbrev pQ (z : Int) : Prop := 0 ≤ z ∧ z < 4294967296
theorem Bb {P : Program} {t : TypeId} (ht : P.underlying t = some (.int .u32)) : vG enc P W t (fun z : Int => [DD z]) pQ := fun fuel cs x h _ => by
 obtain ⟨z, rfl, -, hz⟩ := DataW.trod_int ht h
 have h1 : IntKind.u32.min ≤ z ∧ z ≤ IntKind.u32.max := by simpa [Lit.wf] using hz
 exact ⟨z, dv.cons (.sc _) dv.nil, by intro u hu; rw [Gk hu]; rfl, h1.1, Int.lt_of_le_of_lt h1.2 (by decide)⟩
theorem oU : vG enc Tryz.prog W 23 (fun z : Int => [DD z]) pQ := Bb Tryz.underlying23
theorem oA : vG enc Tryz.prog W 25 Ae (fun a => pQ a.Runes ∧ pQ a.Features) :=
 (uw (N := 6) Tryz.underlying25 (by kernel_rfl) (gV (s := 1) rfl (by kernel_rfl) EY (gV (s := 1) rfl (by kernel_rfl) oU (gV (s := 1) rfl (by kernel_rfl) oU (gV (s := 1) rfl (by kernel_rfl) EY (gV (s := 1) rfl (by kernel_rfl) EY (gV (s := 1) rfl (by kernel_rfl) oU yZ))))))).map
  (fun p => ⟨p.1, p.2.1, p.2.2.1, p.2.2.2.1, p.2.2.2.2.1, p.2.2.2.2.2.1⟩) (fun _ => rfl) fun _ h => ⟨h.2.1, h.2.2.1⟩
set_option maxRecDepth 100000 in
theorem wN {base : Nat} {v : Value} {d : DataW H} {p : List MemPlace} (hok : Value.okWide Tryz.prog W .any base 25 v) (h : DataW.Trod enc Tryz.prog W 0 (fun _ => true) true 25 v d p) (hl : xm Tryz.prog 25 d) : ∃ a : zU, VR (jT W) (.agg (Ae a)) v ∧ pQ a.Runes ∧ pQ a.Features := by
 obtain ⟨cs, rfl, hsz⟩ := okWide_struct Tryz.underlying25 hok
 obtain ⟨fuel, hf⟩ := h
 obtain ⟨x, h1, h2, h3⟩ := oA (enc := enc) fuel cs.toList _ (by simpa [Value.cells] using hf) hl
 have := VR.agg (σ := jT W) _ _ h1.1 h1.2 h2
 exact ⟨x, by simpa using this, h3⟩
end
end Go.Proofs.YtjjpkibjffmceaaGreat
namespace Go.Proofs.YtjjpkibjffmceaaGreat
open Go.RowKit
section
variable {P : Program} {tt : TT} {r : Option Nat} {ops : Array Oper} {Q : Exit → Act → World → Prop} {nt : Nat} {D : List Deferred} {fr : ca} {B : Bs} {L : AL} {rest : List Oper} {d : Nat} {ty t t' : TypeId} {pos : String} {af : Array Edge} {g : Option (Nat × Bool)} {x y z : Operand} {u : AV}
theorem it {a b : ByteArray} (hx : bH fr x = some (.sc (.string a))) (hy : bH fr y = some (.sc (.string b))) (hs : a.size + b.size ≤ 1000000) (hd : Nat.ble nt d = false) (h : bT P r ops Q nt D rest ((d, .sc (.string (a ++ b))) :: fr) B L) :
  bT P r ops Q nt D (⟨some d, .binOp .add t x y t', ty, pos, af, none⟩ :: rest) fr B L := dy (BO hx hy hs) hd rfl h
theorem yP (ok : eW P tt) {a : Int} {q q' : IntKind} {ti ti' : TI} (hx : bH fr x = some (.sc (.int q a))) (ht : dq tt t = some ti) (hk : ti.k = .int q) (ht' : dq tt t' = some ti') (hk' : ti'.k = .int q') (hd : Nat.ble nt d = false) (h : bT P r ops Q nt D rest ((d, .sc (.int q' (q'.wrap a))) :: fr) B L) :
  bT P r ops Q nt D (⟨some d, .convert t t' x, ty, pos, af, none⟩ :: rest) fr B L := by
 haveI := ok.int ht hk
 haveI := ok.int ht' hk'
 exact dy (pR hx) hd rfl h
theorem vh (ok : eW P tt) {e by_ : Nat} {c : Int} {ti ti' : TI} (hx : bH fr x = some u) (hu : il u = some (1, [[.sc (.int .u8 c)]])) (ht : mf tt t = some (e, 1, by_)) (he : dq tt e = some ti) (hk : ti.k = .int .u8) (ht' : dq tt t' = some ti') (hk' : ti'.k = .str) (hd : Nat.ble nt d = false) (h : bT P r ops Q nt D rest ((d, .sc (.string ⟨#[UInt8.ofNat c.toNat]⟩)) :: fr) B L) :
  bT P r ops Q nt D (⟨some d, .convert t t' x, ty, pos, af, none⟩ :: rest) fr B L := dy (uR (bU ok ht).1 (ok.int he hk) (ok.str ht' hk') hx (cT hu)) hd rfl h
end
end Go.Proofs.YtjjpkibjffmceaaGreat
namespace Go.Proofs.YtjjpkibjffmceaaGreat
open Go.RowKit
attribute [local irreducible] AT bT AX AO Av Kt bk ej DA cX
class mY (z : Int) : Prop where
 ok : NB z
theorem wj (m : Nat) : kX m = (if m / 10 = 0 then ⟨#[]⟩ else kX (m / 10)) ++ nd (m % 10) := by
 conv => lhs; rw [kX]
 by_cases h : m < 10
 ·rw [if_pos h, if_pos (by omega), Nat.mod_eq_of_lt h]
  exact ByteArray.empty_append.symm
 ·rw [if_neg h, if_neg (by omega)]
def lD (k : Int) (s : ByteArray) : Prop := k ≠ 0 ∨ s = ⟨#[]⟩
instance (k : Int) (s : ByteArray) : Decidable (lD k s) := inferInstanceAs (Decidable (_ ∨ _))
theorem zK : ∀ n < 10, UInt8.ofNat (IntKind.u8.wrap (48 + ((n : Nat) : Int))).toNat = UInt8.ofNat (48 + n) := by decide
theorem qT {m : Nat} {s : ByteArray} : (nd m ++ s).size ≠ 0 := by rw [Gv, kW]; omega
set_option maxHeartbeats 2000000 in
theorem tT (z : Int) (hz : NB z) : bO Tryz.prog 58 [aM z] (kf (df z)) := by
  refine aP Tryz.func58 rfl Tryz.ntmps58 rfl fun B => ?_
  have hs9 := y4 (m := z.natAbs) (by have := hz.1; have := hz.2; omega)
  repeat' (first|refine ah ?_|refine a7 ?_|refine aq ?_|refine a8 ?_|refine aa ?_|refine ae a6 rfl rfl ?_)
  refine aN [0] (α := Int × ByteArray) (fun x => [(4, aM x.1), (3, kf x.2)]) (fun x => kX z.natAbs = (if lD x.1 x.2 then kX x.1.natAbs else ⟨#[]⟩) ++ x.2 ∧ x.1.natAbs ≤ 999999999) (fun _ => []) (fun x => x.1.natAbs + (if x.2.size = 0 then 1 else 0)) (z, ⟨#[]⟩) rfl ⟨rfl, rfl, trivial⟩ ⟨?_, by have := hz.1; have := hz.2; dsimp only; omega⟩ (fun _ _ h => h) ?_
  · dsimp only
    rw [if_pos (.inr rfl)]
    exact ByteArray.append_empty.symm
  rintro ⟨k, s⟩ ⟨hI, hk⟩
  dsimp only at hI hk ⊢
  try dsimp only [Gr, Gq, Gp, Gj]
  repeat' (first|refine ah ?_|refine a7 ?_|refine ae a6 rfl rfl ?_)
  refine cZ (t := 12) [0, 3, 4] (lD k s) rfl (fun Q' K => ?_) ?_
  · repeat' (first|refine aa ?_|refine ae a6 rfl rfl ?_|refine aG rfl rfl ?_|refine aL rfl rfl rfl rfl ?_|refine bc rfl rfl rfl (fun _ => ?_) (fun _ => ?_))
    all_goals exact K _ _ rfl rfl (by clear K; unfold lD; simp_all <;> omega)
  repeat' (first|refine a8 ?_)
  refine aw rfl (fun hc => ?_) (fun hc => ?_)
  · have hC := Gz hc
    rw [if_pos hC] at hI
    have hsz : s.size ≤ 9 := by
      have := congrArg ByteArray.size hI
      rw [Gv] at this
      omega
    have hm : (k.tmod 10).natAbs = k.natAbs % 10 := Int.natAbs_tmod k 10
    have hq : (k.tdiv 10).natAbs = k.natAbs / 10 := Int.natAbs_tdiv k 10
    have hq2 : IntKind.i64.wrap (k.tdiv 10) = k.tdiv 10 := mz (by omega)
    have hC2 : k ≠ 0 ∨ s.size = 0 := hC.imp id fun h => by rw [h]; rfl
    have hlt : k.natAbs % 10 < 10 := Nat.mod_lt _ (by omega)
    have hfin : ∀ t : ByteArray, t = nd (k.natAbs % 10) ++ s → kX z.natAbs = (if lD (k.tdiv 10) t then kX (k.tdiv 10).natAbs else ⟨#[]⟩) ++ t := fun t ht => by
      subst ht
      rw [hI, wj k.natAbs, ByteArray.append_assoc, hq]
      refine congrArg (· ++ _) ?_
      by_cases h0 : k.natAbs / 10 = 0
      · rw [if_pos h0, if_neg]
        rintro (h | h)
        · exact h (by omega)
        · exact qT (congrArg ByteArray.size h)
      · rw [if_neg h0, if_pos (.inl fun h => h0 (by rw [h] at hq; exact hq.symm))]
    clear hc
    repeat' (first|refine ah ?_|refine a7 ?_|refine aq ?_|refine au ?_|refine a8 ?_|refine ae a6 rfl rfl ?_)
    refine yS ?_ rfl rfl (by omega) rfl
    repeat' (first|refine ah ?_|refine a7 ?_|refine a8 ?_|refine aa ?_|refine ae a6 rfl rfl ?_)
    refine aw rfl (fun hd => ?_) (fun hd => ?_)
    · have hd := Gz hd
      have hdg : (0 : Int) - k.tmod 10 = ((k.natAbs % 10 : Nat) : Int) := by omega
      repeat' (first|refine ah ?_|refine a7 ?_|refine a8 ?_|refine aa ?_|refine ae a6 rfl rfl ?_|(apply aW; refine aV ?_)|fail)
      rw [hdg]
      repeat' (first|fail)
      refine yP a6 rfl rfl rfl rfl rfl rfl ?_
      repeat' (first|refine bz a6 ?_|fail)
      refine vh a6 rfl rfl rfl rfl rfl rfl rfl rfl ?_
      rw [zK _ hlt]
      repeat' (first|refine ae a6 rfl rfl ?_)
      refine it rfl rfl (by rw [show (⟨#[UInt8.ofNat (48 + k.natAbs % 10)]⟩ : ByteArray).size = 1 from rfl]; omega) rfl ?_
      repeat' (first|refine a7 ?_|refine a8 ?_|refine aa ?_|refine ae a6 rfl rfl ?_)
      refine aV ?_ (uV rfl rfl (by omega)) rfl
      rw [hq2]
      repeat' (first|refine aI ?_|refine aa ?_|refine ae a6 rfl rfl ?_)
      refine aC (k.tdiv 10, nd (k.natAbs % 10) ++ s) rfl ⟨rfl, rfl, trivial⟩ ⟨hfin _ rfl, by dsimp only; omega⟩ ?_ (fun _ _ h => h)
      dsimp only
      rw [if_neg qT]
      split <;> omega
    · have hd := Gy hd
      have hdg : k.tmod 10 = ((k.natAbs % 10 : Nat) : Int) := by omega
      rw [hdg]
      repeat' (first|refine ah ?_|refine a7 ?_|refine au ?_|refine a8 ?_|refine ae a6 rfl rfl ?_|(apply aW; refine aV ?_)|fail)
      refine yP a6 rfl rfl rfl rfl rfl rfl ?_
      repeat' (first|refine bz a6 ?_|fail)
      refine vh a6 rfl rfl rfl rfl rfl rfl rfl rfl ?_
      rw [zK _ hlt]
      repeat' (first|refine ae a6 rfl rfl ?_)
      refine it rfl rfl (by rw [show (⟨#[UInt8.ofNat (48 + k.natAbs % 10)]⟩ : ByteArray).size = 1 from rfl]; omega) rfl ?_
      repeat' (first|refine a7 ?_|refine a8 ?_|refine aa ?_|refine ae a6 rfl rfl ?_)
      refine aV ?_ (uV rfl rfl (by omega)) rfl
      rw [hq2]
      repeat' (first|refine aI ?_|refine aa ?_|refine ae a6 rfl rfl ?_)
      refine aC (k.tdiv 10, nd (k.natAbs % 10) ++ s) rfl ⟨rfl, rfl, trivial⟩ ⟨hfin _ rfl, by dsimp only; omega⟩ ?_ (fun _ _ h => h)
      dsimp only
      rw [if_neg qT]
      split <;> omega
  have hC := Gy hc
  rw [if_neg hC] at hI
  have hI : kX z.natAbs = s := by rw [hI]; exact ByteArray.empty_append
  subst hI
  clear hc hC hk
  repeat' (first|refine ah ?_|refine a7 ?_|refine aR ?_|refine a8 ?_|refine av ?_|refine aB ?_|refine ay ?_|refine aa ?_|refine ae a6 rfl rfl ?_)
  unfold df jF uo
  refine aw rfl (fun hn => ?_) (fun hn => ?_)
  · rw [if_pos (Gz hn)]
    repeat' (first|refine ah ?_|refine a7 ?_|refine ae a6 rfl rfl ?_)
    refine it rfl rfl (by rw [show (⟨#[45]⟩ : ByteArray).size = 1 from rfl]; omega) rfl ?_
    repeat' (first|fail)
    refine it rfl rfl (by rw [Gv, show (⟨#[45]⟩ : ByteArray).size = 1 from rfl, show (⟨#[32]⟩ : ByteArray).size = 1 from rfl]; omega) rfl ?_
    repeat' (first|refine ar ?_|refine a8 ?_|refine aF ?_|refine aa ?_|refine ae a6 rfl rfl ?_)
    exact aA rfl rfl rfl
  · rw [if_neg (Gy hn)]
    repeat' (first|refine ah ?_|refine a7 ?_|refine au ?_|refine a8 ?_|refine ae a6 rfl rfl ?_)
    refine it rfl rfl (by rw [show (⟨#[32]⟩ : ByteArray).size = 1 from rfl]; omega) rfl ?_
    repeat' (first|refine ar ?_|refine a8 ?_|refine aa ?_|refine ae a6 rfl rfl ?_)
    exact aA rfl rfl rfl
instance (z : Int) [h : mY z] : AD Tryz.prog 58 [aM z] (kf (df z)) := ⟨tT z h.ok⟩
theorem BJ (b : Bool) : bO Tryz.prog 59 [cF b] (kf (tj b)) := by
 refine aP Tryz.func59 rfl Tryz.ntmps59 rfl fun B => ?_
 repeat' (first|refine ah ?_|refine a7 ?_|refine a8 ?_|refine aa ?_|refine ae a6 rfl rfl ?_)
 cases b with
 | true =>
  repeat' (first|refine ah ?_|refine a7 ?_|refine ar ?_|refine a8 ?_|refine aF ?_|refine aa ?_|refine ae a6 rfl rfl ?_|refine bQ rfl ?_)
  exact aA rfl rfl rfl
 | false =>
  repeat' (first|refine ah ?_|refine a7 ?_|refine au ?_|refine ar ?_|refine a8 ?_|refine aa ?_|refine ae a6 rfl rfl ?_|refine bv rfl ?_)
  exact aA rfl rfl rfl
instance (b : Bool) : AD Tryz.prog 59 [cF b] (kf (tj b)) := ⟨BJ b⟩
theorem uv {n : Nat} (h : n ≤ 999999999) : mY (n : Int) := ⟨⟨by omega, by omega⟩⟩
theorem zm (l : List Int) (h : zO l) : bO Tryz.prog 60 [.imm 1 (aU l)] (kf (ru l)) := by
 refine aP Tryz.func60 rfl Tryz.ntmps60 rfl fun B => ?_
 have hil := aQ l
 have hl := h.1
 haveI : mY (((aU l).length : Nat) : Int) := uv (by omega)
 have e0 : df (((aU l).length : Nat) : Int) = fk l.length := by rw [hil]; rfl
 have h0 := ff (n := l.length) (by omega)
 repeat' (first|refine ah ?_|refine a7 ?_|refine aq ?_|refine a8 ?_|refine aa ?_|refine ae a6 rfl rfl ?_|(apply bA;refine bh ?_)|fail)
 rw [e0]
 repeat' (first|fail)
 refine aN [0] (α := Nat) (fun i => [(4, aM i), (3, kf ((l.take i).foldl qx (fk l.length)))]) (fun i => i ≤ l.length) (fun _ => []) (fun i => l.length - i) 0 rfl ⟨rfl, rfl, trivial⟩ (Nat.zero_le _) (fun _ _ h => h) ?_
 intro i hi
 try dsimp only [Gr, Gq, Gp, Gj]
 repeat' (first|refine ah ?_|refine a7 ?_|refine a8 ?_|refine aa ?_|refine ae a6 rfl rfl ?_)
 refine aw rfl (fun hh => ?_) (fun hh => ?_)
 ·have hil : i < l.length := by have := Gz hh; omega
  obtain ⟨z, hz⟩ : ∃ z, l[i]? = some z := ⟨_, Ds hil⟩
  have hzi := bN hz
  have hzn := h.2 z (Gx hz)
  haveI : mY z := ⟨hzn⟩
  have k1 := bG hzn
  have k2 := ga (n := 16) (m := 11) i (ph h.2) h.1 h0
  have hst : (l.take (i + 1)).foldl qx (fk l.length) = (l.take i).foldl qx (fk l.length) ++ df z := gU hz
  repeat' (first|refine ah ?_|refine a7 ?_|refine aq ?_|refine au ?_|refine a8 ?_|refine ae a6 rfl rfl ?_|(apply aY; first|refine aX a6 ?_|refine aS a6 ?_)|(apply bA;refine bh ?_)|fail)
  refine it rfl rfl (by omega) rfl ?_
  repeat' (first|refine a7 ?_|refine a8 ?_|refine aI ?_|refine aa ?_|refine ae a6 rfl rfl ?_|(apply aW; refine aV ?_)|fail)
  exact aC (i + 1) rfl ⟨by rw [Gw]; rfl, by rw [hst]; rfl, trivial⟩ (by omega) (by omega) (fun _ _ h => h)
 have hil : i = l.length := by have := Gy hh; omega
 subst hil
 rw [List.take_length]
 repeat' (first|refine ah ?_|refine a7 ?_|refine ar ?_|refine aR ?_|refine a8 ?_|refine av ?_|refine aB ?_|refine ay ?_|refine aa ?_|refine ae a6 rfl rfl ?_)
 exact aA rfl rfl rfl
theorem w3 (l : List eb) (h : Dr l) : bO Tryz.prog 61 [.imm 2 (l.map dH)] (kf (s7 l)) := by
 refine aP Tryz.func61 rfl Tryz.ntmps61 rfl fun B => ?_
 have hml : (l.map dH).length = l.length := Gu ..
 have hl := h.1
 haveI : mY (((l.map dH).length : Nat) : Int) := uv (by omega)
 have e0 : df (((l.map dH).length : Nat) : Int) = fk l.length := by rw [hml]; rfl
 have h0 := ff (n := l.length) (by omega)
 repeat' (first|refine ah ?_|refine a7 ?_|refine aq ?_|refine a8 ?_|refine aa ?_|refine ae a6 rfl rfl ?_|(apply bA;refine bh ?_)|fail)
 rw [e0]
 repeat' (first|fail)
 refine aN [0] (α := Nat) (fun i => [(4, aM i), (3, kf ((l.take i).foldl mR (fk l.length)))]) (fun i => i ≤ l.length) (fun _ => []) (fun i => l.length - i) 0 rfl ⟨rfl, rfl, trivial⟩ (Nat.zero_le _) (fun _ _ h => h) ?_
 intro i hi
 try dsimp only [Gr, Gq, Gp, Gj]
 repeat' (first|refine ah ?_|refine a7 ?_|refine a8 ?_|refine aa ?_|refine ae a6 rfl rfl ?_)
 refine aw rfl (fun hh => ?_) (fun hh => ?_)
 ·have hil : i < l.length := by have := Gz hh; omega
  obtain ⟨z, hz⟩ : ∃ z, l[i]? = some z := ⟨_, Ds hil⟩
  have hzg := bj (c := dH) hz
  have hzn := h.2 z (Gx hz)
  haveI : mY z.Op := ⟨hzn.1⟩
  haveI : mY z.A := ⟨hzn.2⟩
  have k1 := bG hzn.1
  have k3 := bG hzn.2
  have k2 := ga (n := 50) (m := 11) i (nz h.2) h.1 h0
  have hst : (l.take (i + 1)).foldl mR (fk l.length) = (l.take i).foldl mR (fk l.length) ++ df z.Op ++ df z.A := gU hz
  repeat' (first|refine ah ?_|refine aq ?_|refine au ?_|refine a8 ?_)
  refine bt 14 [(0, .v), (1, .v), (2, .v), (3, .v), (4, .v), (5, .v), (6, .v), (7, .v), (8, .v), (9, .v), (10, .v), (11, .v), (12, .v), (13, .v)] none ?_ trivial rfl (by kernel_rfl) (by kernel_rfl) (by kernel_rfl) mixed (by kernel_rfl) rfl
  repeat' (first|refine aE ?_|refine aZ a6 ?_|(apply bP;refine c8 a6 ?_)|(apply bX;refine cm ?_)|fail)
  refine fA ?_ rfl rfl (by omega) (by first | trivial | rfl)
  repeat' (first|refine aE ?_|refine aZ a6 ?_|(apply bP;refine c8 a6 ?_)|(apply bX;refine cm ?_)|fail)
  refine br [0, 4, 21, 27] rfl rfl ?_
  repeat' (first|fail)
  refine it rfl rfl (by rw [Gv]; omega) rfl ?_
  repeat' (first|refine a7 ?_|refine a8 ?_|refine aI ?_|refine aa ?_|refine ae a6 rfl rfl ?_|(apply aW; refine aV ?_)|fail)
  exact aC (i + 1) rfl ⟨by rw [Gw]; rfl, by rw [hst]; rfl, trivial⟩ (by omega) (by omega) (fun _ _ h => h)
 have hil : i = l.length := by have := Gy hh; omega
 subst hil
 rw [List.take_length]
 repeat' (first|refine ah ?_|refine a7 ?_|refine ar ?_|refine aR ?_|refine a8 ?_|refine av ?_|refine aB ?_|refine ay ?_|refine aa ?_|refine ae a6 rfl rfl ?_)
 exact aA rfl rfl rfl
class F4 (l : List Int) : Prop where
 ok : zO l
class F1 (l : List eb) : Prop where
 ok : Dr l
instance (l : List Int) [h : F4 l] : AD Tryz.prog 60 [.imm 1 (aU l)] (kf (ru l)) := ⟨zm l h.ok⟩
instance (l : List eb) [h : F1 l] : AD Tryz.prog 61 [.imm 2 (l.map dH)] (kf (s7 l)) := ⟨w3 l h.ok⟩
end Go.Proofs.YtjjpkibjffmceaaGreat
