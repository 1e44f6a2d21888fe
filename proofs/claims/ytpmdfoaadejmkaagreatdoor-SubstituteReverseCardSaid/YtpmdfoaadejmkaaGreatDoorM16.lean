/-
  States that were met: met again, or for the first time.
-/
import Derived.Test.YtpmdfoaadejmkaaGreatDoorM15
import Derived.Test.YtpmdfoaadejmkaaGreatDoorM12
namespace Go.Proofs.YtpmdfoaadejmkaaGreatDoor
open Go.RowKit
attribute [local irreducible] AT bh AX AO Av Kt b6 dh DA cE
section
variable {P : Program} {tt : TT} {r : Option Nat} {ops : Array Oper} {Q : Exit → Act → World → Prop} {nt : Nat} {D : List Deferred} {fr : bw} {B : Bs} {L : AL} {rest : List Oper} {d : Nat} {ty t t' : TypeId} {pos : String} {af : Array Edge} {x y z : Operand} {u : AV}
theorem yU (ok : di P tt) (n : Nat) {e sz by_ : Nat} {k k' : IntKind} {b : Int} {zs : List Value} (ht : iJ tt t = some (e, sz, by_)) (hz : zI tt e = some zs) (hzl : Nat.beq zs.length sz = true) (hx : aW fr x = some (.sc (.int k 0))) (hy : aW fr y = some (.sc (.int k' b))) (hb : b = (n : Int)) (hby : by_ * n ≤ 281474976710656) (h63 : n ≤ 9223372036854775807) (hd : Nat.ble nt d = false)
  (h : ∀ b, bh P r ops Q nt D rest ((d, .vec (some (b, n)) sz []) :: fr) B ((b, .vec e sz 0 n) :: L)) : bh P r ops Q nt D (⟨some d, .makeSlice t x y, ty, pos, af, none⟩ :: rest) fr B L :=
 c8 hd rfl (vJ (b8 ok ht).1 (eI ok hz) (Nat.eq_of_beq_eq_true hzl) (b8 ok ht).2 hx hy hb hby h63) fun c L' ⟨b, h1, h2⟩ => by subst h1; subst h2; exact h b
end
def po (nb kb mb : Nat) (M : List Pl) (q : Option (Nat × Nat)) : AL := (nb, .box [.sc (.map (some kb))] 129) :: (kb, cg .string (pR M)) :: (mb, .box [.vec q 2 (M.map jt)] 259) :: tok q 261 2 M.length
def xL (nb kb mb : Nat) (M : List Pl) (u : AV) : AV → AL → Prop := fun c L => c = u ∧ ∃ q, L = po nb kb mb M q
set_option maxHeartbeats 4000000 in
theorem tu (nb kb mb : Nat) (M : List Pl) (hM : ∀ x ∈ M, ij x) (hl : M.length ≤ 1000000) (q : Option (Nat × Nat)) (p : Pl) (hp : ij p) : AC Tryz.prog 178 ([.agg (jt p)] ++ [ep nb, ep mb]) (po nb kb mb M q) (xL nb kb mb (cW M p) (az ((cW M p).idxOf p : Nat))) := by
 refine aB Tryz.func178 rfl Tryz.ntmps178 rfl fun B => ?_
 haveI := AD.mk (zo p hp)
 have hml : (M.map jt).length = M.length := Du ..
 unfold po
 repeat' (first|refine a8 ?_|refine a0 ?_|refine a5 ?_|refine a6 ?_|refine a7 a4 rfl rfl ?_|(apply bD; first|refine ai a4 0 rfl rfl rfl rfl rfl ?_|refine ai a4 1 rfl rfl rfl rfl rfl ?_|refine ai a4 2 rfl rfl rfl rfl rfl ?_|refine ai a4 3 rfl rfl rfl rfl rfl ?_|refine ax a4 0 rfl rfl rfl rfl rfl ?_|refine ax a4 1 rfl rfl rfl rfl rfl ?_|refine ax a4 2 rfl rfl rfl rfl rfl ?_|refine ai a4 1 rfl rfl rfl (by assumption) rfl ?_|refine ai a4 0 rfl rfl rfl (by assumption) rfl ?_|fail)|refine aY ?_|(apply bb;refine b4 ?_)|fail)
 refine fu 1 (.int .i64 0) Tryz.underlying129 Tryz.underlying9 rfl rfl trivial rfl (by kernel_rfl) rfl ?_
 by_cases hm : p ∈ M
 ·have hg := re hM hp hm
  have ht := dU hm
  rw [hg, ht]
  repeat' (first|refine a8 ?_|refine a0 ?_|refine ah ?_|refine ae ?_|refine a5 ?_|refine a6 ?_|refine a7 a4 rfl rfl ?_|refine bB rfl ?_)
  exact am rfl rfl ⟨rfl, q, rfl⟩
 ·have hg := xt hM hp hm
  have hpu := zk hM hp hm
  have ht := eE hm
  have hn := kC hm
  rw [hg]
  repeat' (first|refine a8 ?_|refine a0 ?_|refine a5 ?_|refine a6 ?_|refine a7 a4 rfl rfl ?_|(apply bD; first|refine ai a4 0 rfl rfl rfl rfl rfl ?_|refine ai a4 1 rfl rfl rfl rfl rfl ?_|refine ai a4 2 rfl rfl rfl rfl rfl ?_|refine ai a4 3 rfl rfl rfl rfl rfl ?_|refine ax a4 0 rfl rfl rfl rfl rfl ?_|refine ax a4 1 rfl rfl rfl rfl rfl ?_|refine ax a4 2 rfl rfl rfl rfl rfl ?_|refine ai a4 1 rfl rfl rfl (by assumption) rfl ?_|refine ai a4 0 rfl rfl rfl (by assumption) rfl ?_|fail)|refine br rfl ?_)
  refine d5 1 (pR (M ++ [p])) Tryz.underlying129 Tryz.underlying9 rfl rfl trivial (by rw [hml]; rfl) rfl hpu vb ?_
  repeat' (first|refine a0 ?_|refine a5 ?_|refine a6 ?_|refine a7 a4 rfl rfl ?_|(apply bD; first|refine ai a4 0 rfl rfl rfl rfl rfl ?_|refine ai a4 1 rfl rfl rfl rfl rfl ?_|refine ai a4 2 rfl rfl rfl rfl rfl ?_|refine ai a4 3 rfl rfl rfl rfl rfl ?_|refine ax a4 0 rfl rfl rfl rfl rfl ?_|refine ax a4 1 rfl rfl rfl rfl rfl ?_|refine ax a4 2 rfl rfl rfl rfl rfl ?_|refine ai a4 1 rfl rfl rfl (by assumption) rfl ?_|refine ai a4 0 rfl rfl rfl (by assumption) rfl ?_|fail)|refine c6 a4 ?_|fail)
  refine c5 a4 [(nb, .box [.sc (.map (some kb))] 129), (kb, cg .string (pR (M ++ [p]))), (mb, .box [.vec q 2 (M.map jt)] 259)] rfl rfl rfl rfl ?_ (by rw [hml]; simp; omega) (by rw [hml]; simp; omega) rfl fun q' => ?_
  ·rw [hml]
   exact List.perm_append_comm (l₁ := [_, _, _])
  have hsn : M.map jt ++ [jt p] = (M ++ [p]).map jt := by rw [List.map_append]; rfl
  refine aP (aV (L' := (nb, .box [.sc (.map (some kb))] 129) :: (kb, cg .string (pR (M ++ [p]))) :: (mb, .box [.vec q 2 (M.map jt)] 259) :: tok q' 261 2 (M.map jt ++ [jt p]).length) (List.perm_append_comm (l₂ := [_, _, _]))) ?_
  repeat' (first|refine a8 ?_|refine a0 ?_|refine ae ?_|refine a5 ?_|refine a6 ?_|refine a7 a4 rfl rfl ?_|(apply aO; first|refine aa a4 0 rfl rfl rfl rfl rfl rfl rfl ?_|refine aa a4 1 rfl rfl rfl rfl rfl rfl rfl ?_|refine aa a4 2 rfl rfl rfl rfl rfl rfl rfl ?_|refine aa a4 3 rfl rfl rfl rfl rfl rfl rfl ?_|fail))
  refine am rfl rfl ⟨?_, q', ?_⟩
  ·rw [hml, hn]
  ·rw [ht, hsn, Du]
   unfold po
   rw [← hsn]
   rfl
theorem u5 (r : aU) : bk Tryz.prog 185 [.agg (bH r)] (.tup [.imm 1 (b7 r.Back), dB true]) := by
 refine aB Tryz.func185 rfl Tryz.ntmps185 rfl fun B => ?_
 repeat' (first|refine a8 ?_|refine a0 ?_|refine ae ?_|refine a5 ?_|refine a6 ?_|refine a7 a4 rfl rfl ?_|refine aY ?_|fail)
 exact aJ rfl rfl rfl rfl
set_option maxHeartbeats 4000000 in
theorem uu (r : aU) (h1 : r.In.length ≤ 1000000) (h2 : r.Ahead.length ≤ 1000000) : bk Tryz.prog 184 [.agg (bH r)] (.tup [.imm 1 (b7 (cM r)), dB (!r.In.isEmpty)]) := by
 refine aB Tryz.func184 rfl Tryz.ntmps184 rfl fun B => ?_
 have hil := bQ r.In
 have hal := bQ r.Ahead
 repeat' (first|refine a8 ?_|refine a0 ?_|refine a5 ?_|refine a6 ?_|refine a7 a4 rfl rfl ?_|refine aY ?_|fail)
 refine aq rfl (fun h => ?_) (fun h => ?_)
 ·have hz : r.In = [] := List.eq_nil_of_length_eq_zero (by have := Dz h; omega)
  unfold cM
  rw [hz]
  clear h
  repeat' (first|refine a8 ?_|refine a0 ?_|refine ae ?_|refine a5 ?_|refine an ?_|refine a6 ?_|refine a7 a4 rfl rfl ?_)
  refine bA (bR (t := 2) (c' := .imm 1 []) rfl fun σ v h => j9 1 h) ?_
  exact aJ rfl rfl rfl rfl
 ·have hz : r.In ≠ [] := fun e => by have := Dy h; rw [hil, e] at this; simp at this
  have he : r.In.isEmpty = false := by cases hr : r.In; exact absurd hr hz; rfl
  unfold cM
  rw [he]
  clear h
  repeat' (first|refine a8 ?_|refine a0 ?_|refine ah ?_|refine a5 ?_|refine a7 a4 rfl rfl ?_|(apply aT; refine aS ?_)|fail)
  refine yU a4 (r.In.length + r.Ahead.length) rfl rfl rfl rfl rfl (by rw [hil, hal, Dv]) (by omega) (by omega) rfl fun b => ?_
  repeat' (first|refine a8 ?_|refine a0 ?_|refine a5 ?_|refine a6 ?_|refine a7 a4 rfl rfl ?_)
  refine c5 a4 [] rfl rfl rfl rfl (by rw [List.append_nil]; exact Do _) (by simp; omega) (by simp; omega) rfl fun q1 => ?_
  repeat' (first|refine a8 ?_|refine a0 ?_|refine a5 ?_|refine a6 ?_|refine a7 a4 rfl rfl ?_)
  refine c5 a4 [] rfl rfl rfl rfl (Do _) (by simp; omega) (by simp; omega) rfl fun q2 => ?_
  repeat' (first|refine ae ?_|refine a5 ?_|refine a6 ?_|refine a7 a4 rfl rfl ?_)
  have hra : b7 (r.In ++ r.Ahead) = [] ++ b7 r.In ++ b7 r.Ahead := by simp [b7]
  refine bA (bR (t := 2) (c' := .imm 1 (b7 (r.In ++ r.Ahead))) rfl fun σ v h => by rw [hra]; exact VR.im h) ?_
  refine dK (List.nil_sublist _) ?_
  exact aJ rfl rfl rfl rfl
end Go.Proofs.YtpmdfoaadejmkaaGreatDoor
namespace Go.Proofs.YtpmdfoaadejmkaaGreatDoor
open Go.RowKit
attribute [local irreducible] AT bh AX AO Av Kt b6 dh DA cE
abbrev rM (rs : List aU) (cls : List Int) : List AV := [.imm 6 (rs.map bH), .imm 1 (aR cls)]
def gP (w : aU → List (List Int) × Bool) (rs : List aU) (n : Nat) : Bool := match rs[n]? with
 | some r => (w r).2
 | none => false
def nn (w : aU → List (List Int) × Bool) (rs : List aU) (cls : List Int) : RD := ⟨rs.map fun r => (w r).1, bF (gP w rs) rs.length, cls, (eN cls).toNat⟩
theorem sA (l : List (List (List Int))) (r : List (List Int)) : gw l ++ [[.imm 1 (b7 r)]] = gw (l ++ [r]) := by simp [gw]
theorem sl {l : List Int} {k : Nat} {z : Int} (h : l[k]? = some z) : eN (l.take (k + 1)) = max (eN (l.take k)) (z + 1) := by
 unfold eN
 rw [List.take_add_one, h]
 simp
set_option maxHeartbeats 8000000 in
theorem mO (w : aU → List (List Int) × Bool) (u : AV) (rs : List aU) (hrs : rs.length ≤ 6) (hw : ∀ r ∈ rs, gC Tryz.prog u [.agg (bH r)] [] fun c _ => c = .tup [.imm 1 (b7 (w r).1), dB (w r).2]) (cls : List Int) (hcl : ∀ z ∈ cls, 0 ≤ z ∧ z ≤ 1000000) (hcl2 : cls.length ≤ 1000000) : AC Tryz.prog 183 [.agg (rM rs cls), u] [] fun c L => ∃ rb, c = ep rb ∧ L = dA (nn w rs cls) rb 0 none := by
 refine aB Tryz.func183 rfl Tryz.ntmps183 rfl fun B => ?_
 have hrl : (rs.map bH).length = rs.length := Du ..
 have hil := aX cls
 repeat' (first|refine a8 ?_|refine a0 ?_|refine aj ?_|refine a5 ?_|refine a6 ?_|refine a7 a4 rfl rfl ?_|refine wS (d := 15) fun _=>?_|refine aY ?_|fail)
 rename_i rb
 refine cZ (ec 0 (cs' := [.vec none 1 [], gg 0, .imm 1 (aR cls), az 0, .vec none 2 []]) rfl fun σ vs h => o0.vrs (a := [.sc (.slice none 0 0), gg 0, .imm 1 (aR cls), az 0, .sc (.slice none 0 0)]) (b := [.vec none 1 [], gg 0, .imm 1 (aR cls), az 0, .vec none 2 []]) ⟨fun σ v h => eG 1 h, dx.refl _, dx.refl _, dx.refl _, fun σ v h => eG 2 h, trivial⟩ h) ?_
 refine aK [1, 2, 5, 17, 18] (α := Nat × Option (Nat × Nat)) (fun s => [(19, az s.1)]) (fun s => s.1 ≤ rs.length) (fun s => (rb, .box [.vec s.2 1 (gw ((rs.take s.1).map fun r => (w r).1)), gg (bF (gP w rs) s.1), .imm 1 (aR cls), az 0, .vec none 2 []] 268) :: tok s.2 45 1 s.1) (fun s => rs.length - s.1) (0, none) rfl ⟨rfl, trivial⟩ (Nat.zero_le _) (fun _ _ h => h) ?_
 ·rintro ⟨n, q⟩ hn
  dsimp only at hn ⊢
  try dsimp only [Ds, Dr, Dq, Dn]
  repeat' (first|refine a8 ?_|refine a0 ?_|refine a5 ?_|refine a6 ?_|refine a7 a4 rfl rfl ?_)
  refine aq rfl (fun h1 => ?_) (fun h1 => ?_)
  ·have hn2 : n < rs.length := by have := Dz h1; omega
   obtain ⟨r, hr⟩ : ∃ z, rs[n]? = some z := ⟨_, Bg hn2⟩
   have hrg : (rs.map bH)[n]? = some (bH r) := by simp [hr]
   have hwr := hw r (Dw hr)
   have htk : ((rs.take (n + 1)).map fun r => (w r).1) = ((rs.take n).map fun r => (w r).1) ++ [(w r).1] := by rw [List.take_add_one, hr]; simp
   have hbit : bF (gP w rs) (n + 1) = bF (gP w rs) n ||| (if (w r).2 = true then 2 ^ n else 0) := by
    rw [bF]
    unfold gP
    rw [hr]
   have hml : (gw ((rs.take n).map fun r => (w r).1)).length = n := by rw [oJ, Du, List.length_take]; omega
   have hsn := sA ((rs.take n).map fun r => (w r).1) (w r).1
   rw [← htk] at hsn
   have hb1 := kT (p := gP w rs) (n := n) (by omega)
   have hb2 := zG (n := n) (by omega)
   have hub := tP n (by omega)
   generalize gw ((rs.take n).map fun r => (w r).1) = l3 at *
   clear h1
   repeat' (first|refine a8 ?_|refine a0 ?_|refine aj ?_|refine ah ?_|refine a5 ?_|refine a6 ?_|refine a7 a4 rfl rfl ?_|(apply aE; first|refine aD a4 ?_|refine aA a4 ?_)|(apply aO; first|refine a9 7 a4 0 rfl rfl rfl rfl rfl rfl rfl rfl ?_|refine a9 7 a4 1 rfl rfl rfl rfl rfl rfl rfl rfl ?_|refine a9 7 a4 2 rfl rfl rfl rfl rfl rfl rfl rfl ?_|refine aa a4 0 rfl rfl rfl rfl rfl rfl rfl ?_|refine aa a4 1 rfl rfl rfl rfl rfl rfl rfl ?_|refine aa a4 2 rfl rfl rfl rfl rfl rfl rfl ?_|refine aa a4 3 rfl rfl rfl rfl rfl rfl rfl ?_|fail)|refine aZ a4 fun _=>?_|fail)
   refine fW [] ((rb, .box [.vec q 1 l3, gg (bF (gP w rs) n), .imm 1 (aR cls), az 0, .vec none 2 []] 268) :: tok q 45 1 n) hwr rfl rfl (Do _) rfl rfl fun c L1 hc => ?_
   subst hc
   refine aP (bT (List.sublist_append_right ..)) ?_
   repeat' (first|refine a8 ?_|refine a0 ?_|refine a5 ?_|refine a6 ?_|refine a7 a4 rfl rfl ?_|(apply bD; first|refine ai a4 0 rfl rfl rfl rfl rfl ?_|refine ai a4 1 rfl rfl rfl rfl rfl ?_|refine ai a4 2 rfl rfl rfl rfl rfl ?_|refine ai a4 3 rfl rfl rfl rfl rfl ?_|refine ax a4 0 rfl rfl rfl rfl rfl ?_|refine ax a4 1 rfl rfl rfl rfl rfl ?_|refine ax a4 2 rfl rfl rfl rfl rfl ?_|refine ai a4 1 rfl rfl rfl (by assumption) rfl ?_|refine ai a4 0 rfl rfl rfl (by assumption) rfl ?_|fail)|refine c6 a4 ?_|fail)
   refine c5 a4 [(rb, .box [.vec q 1 l3, gg (bF (gP w rs) n), .imm 1 (aR cls), az 0, .vec none 2 []] 268)] rfl rfl rfl rfl (by rw [hml]; exact List.perm_append_comm (l₁ := [_])) (by rw [hml]; simp; omega) (by rw [hml]; simp; omega) rfl fun q' => ?_
   refine aP (aV (L' := (rb, .box [.vec q 1 l3, gg (bF (gP w rs) n), .imm 1 (aR cls), az 0, .vec none 2 []] 268) :: tok q' 45 1 (n + 1)) (by rw [List.length_append, hml]; exact List.perm_append_comm (l₂ := [_]))) ?_
   repeat' (first|refine a8 ?_|refine a0 ?_|refine a5 ?_|refine a6 ?_|refine a7 a4 rfl rfl ?_|(apply aO; first|refine a9 7 a4 0 rfl rfl rfl rfl rfl rfl rfl rfl ?_|refine a9 7 a4 1 rfl rfl rfl rfl rfl rfl rfl rfl ?_|refine a9 7 a4 2 rfl rfl rfl rfl rfl rfl rfl rfl ?_|refine aa a4 0 rfl rfl rfl rfl rfl rfl rfl ?_|refine aa a4 1 rfl rfl rfl rfl rfl rfl rfl ?_|refine aa a4 2 rfl rfl rfl rfl rfl rfl rfl ?_|refine aa a4 3 rfl rfl rfl rfl rfl rfl rfl ?_|fail))
   refine aq rfl (fun h1 => ?_) (fun h1 => ?_)
   ·rw [if_pos h1] at hbit
    repeat' (first|fail)
    refine bj 6 [(0, .v), (1, .v), (2, .v), (3, .l), (4, .v), (5, .v)] none ?_ trivial rfl (by kernel_rfl) (by kernel_rfl) (by kernel_rfl) ce (by kernel_rfl) rfl
    repeat' (first|refine aC ?_|refine bf a4 ?_|refine bX a4 0 rfl rfl rfl rfl (by first|trivial|rfl) ?_)
    refine rU n rfl rfl rfl trivial ?_
    repeat' (first|fail)
    refine bv [1, 2, 5, 17, 18, 19, 41, 44, 46] rfl rfl ?_
    refine pq rfl rfl rfl ?_
    rw [hub, u64_or_nat _ _ hb1 hb2, ← hbit]
    repeat' (first|refine a0 ?_|refine a5 ?_|refine aG ?_|refine a6 ?_|refine a7 a4 rfl rfl ?_|(apply aT; refine aS ?_)|(apply aO; first|refine a9 7 a4 0 rfl rfl rfl rfl rfl rfl rfl rfl ?_|refine a9 7 a4 1 rfl rfl rfl rfl rfl rfl rfl rfl ?_|refine a9 7 a4 2 rfl rfl rfl rfl rfl rfl rfl rfl ?_|refine aa a4 0 rfl rfl rfl rfl rfl rfl rfl ?_|refine aa a4 1 rfl rfl rfl rfl rfl rfl rfl ?_|refine aa a4 2 rfl rfl rfl rfl rfl rfl rfl ?_|refine aa a4 3 rfl rfl rfl rfl rfl rfl rfl ?_|fail))
    exact ay (n + 1, q') rfl ⟨by rw [Dv]; rfl, trivial⟩ hn2 (by dsimp only; omega) (fun _ _ h => by dsimp only; rw [← hsn]; exact h)
   ·rw [if_neg (by rw [h1]; decide), Nat.or_zero] at hbit
    repeat' (first|refine a0 ?_|refine ah ?_|refine a5 ?_|refine aG ?_|refine a6 ?_|refine a7 a4 rfl rfl ?_|(apply aT; refine aS ?_)|fail)
    exact ay (n + 1, q') rfl ⟨by rw [Dv]; rfl, trivial⟩ hn2 (by dsimp only; omega) (fun _ _ h => by dsimp only; rw [← hsn, hbit]; exact h)
  ·have hn2 : n = rs.length := by have := Dy h1; omega
   subst hn2
   rw [List.take_length]
   clear h1
   repeat' (first|refine a8 ?_|refine a0 ?_|refine aj ?_|refine aM ?_|refine a5 ?_|refine ar ?_|refine aw ?_|refine au ?_|refine a6 ?_|refine a7 a4 rfl rfl ?_)
   refine aK [5, 52, 53] (α := Nat) (fun k => [(54, az k)]) (fun k => k ≤ cls.length) (fun k => (rb, .box [.vec q 1 (gw (rs.map fun r => (w r).1)), gg (bF (gP w rs) rs.length), .imm 1 (aR cls), az (eN (cls.take k)), .vec none 2 []] 268) :: tok q 45 1 rs.length) (fun k => cls.length - k) 0 rfl ⟨rfl, trivial⟩ (Nat.zero_le _) (fun _ _ h => h) fun k hk => ?_
   try dsimp only [Ds, Dr, Dq, Dn]
   repeat' (first|refine a8 ?_|refine a0 ?_|refine a5 ?_|refine a6 ?_|refine a7 a4 rfl rfl ?_)
   refine aq rfl (fun h1 => ?_) (fun h1 => ?_)
   ·have hk2 : k < cls.length := by have := Dz h1; omega
    obtain ⟨z, hz⟩ : ∃ z, cls[k]? = some z := ⟨_, Bg hk2⟩
    have hzg := bI hz
    have hzb := hcl z (Dw hz)
    have hmc := sl hz
    clear h1
    repeat' (first|refine a8 ?_|refine a0 ?_|refine aj ?_|refine ah ?_|refine a5 ?_|refine aG ?_|refine a6 ?_|refine a7 a4 rfl rfl ?_|(apply bD; first|refine ai a4 0 rfl rfl rfl rfl rfl ?_|refine ai a4 1 rfl rfl rfl rfl rfl ?_|refine ai a4 2 rfl rfl rfl rfl rfl ?_|refine ai a4 3 rfl rfl rfl rfl rfl ?_|refine ax a4 0 rfl rfl rfl rfl rfl ?_|refine ax a4 1 rfl rfl rfl rfl rfl ?_|refine ax a4 2 rfl rfl rfl rfl rfl ?_|refine ai a4 1 rfl rfl rfl (by assumption) rfl ?_|refine ai a4 0 rfl rfl rfl (by assumption) rfl ?_|fail)|(apply aT; refine aS ?_)|(apply aE; first|refine aD a4 ?_|refine aA a4 ?_)|(apply aO; first|refine a9 7 a4 0 rfl rfl rfl rfl rfl rfl rfl rfl ?_|refine a9 7 a4 1 rfl rfl rfl rfl rfl rfl rfl rfl ?_|refine a9 7 a4 2 rfl rfl rfl rfl rfl rfl rfl rfl ?_|refine aa a4 0 rfl rfl rfl rfl rfl rfl rfl ?_|refine aa a4 1 rfl rfl rfl rfl rfl rfl rfl ?_|refine aa a4 2 rfl rfl rfl rfl rfl rfl rfl ?_|refine aa a4 3 rfl rfl rfl rfl rfl rfl rfl ?_|fail))
    exact ay (k + 1) rfl ⟨by rw [Dv]; rfl, trivial⟩ hk2 (by omega) (fun _ _ h => by rw [hmc]; exact h)
   ·have hk2 : k = cls.length := by have := Dy h1; omega
    subst hk2
    rw [List.take_length]
    clear h1
    repeat' (first|refine a8 ?_|refine a0 ?_|refine ae ?_|refine aM ?_|refine a5 ?_|refine ar ?_|refine aw ?_|refine au ?_|refine a6 ?_|refine a7 a4 rfl rfl ?_)
    have hC : (eN cls) = (((eN cls).toNat : Nat) : Int) := by have := (n8 (l := cls) (m := 0)).1; unfold eN; omega
    refine bA (ec 0 (cs' := y9 (nn w rs cls) (.vec none 2 (uD (nn w rs cls) 0))) rfl fun σ vs h => o0.vrs (a := [.vec q 1 (gw (rs.map fun r => (w r).1)), gg (bF (gP w rs) rs.length), .imm 1 (aR cls), az (eN cls), .vec none 2 []]) (b := y9 (nn w rs cls) (.vec none 2 (uD (nn w rs cls) 0))) ⟨fun σ v h => VR.im h, dx.refl _, dx.refl _, by unfold nn; dsimp only; rw [← hC]; exact dx.refl _, dx.refl _, trivial⟩ h) ?_
    refine dK (L' := dA (nn w rs cls) rb 0 none) (List.sublist_append_left [_] _) ?_
    exact am rfl rfl ⟨rb, rfl, rfl⟩
def lO (r : aU) : List (List Int) × Bool := (cM r, !r.In.isEmpty)
def mH (r : aU) : List (List Int) × Bool := (r.Back, true)
structure vq (rs : List aU) (cls : List Int) : Prop where
 few : rs.length ≤ 6
 dom : ∀ z ∈ cls, 0 ≤ z ∧ z ≤ 1000000
 len : cls.length ≤ 1000000
 rows : ∀ r ∈ rs, r.In.length ≤ 1000000 ∧ r.Ahead.length ≤ 1000000
theorem wu {rs : List aU} {cls : List Int} (h : vq rs cls) : AC Tryz.prog 100 [.agg (rM rs cls)] [] fun c L => ∃ rb, c = ep rb ∧ L = dA (nn lO rs cls) rb 0 none := by
 refine aB Tryz.func100 rfl Tryz.ntmps100 rfl fun B => ?_
 have hc := mO lO (.sc (.func (.func 184) #[] #[])) rs h.few (fun r hr => gC.fn0 (f := 184) (by rw [List.append_nil]; exact uu r (h.rows r hr).1 (h.rows r hr).2)) cls h.dom h.len
 repeat' (first|refine a8 ?_|refine a0 ?_|refine a5 ?_|refine a6 ?_|refine a7 a4 rfl rfl ?_|refine aY ?_|fail)
 refine aL [] [] hc rfl rfl (Do _) rfl fun c L1 ⟨rb, hc1, hL⟩ => ?_
 subst hc1; subst hL
 repeat' (first|refine ae ?_|refine a5 ?_|refine a6 ?_|refine a7 a4 rfl rfl ?_)
 exact am rfl rfl ⟨rb, rfl, by rw [List.append_nil]⟩
theorem vU {rs : List aU} {cls : List Int} (h : vq rs cls) : AC Tryz.prog 101 [.agg (rM rs cls)] [] fun c L => ∃ rb, c = ep rb ∧ L = dA (nn mH rs cls) rb 0 none := by
 refine aB Tryz.func101 rfl Tryz.ntmps101 rfl fun B => ?_
 have hc := mO mH (.sc (.func (.func 185) #[] #[])) rs h.few (fun r _ => gC.fn0 (f := 185) (by rw [List.append_nil]; exact u5 r)) cls h.dom h.len
 repeat' (first|refine a8 ?_|refine a0 ?_|refine a5 ?_|refine a6 ?_|refine a7 a4 rfl rfl ?_|refine aY ?_|fail)
 refine aL [] [] hc rfl rfl (Do _) rfl fun c L1 ⟨rb, hc1, hL⟩ => ?_
 subst hc1; subst hL
 repeat' (first|refine ae ?_|refine a5 ?_|refine a6 ?_|refine a7 a4 rfl rfl ?_)
 exact am rfl rfl ⟨rb, rfl, by rw [List.append_nil]⟩
structure SS where
 M : List Pl
 q : Option (Nat × Nat)
 k : Nat
 qr : Option (Nat × Nat)
abbrev lb (R : RD) (nb kb mb rb : Nat) (s : SS) (X : AL) : AL := (nb, .box [.sc (.map (some kb))] 129) :: (kb, cg .string (pR s.M)) :: (mb, .box [.vec s.q 2 (s.M.map jt)] 259) :: nq R rb s.k s.qr :: (tok s.q 261 2 s.M.length ++ (tok s.qr 330 2 s.k ++ X))
theorem pc {R : RD} {nb kb mb rb : Nat} {s : SS} {X : AL} : (lb R nb kb mb rb s X).Perm (po nb kb mb s.M s.q ++ (nq R rb s.k s.qr :: (tok s.qr 330 2 s.k ++ X))) := by
 unfold po
 refine List.Perm.cons _ (List.Perm.cons _ (List.Perm.cons _ ?_))
 exact (List.perm_middle (l₁ := tok s.q 261 2 s.M.length)).symm
theorem k9 {R : RD} {nb kb mb rb : Nat} {s : SS} {X : AL} : (lb R nb kb mb rb s X).Perm (dA R rb s.k s.qr ++ ((nb, .box [.sc (.map (some kb))] 129) :: (kb, cg .string (pR s.M)) :: (mb, .box [.vec s.q 2 (s.M.map jt)] 259) :: (tok s.q 261 2 s.M.length ++ X))) := by
 have h1 : (lb R nb kb mb rb s X).Perm (nq R rb s.k s.qr :: ([(nb, .box [.sc (.map (some kb))] 129), (kb, cg .string (pR s.M)), (mb, .box [.vec s.q 2 (s.M.map jt)] 259)] ++ (tok s.q 261 2 s.M.length ++ (tok s.qr 330 2 s.k ++ X)))) := List.perm_middle (l₁ := [_, _, _])
 refine h1.trans (List.Perm.cons _ ?_)
 rw [← List.append_assoc]
 refine (List.perm_append_comm_assoc _ (tok s.qr 330 2 s.k) X).trans ?_
 rw [List.append_assoc]
 exact Do _
theorem qI {R : RD} {nb kb mb rb : Nat} {s : SS} {X : AL} {a : Nat × AB} : (a :: lb R nb kb mb rb s X).Perm (po nb kb mb s.M s.q ++ (a :: nq R rb s.k s.qr :: (tok s.qr 330 2 s.k ++ X))) := (List.Perm.cons a pc).trans List.perm_middle.symm
theorem qJ {R : RD} {nb kb mb rb : Nat} {s : SS} {X : AL} {a : Nat × AB} : (a :: lb R nb kb mb rb s X).Perm (dA R rb s.k s.qr ++ (a :: (nb, .box [.sc (.map (some kb))] 129) :: (kb, cg .string (pR s.M)) :: (mb, .box [.vec s.q 2 (s.M.map jt)] 259) :: (tok s.q 261 2 s.M.length ++ X))) := (List.Perm.cons a k9).trans List.perm_middle.symm
theorem CB {a b c : Nat × AB} {X : AL} : (a :: b :: c :: X).Perm (b :: c :: a :: X) := (List.Perm.swap b a _).trans (.cons b (List.Perm.swap c a _))
theorem CE {A T1 T2 T R : AL} : (A ++ (T1 ++ (T2 ++ (T ++ R)))).Perm (T ++ (A ++ (T1 ++ (T2 ++ R)))) := by
 rw [← List.append_assoc T1, ← List.append_assoc A, ← List.append_assoc T1 T2 R, ← List.append_assoc A (T1 ++ T2) R]
 exact List.perm_append_comm_assoc ..
theorem CF {A T1 T2 T3 T4 : AL} : (A ++ (T1 ++ (T2 ++ (T3 ++ T4)))).Perm (T4 ++ (A ++ (T1 ++ (T2 ++ T3)))) := by
 rw [← List.append_assoc T2, ← List.append_assoc T1, ← List.append_assoc A]
 exact List.perm_append_comm
abbrev BP (R : RD) (nb kb mb rb : Nat) (s : SS) : AL := [(nb, .box [.sc (.map (some kb))] 129), (kb, cg .string (pR s.M)), (mb, .box [.vec s.q 2 (s.M.map jt)] 259), nq R rb s.k s.qr]
theorem tk {R : RD} {nb kb mb rb : Nat} {s : SS} {T X : AL} : (lb R nb kb mb rb s (T ++ X)).Perm (T ++ lb R nb kb mb rb s X) := CE (A := BP R nb kb mb rb s)
theorem tj {R : RD} {nb kb mb rb : Nat} {s : SS} {T X : AL} : (lb R nb kb mb rb s (T ++ X)).Perm (X ++ lb R nb kb mb rb s T) := CF (A := BP R nb kb mb rb s)
structure CO where
 s : SS
 tab : List (List Int)
 qt : Option (Nat × Nat)
 ends : List Nat
 qe : Option (Nat × Nat)
abbrev Db (t : CO) : AL := tok t.qt 22 1 t.tab.length ++ tok t.qe 246 1 t.ends.length
theorem lU {M : List Pl} {n : Nat} {p : Pl} (h : M[n]? = some p) : (M.map jt)[n]? = some (jt p) := by simp [h]
structure vr (R : RD) (hv : Nat → Bool) (Lb : Nat) : Prop where
 ok : vn R
 has : R.have_ = bF hv R.rows.length
 long : ∀ r ∈ R.rows, r.length ≤ Lb
 few : Lb ≤ 200
theorem vr.small {R : RD} {hv : Nat → Bool} {Lb : Nat} (h : vr R hv Lb) {M : List Pl} (hs : ge R.rows hv Lb M) : (∀ x ∈ M, ij x) ∧ M.length ≤ 20000 := by
 have hf := h.few
 have hr := h.ok.few
 have h64 : 2 ^ R.rows.length ≤ 64 := Nat.pow_le_pow_right (n := 2) (by omega) hr
 constructor
 ·intro x hx
  obtain ⟨h1, h2⟩ := hs.small x hx
  exact ⟨by omega, by omega⟩
 ·have := hs.few
  have h3 : (Lb + 1) * 2 ^ R.rows.length ≤ 201 * 64 := Nat.mul_le_mul (by omega) h64
  omega
set_option maxHeartbeats 16000000 in
theorem oN (R : RD) (hv : Nat → Bool) (Lb : Nat) (h : vr R hv Lb) (u : AV) (hu : gC Tryz.prog u [] [] fun c L => ∃ rb, c = ep rb ∧ L = dA R rb 0 none) : AC Tryz.prog 99 [u] [] fun c _ => ∃ tab ends, nZ R.cls R.rows hv R.C tab ends ∧ c = .tup [.imm 1 (b7 tab), .imm 1 (eK ends), dB true] := by
 refine aB Tryz.func99 rfl Tryz.ntmps99 rfl fun B => ?_
 repeat' (first|refine a8 ?_|refine a0 ?_|refine a5 ?_|refine a6 ?_|refine a7 a4 rfl rfl ?_)
 refine fW [] [] hu rfl rfl (Do _) rfl rfl fun c L1 ⟨rb, hc, hL⟩ => ?_
 subst hc; subst hL
 repeat' (first|refine a8 ?_|refine a0 ?_|refine a5 ?_|refine a6 ?_|refine a7 a4 rfl rfl ?_)
 refine ei .string fun kb => ?_
 repeat' (first|refine a8 ?_|refine a0 ?_|refine a5 ?_|refine a6 ?_|refine a7 a4 rfl rfl ?_|(apply aO; first|refine a9 12 a4 0 rfl rfl rfl rfl rfl rfl rfl rfl ?_|refine a9 12 a4 1 rfl rfl rfl rfl rfl rfl rfl rfl ?_|refine a9 12 a4 2 rfl rfl rfl rfl rfl rfl rfl rfl ?_|refine aa a4 0 rfl rfl rfl rfl rfl rfl rfl ?_|refine aa a4 1 rfl rfl rfl rfl rfl rfl rfl ?_|refine aa a4 2 rfl rfl rfl rfl rfl rfl rfl ?_|refine aa a4 3 rfl rfl rfl rfl rfl rfl rfl ?_|fail)|refine aZ a4 fun _=>?_|fail)
 rename_i nb mb
 have hok := h.ok
 obtain ⟨hCm, hNm⟩ := hok.many
 refine aP (ec 0 (cs' := [.vec none 2 []]) rfl fun σ vs hh => o0.vrs (a := [.sc (.slice none 0 0)]) (b := [.vec none 2 []]) ⟨fun σ v h => eG 2 h, trivial⟩ hh) ?_
 refine aP (aV (L' := lb R nb kb mb rb ⟨[], none, 0, none⟩ []) (by unfold lb; rw [zj]; exact CB)) ?_
 refine aL (dA R rb 0 none) _ (uT R rb 0 none (by omega)) rfl rfl k9 rfl fun c L1 ⟨hc, k0, qr0, hk0, hL⟩ => ?_
 subst hc; subst hL
 refine aP (aV (L' := lb R nb kb mb rb ⟨[], none, k0, qr0⟩ []) (k9 (s := ⟨[], none, k0, qr0⟩)).symm) ?_
 have hst0 : ge R.rows hv Lb [((0, R.have_) : Pl)] := by
  have := ge.start (rows := R.rows) (have_ := hv) (L := Lb)
  unfold jx at this
  rwa [← h.has] at this
 have hsm0 := (h.small hst0).1 (0, R.have_) (by simp)
 have hme0 := tu nb kb mb [] (fun x hx => by cases hx) (by simp) none (0, R.have_) hsm0
 repeat' (first|fail)
 refine fW (po nb kb mb [] none) _ (gC.fn (f := 178) (caps := [ep nb, ep mb]) hme0) rfl rfl pc rfl rfl fun c L1 ⟨hc, q0, hL⟩ => ?_
 subst hc; subst hL
 refine aP (aV (L' := lb R nb kb mb rb ⟨[(0, R.have_)], q0, k0, qr0⟩ []) (pc (s := ⟨[(0, R.have_)], q0, k0, qr0⟩)).symm) ?_
 repeat' (first|refine a8 ?_|refine a0 ?_|refine aj ?_|refine a5 ?_|refine a6 ?_|refine a7 a4 rfl rfl ?_)
 refine cZ (bR (t := 2) (c' := .vec none 1 (b7 [])) rfl fun σ v h => eG 1 h) ?_
 refine cZ (bR (t := 3) (c' := .vec none 1 (eK [])) rfl fun σ v h => eG 1 h) ?_
 refine aK [5, 7, 8] (α := CO) (fun t => [(9, az t.tab.length), (2, .vec t.qt 1 (b7 t.tab)), (3, .vec t.qe 1 (eK t.ends))]) (fun t => ge R.rows hv Lb t.s.M ∧ eP R.cls R.rows R.C t.s.M t.tab t.ends ∧ t.tab.length ≤ t.s.M.length ∧ t.s.k ≤ 1000001) (fun t => lb R nb kb mb rb t.s (Db t)) (fun t => 20000 - t.tab.length) ⟨⟨[(0, R.have_)], q0, k0, qr0⟩, [], none, [], none⟩ rfl ⟨rfl, rfl, rfl, trivial⟩ ⟨hst0, eP.nil, Nat.zero_le _, hk0⟩ (fun _ _ hh => hh) ?_
 rintro ⟨⟨M, q, k, qr⟩, tab, qt, ends, qe⟩ ⟨hst, htb, htl, hk⟩
 dsimp only at hst htb htl hk ⊢
 try dsimp only [Ds, Dr, Dq, Dn]
 have hml : (M.map jt).length = M.length := Du ..
 obtain ⟨hsm, hM2⟩ := h.small hst
 repeat' (first|refine a8 ?_|refine a0 ?_|refine a5 ?_|refine a6 ?_|refine a7 a4 rfl rfl ?_|(apply bD; first|refine ai a4 0 rfl rfl rfl rfl rfl ?_|refine ai a4 1 rfl rfl rfl rfl rfl ?_|refine ai a4 2 rfl rfl rfl rfl rfl ?_|refine ai a4 3 rfl rfl rfl rfl rfl ?_|refine ax a4 0 rfl rfl rfl rfl rfl ?_|refine ax a4 1 rfl rfl rfl rfl rfl ?_|refine ax a4 2 rfl rfl rfl rfl rfl ?_|refine ai a4 1 rfl rfl rfl (by assumption) rfl ?_|refine ai a4 0 rfl rfl rfl (by assumption) rfl ?_|fail)|fail)
 refine aq rfl (fun h1 => ?_) (fun h1 => ?_)
 ·have hn2 : tab.length < M.length := by have h1' : (tab.length : Int) < ((M.map jt).length : Int) := Dz h1; omega
  obtain ⟨p, hp⟩ : ∃ p, M[tab.length]? = some p := ⟨_, Bg hn2⟩
  clear h1
  repeat' (first|refine a8 ?_|refine a0 ?_|refine aj ?_|refine ah ?_|refine a5 ?_|refine a7 a4 rfl rfl ?_|(apply bD; first|refine ai a4 0 rfl rfl rfl rfl rfl ?_|refine ai a4 1 rfl rfl rfl rfl rfl ?_|refine ai a4 2 rfl rfl rfl rfl rfl ?_|refine ai a4 3 rfl rfl rfl rfl rfl ?_|refine ax a4 0 rfl rfl rfl rfl rfl ?_|refine ax a4 1 rfl rfl rfl rfl rfl ?_|refine ax a4 2 rfl rfl rfl rfl rfl ?_|refine ai a4 1 rfl rfl rfl (by assumption) rfl ?_|refine ai a4 0 rfl rfl rfl (by assumption) rfl ?_|fail)|fail)
  refine iE a4 R.C rfl rfl rfl rfl rfl rfl rfl (by omega) (by omega) rfl fun rwb => ?_
  rw [show (List.replicate R.C (List.map AV.sc [Value.int .i64 0])).flatten = cI (List.replicate R.C 0) from lH R.C]
  repeat' (first|refine a8 ?_|refine a0 ?_|refine aj ?_|refine a5 ?_|refine a6 ?_|refine a7 a4 rfl rfl ?_)
  refine aK [2, 3, 5, 7, 8, 9, 10, 33] (α := Nat × SS × List Int) (fun t => [(34, az t.1)]) (fun t => t.1 ≤ R.C ∧ ge R.rows hv Lb t.2.1.M ∧ eP R.cls R.rows R.C t.2.1.M tab ends ∧ t.2.1.M[tab.length]? = some p ∧ t.2.2.length = R.C ∧ t.2.1.k ≤ 1000001 ∧ ∀ (c : Nat) z, c < t.1 → t.2.2[c]? = some z → fY R.cls R.rows t.2.1.M p c z) (fun t => (rwb, .box (cI t.2.2) 3) :: lb R nb kb mb rb t.2.1 (tok qt 22 1 tab.length ++ tok qe 246 1 ends.length)) (fun t => R.C - t.1) (0, ⟨M, q, k, qr⟩, List.replicate R.C 0) rfl ⟨rfl, trivial⟩ ⟨Nat.zero_le _, hst, htb, hp, by simp, hk, fun c z hc => by omega⟩ (fun _ _ hh => hh) ?_
  ·rintro ⟨c, ⟨M1, q1, k1, qr1⟩, dp⟩ ⟨hc, hst1, htb1, hp1, hrl, hk1, hce⟩
   dsimp only at hc hst1 htb1 hp1 hrl hk1 hce ⊢
   try dsimp only [Ds, Dr, Dq, Dn]
   have hcl := fB dp
   obtain ⟨hsm1, hM1⟩ := h.small hst1
   repeat' (first|refine a8 ?_|refine a0 ?_|refine a5 ?_|refine a6 ?_|refine a7 a4 rfl rfl ?_)
   refine aq rfl (fun h1 => ?_) (fun h1 => ?_)
   ·have hc2 : c < R.C := by have := Dz h1; omega
    have hpg := lU hp1
    have hps := hst1.small p (Dw hp1)
    have hps2 := hsm1 p (Dw hp1)
    have hbe := u6 R hok rb k1 qr1 hk1 p (by have := hps2.1; omega) (by have := hps2.2; omega) c hc2
    have hst' := fC (l := dp) (i := c) (z := -1)
    clear h1
    repeat' (first|refine a8 ?_|refine a0 ?_|refine aj ?_|refine ah ?_|refine a5 ?_|refine a6 ?_|refine a7 a4 rfl rfl ?_|(apply aE; first|refine aD a4 ?_|refine aA a4 ?_)|fail)
    refine aa a4 0 rfl rfl rfl rfl rfl rfl (Nat.ble_eq_true_of_le (by rw [hcl, hrl, Int.toNat_natCast]; show 0 + c * 1 + 1 ≤ _; omega)) ?_
    rw [hst']
    refine a6 ?_
    refine a5 ?_
    refine cZ (aV (L' := (rwb, .box (cI (dp.set c (-1))) 3) :: lb R nb kb mb rb ⟨M1, q1, k1, qr1⟩ (tok qt 22 1 tab.length ++ tok qe 246 1 ends.length)) (Do _)) ?_
    repeat' (first|refine a8 ?_|refine a0 ?_|refine a7 a4 rfl rfl ?_|(apply bD; first|refine ai a4 0 rfl rfl rfl rfl rfl ?_|refine ai a4 1 rfl rfl rfl rfl rfl ?_|refine ai a4 2 rfl rfl rfl rfl rfl ?_|refine ai a4 3 rfl rfl rfl rfl rfl ?_|refine ax a4 0 rfl rfl rfl rfl rfl ?_|refine ax a4 1 rfl rfl rfl rfl rfl ?_|refine ax a4 2 rfl rfl rfl rfl rfl ?_|refine ai a4 1 rfl rfl rfl (by assumption) rfl ?_|refine ai a4 0 rfl rfl rfl (by assumption) rfl ?_|fail)|(apply aE; first|refine aD a4 ?_|refine aA a4 ?_)|fail)
    refine aL (dA R rb k1 qr1) _ hbe rfl rfl qJ rfl fun c1 L1 ⟨hc1, k2, qr2, hk2, hL⟩ => ?_
    subst hc1; subst hL
    refine aP (aV (L' := (rwb, .box (cI (dp.set c (-1))) 3) :: lb R nb kb mb rb ⟨M1, q1, k2, qr2⟩ (tok qt 22 1 tab.length ++ tok qe 246 1 ends.length)) (qJ (s := ⟨M1, q1, k2, qr2⟩)).symm) ?_
    have hrs : (dp.set c (-1)).length = R.C := by rw [List.length_set]; exact hrl
    have hrs2 := fB (dp.set c (-1))
    repeat' (first|refine a8 ?_|refine a0 ?_|refine a5 ?_|refine a6 ?_|refine a7 a4 rfl rfl ?_|(apply aO; first|refine a9 12 a4 0 rfl rfl rfl rfl rfl rfl rfl rfl ?_|refine a9 12 a4 1 rfl rfl rfl rfl rfl rfl rfl rfl ?_|refine a9 12 a4 2 rfl rfl rfl rfl rfl rfl rfl rfl ?_|refine aa a4 0 rfl rfl rfl rfl rfl rfl rfl ?_|refine aa a4 1 rfl rfl rfl rfl rfl rfl rfl ?_|refine aa a4 2 rfl rfl rfl rfl rfl rfl rfl ?_|refine aa a4 3 rfl rfl rfl rfl rfl rfl rfl ?_|fail)|refine aZ a4 fun _=>?_|fail)
    refine aq rfl (fun h1 => ?_) (fun h1 => ?_)
    ·have hne : (bq R.cls R.rows p c).2 ≠ 0 := by
      intro e
      have h1' : ((bq R.cls R.rows p c).2 : Int) ≠ 0 := Dz h1
      rw [e] at h1'
      exact h1' rfl
     have hst2 := hst1.meet h.long hne
     have hsm2 := (h.small hst2).1
     have hme := tu nb kb mb M1 hsm1 (by omega) q1 (bq R.cls R.rows p c) (hsm2 _ (iK _ _))
     have hput := fC (l := dp.set c (-1)) (i := c) (z := ((cW M1 (bq R.cls R.rows p c)).idxOf (bq R.cls R.rows p c) : Nat))
     have hcn := fY.new (M := M1) hne
     have htm := htb1.more (by have := (Dp hp1).1; omega) (bq R.cls R.rows p c)
     have hpm := kB (bq R.cls R.rows p c) hp1
     have hcm : ∀ (c' : Nat) z, c' < c → dp[c']? = some z → fY R.cls R.rows (cW M1 (bq R.cls R.rows p c)) p c' z := fun c' z h1 h2 => (hce c' z h1 h2).more
     clear h1
     repeat' (first|refine a0 ?_|refine a7 a4 rfl rfl ?_)
     refine fW (po nb kb mb M1 q1) _ (gC.fn (f := 178) (caps := [ep nb, ep mb]) hme) rfl rfl qI rfl rfl fun c2 L2 ⟨hc2', q2, hL⟩ => ?_
     subst hc2'; subst hL
     refine aP (aV (L' := (rwb, .box (cI (dp.set c (-1))) 3) :: lb R nb kb mb rb ⟨cW M1 (bq R.cls R.rows p c), q2, k2, qr2⟩ (tok qt 22 1 tab.length ++ tok qe 246 1 ends.length)) (qI (s := ⟨cW M1 (bq R.cls R.rows p c), q2, k2, qr2⟩)).symm) ?_
     repeat' (first|(apply aE; first|refine aD a4 ?_|refine aA a4 ?_)|fail)
     refine aa a4 0 rfl rfl rfl rfl rfl rfl (Nat.ble_eq_true_of_le (by rw [hrs2, hrs, Int.toNat_natCast]; show 0 + c * 1 + 1 ≤ _; omega)) ?_
     rw [hput]
     repeat' (first|refine a0 ?_|refine a5 ?_|refine aG ?_|refine a6 ?_|refine a7 a4 rfl rfl ?_|(apply aT; refine aS ?_)|fail)
     refine ay (c + 1, ⟨cW M1 (bq R.cls R.rows p c), q2, k2, qr2⟩, (dp.set c (-1)).set c ((cW M1 (bq R.cls R.rows p c)).idxOf (bq R.cls R.rows p c) : Nat)) rfl ⟨by rw [Dv]; rfl, trivial⟩ ⟨hc2, hst2, htm, hpm, by rw [List.length_set]; exact hrs, hk2, fun c' z h1 h2 => ?_⟩ (by dsimp only; omega) (fun _ _ hh => hh)
     by_cases he : c' = c
     ·subst he
      rw [List.getElem?_set_self (by omega)] at h2
      cases h2
      exact hcn
     ·rw [List.getElem?_set_ne (fun e => he e.symm), List.getElem?_set_ne (fun e => he e.symm)] at h2
      exact hcm c' z (by dsimp only at h1; omega) h2
    ·have he0 : (bq R.cls R.rows p c).2 = 0 := by
      have h1' : ¬ ((bq R.cls R.rows p c).2 : Int) ≠ 0 := Dy h1
      omega
     clear h1
     repeat' (first|refine a0 ?_|refine ah ?_|refine a5 ?_|refine aG ?_|refine a6 ?_|refine a7 a4 rfl rfl ?_|(apply aT; refine aS ?_)|fail)
     refine ay (c + 1, ⟨M1, q1, k2, qr2⟩, dp.set c (-1)) rfl ⟨by rw [Dv]; rfl, trivial⟩ ⟨hc2, hst1, htb1, hp1, hrs, hk2, fun c' z h1 h2 => ?_⟩ (by dsimp only; omega) (fun _ _ hh => hh)
     by_cases he : c' = c
     ·subst he
      rw [List.getElem?_set_self (by omega)] at h2
      cases h2
      exact .inl ⟨he0, rfl⟩
     ·rw [List.getElem?_set_ne (fun e => he e.symm)] at h2
      exact hce c' z (by dsimp only at h1; omega) h2
   ·have hc2 : c = R.C := by have := Dy h1; omega
    subst hc2
    have hn3 : tab.length < M1.length := (Dp hp1).1
    have hpg := lU hp1
    have hps2 := hsm1 p (Dw hp1)
    have hml1 : (M1.map jt).length = M1.length := Du ..
    have hen := yE R hok rb k1 qr1 hk1 p (by have := hps2.1; omega) (by have := hps2.2; omega)
    have htl3 := bQ tab
    have hul3 := kH ends
    have hsn := htb1.snoc hp1 hrl fun c' z h2 => hce c' z (by have := (Dp h2).1; omega) h2
    have hel := htb1.len
    clear h1
    repeat' (first|refine a8 ?_|refine a0 ?_|refine aM ?_|refine a5 ?_|refine ar ?_|refine aw ?_|refine au ?_|refine a6 ?_|refine a7 a4 rfl rfl ?_|(apply bD; first|refine ai a4 0 rfl rfl rfl rfl rfl ?_|refine ai a4 1 rfl rfl rfl rfl rfl ?_|refine ai a4 2 rfl rfl rfl rfl rfl ?_|refine ai a4 3 rfl rfl rfl rfl rfl ?_|refine ax a4 0 rfl rfl rfl rfl rfl ?_|refine ax a4 1 rfl rfl rfl rfl rfl ?_|refine ax a4 2 rfl rfl rfl rfl rfl ?_|refine ai a4 1 rfl rfl rfl (by assumption) rfl ?_|refine ai a4 0 rfl rfl rfl (by assumption) rfl ?_|fail)|fail)
    refine aq rfl (fun h1 => ?_) (fun h1 => ?_)
    ·have h1' : (20000 : Int) < ((M1.map jt).length : Int) := Dz h1
     omega
    clear h1
    refine cZ (iL (t := 10) (sz := 1) (n := R.C) (cap := R.C) (l := aR dp) 0 rfl rfl (by rw [← lG, Nat.mul_one, List.take_of_length_le (by omega)]) (by omega) (fun e he => by unfold aR at he; obtain ⟨y, _, rfl⟩ := List.mem_map.1 he; rfl) (by rw [aX]; exact hrl) (Nat.le_refl _) (by unfold maxLen; omega)) ?_
    repeat' (first|refine a8 ?_|refine a0 ?_|refine ah ?_|refine a5 ?_|refine a7 a4 rfl rfl ?_|refine c6 a4 ?_|fail)
    refine c5 a4 (lb R nb kb mb rb ⟨M1, q1, k1, qr1⟩ (tok qe 246 1 ends.length)) rfl rfl rfl rfl (by rw [htl3]; exact tk) (by rw [htl3]; simp; omega) (by rw [htl3]; simp; omega) rfl fun qt' => ?_
    have hrsn : b7 tab ++ [[AV.imm 1 (aR dp)]] = b7 (tab ++ [dp]) := by simp [b7]
    refine aP (aV (L' := lb R nb kb mb rb ⟨M1, q1, k1, qr1⟩ (tok qt' 22 1 (b7 tab ++ [[AV.imm 1 (aR dp)]]).length ++ tok qe 246 1 ends.length)) tk.symm) ?_
    repeat' (first|refine a0 ?_|refine a5 ?_|refine a6 ?_|refine a7 a4 rfl rfl ?_|(apply bD; first|refine ai a4 0 rfl rfl rfl rfl rfl ?_|refine ai a4 1 rfl rfl rfl rfl rfl ?_|refine ai a4 2 rfl rfl rfl rfl rfl ?_|refine ai a4 3 rfl rfl rfl rfl rfl ?_|refine ax a4 0 rfl rfl rfl rfl rfl ?_|refine ax a4 1 rfl rfl rfl rfl rfl ?_|refine ax a4 2 rfl rfl rfl rfl rfl ?_|refine ai a4 1 rfl rfl rfl (by assumption) rfl ?_|refine ai a4 0 rfl rfl rfl (by assumption) rfl ?_|fail)|(apply aE; first|refine aD a4 ?_|refine aA a4 ?_)|fail)
    refine aL (dA R rb k1 qr1) _ hen rfl rfl k9 rfl fun c1 L1 ⟨hc1, k2, qr2, hk2, hL⟩ => ?_
    subst hc1; subst hL
    refine aP (aV (L' := lb R nb kb mb rb ⟨M1, q1, k2, qr2⟩ (tok qt' 22 1 (b7 tab ++ [[AV.imm 1 (aR dp)]]).length ++ tok qe 246 1 ends.length)) (k9 (s := ⟨M1, q1, k2, qr2⟩)).symm) ?_
    repeat' (first|refine c6 a4 ?_|fail)
    refine c5 a4 (lb R nb kb mb rb ⟨M1, q1, k2, qr2⟩ (tok qt' 22 1 (b7 tab ++ [[AV.imm 1 (aR dp)]]).length)) rfl rfl rfl rfl (by rw [hul3]; exact tj) (by rw [hul3]; simp; omega) (by rw [hul3]; simp; omega) rfl fun qe' => ?_
    have husn : eK ends ++ [[gg (gi R.rows p)]] = eK (ends ++ [gi R.rows p]) := by simp [eK]
    refine aP (aV (L' := lb R nb kb mb rb ⟨M1, q1, k2, qr2⟩ (tok qt' 22 1 (b7 tab ++ [[AV.imm 1 (aR dp)]]).length ++ tok qe' 246 1 (eK ends ++ [[gg (gi R.rows p)]]).length)) tj.symm) ?_
    repeat' (first|refine a0 ?_|refine a5 ?_|refine aG ?_|refine a6 ?_|refine a7 a4 rfl rfl ?_|(apply aT; refine aS ?_)|fail)
    have hll : (tab ++ [dp]).length = tab.length + 1 := by simp
    refine ay ⟨⟨M1, q1, k2, qr2⟩, tab ++ [dp], qt', ends ++ [gi R.rows p], qe'⟩ rfl ⟨?_, by dsimp only; rw [← hrsn]; rfl, by dsimp only; rw [← husn]; rfl, trivial⟩ ⟨hst1, hsn, by dsimp only; omega, hk2⟩ (by dsimp only; omega) (fun _ _ hh => ?_)
    ·dsimp only
     rw [hll, Dv]
     rfl
    ·dsimp only
     rw [hrsn, husn, bQ, kH] at hh
     exact hh
 ·have hn2 : tab.length = M.length := by
   have h1' : ¬ (tab.length : Int) < ((M.map jt).length : Int) := Dy h1
   omega
  clear h1
  repeat' (first|refine a8 ?_|refine a0 ?_|refine ae ?_|refine aM ?_|refine a5 ?_|refine ar ?_|refine aw ?_|refine au ?_|refine a6 ?_|refine a7 a4 rfl rfl ?_)
  refine bA (bR (t := 2) (c' := .imm 1 (b7 tab)) rfl fun σ v h => VR.im h) ?_
  refine bA (bR (t := 3) (c' := .imm 1 (eK ends)) rfl fun σ v h => VR.im h) ?_
  exact fj (cs := [.imm 1 (b7 tab), .imm 1 (eK ends), dB true]) [] ⟨rfl, rfl, rfl, trivial⟩ (List.nil_sublist _) ⟨tab, ends, htb.done hst hn2, rfl⟩
end Go.Proofs.YtpmdfoaadejmkaaGreatDoor
