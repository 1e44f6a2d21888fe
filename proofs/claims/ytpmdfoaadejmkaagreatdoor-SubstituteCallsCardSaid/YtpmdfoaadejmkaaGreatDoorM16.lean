/-
  States that were met: met again, or for the first time.
-/
import Derived.Test.YtpmdfoaadejmkaaGreatDoorM15
import Derived.Test.YtpmdfoaadejmkaaGreatDoorM12
namespace Go.Proofs.YtpmdfoaadejmkaaGreatDoor
open Go.RowKit
attribute [local irreducible] AT bf AX AO Av Kt aZ df DA cA
section
variable {P : Program} {tt : TT} {r : Option Nat} {ops : Array Oper} {Q : Exit → Act → World → Prop} {nt : Nat} {D : List Deferred} {fr : bw} {B : Bs} {L : AL} {rest : List Oper} {d : Nat} {ty t t' : TypeId} {pos : String} {af : Array Edge} {x y z : Operand} {u : AV}
theorem yT (ok : dg P tt) (n : Nat) {e sz by_ : Nat} {k k' : IntKind} {b : Int} {zs : List Value} (ht : iF tt t = some (e, sz, by_)) (hz : zI tt e = some zs) (hzl : Nat.beq zs.length sz = true) (hx : aW fr x = some (.sc (.int k 0))) (hy : aW fr y = some (.sc (.int k' b))) (hb : b = (n : Int)) (hby : by_ * n ≤ 281474976710656) (h63 : n ≤ 9223372036854775807) (hd : Nat.ble nt d = false)
  (h : ∀ b, bf P r ops Q nt D rest ((d, .vec (some (b, n)) sz []) :: fr) B ((b, .vec e sz 0 n) :: L)) : bf P r ops Q nt D (⟨some d, .makeSlice t x y, ty, pos, af, none⟩ :: rest) fr B L :=
 c6 hd rfl (vH (b8 ok ht).1 (eD ok hz) (Nat.eq_of_beq_eq_true hzl) (b8 ok ht).2 hx hy hb hby h63) fun c L' ⟨b, h1, h2⟩ => by subst h1; subst h2; exact h b
end
def pg (nb kb mb : Nat) (M : List Pl) (q : Option (Nat × Nat)) : AL := (nb, .box [.sc (.map (some kb))] 129) :: (kb, ce .string (pL M)) :: (mb, .box [.vec q 2 (M.map jm)] 259) :: tok q 261 2 M.length
def xK (nb kb mb : Nat) (M : List Pl) (u : AV) : AV → AL → Prop := fun c L => c = u ∧ ∃ q, L = pg nb kb mb M q
set_option maxHeartbeats 4000000 in
theorem tr (nb kb mb : Nat) (M : List Pl) (hM : ∀ x ∈ M, i9 x) (hl : M.length ≤ 1000000) (q : Option (Nat × Nat)) (p : Pl) (hp : i9 p) : AC Tryz.prog 178 ([.agg (jm p)] ++ [eh nb, eh mb]) (pg nb kb mb M q) (xK nb kb mb (cU M p) (az ((cU M p).idxOf p : Nat))) := by
 refine aB Tryz.func178 rfl Tryz.ntmps178 rfl fun B => ?_
 haveI := AD.mk (zo p hp)
 have hml : (M.map jm).length = M.length := Du ..
 unfold pg
 repeat' (first|refine a8 ?_|refine a0 ?_|refine a5 ?_|refine a6 ?_|refine a7 a4 rfl rfl ?_|(apply bD; first|refine ai a4 0 rfl rfl rfl rfl rfl ?_|refine ai a4 1 rfl rfl rfl rfl rfl ?_|refine ai a4 2 rfl rfl rfl rfl rfl ?_|refine ai a4 3 rfl rfl rfl rfl rfl ?_|refine ax a4 0 rfl rfl rfl rfl rfl ?_|refine ax a4 1 rfl rfl rfl rfl rfl ?_|refine ax a4 2 rfl rfl rfl rfl rfl ?_|refine ai a4 1 rfl rfl rfl (by assumption) rfl ?_|refine ai a4 0 rfl rfl rfl (by assumption) rfl ?_|fail)|refine aX ?_|(apply bb;refine b4 ?_)|fail)
 refine fk 1 (.int .i64 0) Tryz.underlying129 Tryz.underlying9 rfl rfl trivial rfl (by kernel_rfl) rfl ?_
 by_cases hm : p ∈ M
 ·have hg := r9 hM hp hm
  have ht := dQ hm
  rw [hg, ht]
  repeat' (first|refine a8 ?_|refine a0 ?_|refine ah ?_|refine ae ?_|refine a5 ?_|refine a6 ?_|refine a7 a4 rfl rfl ?_|refine bB rfl ?_)
  exact ak rfl rfl ⟨rfl, q, rfl⟩
 ·have hg := xr hM hp hm
  have hpu := zk hM hp hm
  have ht := ez hm
  have hn := ku hm
  rw [hg]
  repeat' (first|refine a8 ?_|refine a0 ?_|refine a5 ?_|refine a6 ?_|refine a7 a4 rfl rfl ?_|(apply bD; first|refine ai a4 0 rfl rfl rfl rfl rfl ?_|refine ai a4 1 rfl rfl rfl rfl rfl ?_|refine ai a4 2 rfl rfl rfl rfl rfl ?_|refine ai a4 3 rfl rfl rfl rfl rfl ?_|refine ax a4 0 rfl rfl rfl rfl rfl ?_|refine ax a4 1 rfl rfl rfl rfl rfl ?_|refine ax a4 2 rfl rfl rfl rfl rfl ?_|refine ai a4 1 rfl rfl rfl (by assumption) rfl ?_|refine ai a4 0 rfl rfl rfl (by assumption) rfl ?_|fail)|refine br rfl ?_)
  refine d3 1 (pL (M ++ [p])) Tryz.underlying129 Tryz.underlying9 rfl rfl trivial (by rw [hml]; rfl) rfl hpu v9 ?_
  repeat' (first|refine a0 ?_|refine a5 ?_|refine a6 ?_|refine a7 a4 rfl rfl ?_|(apply bD; first|refine ai a4 0 rfl rfl rfl rfl rfl ?_|refine ai a4 1 rfl rfl rfl rfl rfl ?_|refine ai a4 2 rfl rfl rfl rfl rfl ?_|refine ai a4 3 rfl rfl rfl rfl rfl ?_|refine ax a4 0 rfl rfl rfl rfl rfl ?_|refine ax a4 1 rfl rfl rfl rfl rfl ?_|refine ax a4 2 rfl rfl rfl rfl rfl ?_|refine ai a4 1 rfl rfl rfl (by assumption) rfl ?_|refine ai a4 0 rfl rfl rfl (by assumption) rfl ?_|fail)|refine cj a4 ?_|fail)
  refine cu a4 [(nb, .box [.sc (.map (some kb))] 129), (kb, ce .string (pL (M ++ [p]))), (mb, .box [.vec q 2 (M.map jm)] 259)] rfl rfl rfl rfl ?_ (by rw [hml]; simp; omega) (by rw [hml]; simp; omega) rfl fun q' => ?_
  ·rw [hml]
   exact List.perm_append_comm (l₁ := [_, _, _])
  have hsn : M.map jm ++ [jm p] = (M ++ [p]).map jm := by rw [List.map_append]; rfl
  refine aP (aV (L' := (nb, .box [.sc (.map (some kb))] 129) :: (kb, ce .string (pL (M ++ [p]))) :: (mb, .box [.vec q 2 (M.map jm)] 259) :: tok q' 261 2 (M.map jm ++ [jm p]).length) (List.perm_append_comm (l₂ := [_, _, _]))) ?_
  repeat' (first|refine a8 ?_|refine a0 ?_|refine ae ?_|refine a5 ?_|refine a6 ?_|refine a7 a4 rfl rfl ?_|(apply aO; first|refine aa a4 0 rfl rfl rfl rfl rfl rfl rfl ?_|refine aa a4 1 rfl rfl rfl rfl rfl rfl rfl ?_|refine aa a4 2 rfl rfl rfl rfl rfl rfl rfl ?_|refine aa a4 3 rfl rfl rfl rfl rfl rfl rfl ?_|fail))
  refine ak rfl rfl ⟨?_, q', ?_⟩
  ·rw [hml, hn]
  ·rw [ht, hsn, Du]
   unfold pg
   rw [← hsn]
   rfl
theorem u3 (r : aT) : bk Tryz.prog 185 [.agg (bH r)] (.tup [.imm 1 (b7 r.Back), dx true]) := by
 refine aB Tryz.func185 rfl Tryz.ntmps185 rfl fun B => ?_
 repeat' (first|refine a8 ?_|refine a0 ?_|refine ae ?_|refine a5 ?_|refine a6 ?_|refine a7 a4 rfl rfl ?_|refine aX ?_|fail)
 exact aJ rfl rfl rfl rfl
set_option maxHeartbeats 4000000 in
theorem ut (r : aT) (h1 : r.In.length ≤ 1000000) (h2 : r.Ahead.length ≤ 1000000) : bk Tryz.prog 184 [.agg (bH r)] (.tup [.imm 1 (b7 (cL r)), dx (!r.In.isEmpty)]) := by
 refine aB Tryz.func184 rfl Tryz.ntmps184 rfl fun B => ?_
 have hil := bQ r.In
 have hal := bQ r.Ahead
 repeat' (first|refine a8 ?_|refine a0 ?_|refine a5 ?_|refine a6 ?_|refine a7 a4 rfl rfl ?_|refine aX ?_|fail)
 refine aq rfl (fun h => ?_) (fun h => ?_)
 ·have hz : r.In = [] := List.eq_nil_of_length_eq_zero (by have := Dz h; omega)
  unfold cL
  rw [hz]
  clear h
  repeat' (first|refine a8 ?_|refine a0 ?_|refine ae ?_|refine a5 ?_|refine am ?_|refine a6 ?_|refine a7 a4 rfl rfl ?_)
  refine bA (bR (t := 2) (c' := .imm 1 []) rfl fun σ v h => j4 1 h) ?_
  exact aJ rfl rfl rfl rfl
 ·have hz : r.In ≠ [] := fun e => by have := Dy h; rw [hil, e] at this; simp at this
  have he : r.In.isEmpty = false := by cases hr : r.In; exact absurd hr hz; rfl
  unfold cL
  rw [he]
  clear h
  repeat' (first|refine a8 ?_|refine a0 ?_|refine ah ?_|refine a5 ?_|refine a7 a4 rfl rfl ?_|(apply aS; refine aR ?_)|fail)
  refine yT a4 (r.In.length + r.Ahead.length) rfl rfl rfl rfl rfl (by rw [hil, hal, Dv]) (by omega) (by omega) rfl fun b => ?_
  repeat' (first|refine a8 ?_|refine a0 ?_|refine a5 ?_|refine a6 ?_|refine a7 a4 rfl rfl ?_)
  refine cu a4 [] rfl rfl rfl rfl (by rw [List.append_nil]; exact Do _) (by simp; omega) (by simp; omega) rfl fun q1 => ?_
  repeat' (first|refine a8 ?_|refine a0 ?_|refine a5 ?_|refine a6 ?_|refine a7 a4 rfl rfl ?_)
  refine cu a4 [] rfl rfl rfl rfl (Do _) (by simp; omega) (by simp; omega) rfl fun q2 => ?_
  repeat' (first|refine ae ?_|refine a5 ?_|refine a6 ?_|refine a7 a4 rfl rfl ?_)
  have hra : b7 (r.In ++ r.Ahead) = [] ++ b7 r.In ++ b7 r.Ahead := by simp [b7]
  refine bA (bR (t := 2) (c' := .imm 1 (b7 (r.In ++ r.Ahead))) rfl fun σ v h => by rw [hra]; exact VR.im h) ?_
  refine du (List.nil_sublist _) ?_
  exact aJ rfl rfl rfl rfl
end Go.Proofs.YtpmdfoaadejmkaaGreatDoor
namespace Go.Proofs.YtpmdfoaadejmkaaGreatDoor
open Go.RowKit
attribute [local irreducible] AT bf AX AO Av Kt aZ df DA cA
abbrev rL (rs : List aT) (cls : List Int) : List AV := [.imm 6 (rs.map bH), .imm 1 (aU cls)]
def gM (w : aT → List (List Int) × Bool) (rs : List aT) (n : Nat) : Bool := match rs[n]? with
 | some r => (w r).2
 | none => false
def ne (w : aT → List (List Int) × Bool) (rs : List aT) (cls : List Int) : RD := ⟨rs.map fun r => (w r).1, bF (gM w rs) rs.length, cls, (eI cls).toNat⟩
theorem sy (l : List (List (List Int))) (r : List (List Int)) : gq l ++ [[.imm 1 (b7 r)]] = gq (l ++ [r]) := by simp [gq]
theorem sj {l : List Int} {k : Nat} {z : Int} (h : l[k]? = some z) : eI (l.take (k + 1)) = max (eI (l.take k)) (z + 1) := by
 unfold eI
 rw [List.take_add_one, h]
 simp
set_option maxHeartbeats 8000000 in
theorem mC (w : aT → List (List Int) × Bool) (u : AV) (rs : List aT) (hrs : rs.length ≤ 6) (hw : ∀ r ∈ rs, gz Tryz.prog u [.agg (bH r)] [] fun c _ => c = .tup [.imm 1 (b7 (w r).1), dx (w r).2]) (cls : List Int) (hcl : ∀ z ∈ cls, 0 ≤ z ∧ z ≤ 1000000) (hcl2 : cls.length ≤ 1000000) : AC Tryz.prog 183 [.agg (rL rs cls), u] [] fun c L => ∃ rb, c = eh rb ∧ L = dw (ne w rs cls) rb 0 none := by
 refine aB Tryz.func183 rfl Tryz.ntmps183 rfl fun B => ?_
 have hrl : (rs.map bH).length = rs.length := Du ..
 have hil := b6 cls
 repeat' (first|refine a8 ?_|refine a0 ?_|refine aj ?_|refine a5 ?_|refine a6 ?_|refine a7 a4 rfl rfl ?_|refine wS (d := 15) fun _=>?_|refine aX ?_|fail)
 rename_i rb
 refine cX (dX 0 (cs' := [.vec none 1 [], ga 0, .imm 1 (aU cls), az 0, .vec none 2 []]) rfl fun σ vs h => nR.vrs (a := [.sc (.slice none 0 0), ga 0, .imm 1 (aU cls), az 0, .sc (.slice none 0 0)]) (b := [.vec none 1 [], ga 0, .imm 1 (aU cls), az 0, .vec none 2 []]) ⟨fun σ v h => eB 1 h, dG.refl _, dG.refl _, dG.refl _, fun σ v h => eB 2 h, trivial⟩ h) ?_
 refine aK [1, 2, 5, 17, 18] (α := Nat × Option (Nat × Nat)) (fun s => [(19, az s.1)]) (fun s => s.1 ≤ rs.length) (fun s => (rb, .box [.vec s.2 1 (gq ((rs.take s.1).map fun r => (w r).1)), ga (bF (gM w rs) s.1), .imm 1 (aU cls), az 0, .vec none 2 []] 268) :: tok s.2 45 1 s.1) (fun s => rs.length - s.1) (0, none) rfl ⟨rfl, trivial⟩ (Nat.zero_le _) (fun _ _ h => h) ?_
 ·rintro ⟨n, q⟩ hn
  dsimp only at hn ⊢
  try dsimp only [Ds, Dr, Dq, Dn]
  repeat' (first|refine a8 ?_|refine a0 ?_|refine a5 ?_|refine a6 ?_|refine a7 a4 rfl rfl ?_)
  refine aq rfl (fun h1 => ?_) (fun h1 => ?_)
  ·have hn2 : n < rs.length := by have := Dz h1; omega
   obtain ⟨r, hr⟩ : ∃ z, rs[n]? = some z := ⟨_, Bj hn2⟩
   have hrg : (rs.map bH)[n]? = some (bH r) := by simp [hr]
   have hwr := hw r (Dw hr)
   have htk : ((rs.take (n + 1)).map fun r => (w r).1) = ((rs.take n).map fun r => (w r).1) ++ [(w r).1] := by rw [List.take_add_one, hr]; simp
   have hbit : bF (gM w rs) (n + 1) = bF (gM w rs) n ||| (if (w r).2 = true then 2 ^ n else 0) := by
    rw [bF]
    unfold gM
    rw [hr]
   have hml : (gq ((rs.take n).map fun r => (w r).1)).length = n := by rw [oC, Du, List.length_take]; omega
   have hsn := sy ((rs.take n).map fun r => (w r).1) (w r).1
   rw [← htk] at hsn
   have hb1 := kL (p := gM w rs) (n := n) (by omega)
   have hb2 := zH (n := n) (by omega)
   have hub := tN n (by omega)
   generalize gq ((rs.take n).map fun r => (w r).1) = l3 at *
   clear h1
   repeat' (first|refine a8 ?_|refine a0 ?_|refine aj ?_|refine ah ?_|refine a5 ?_|refine a6 ?_|refine a7 a4 rfl rfl ?_|(apply aE; first|refine aD a4 ?_|refine aA a4 ?_)|(apply aO; first|refine a9 7 a4 0 rfl rfl rfl rfl rfl rfl rfl rfl ?_|refine a9 7 a4 1 rfl rfl rfl rfl rfl rfl rfl rfl ?_|refine a9 7 a4 2 rfl rfl rfl rfl rfl rfl rfl rfl ?_|refine aa a4 0 rfl rfl rfl rfl rfl rfl rfl ?_|refine aa a4 1 rfl rfl rfl rfl rfl rfl rfl ?_|refine aa a4 2 rfl rfl rfl rfl rfl rfl rfl ?_|refine aa a4 3 rfl rfl rfl rfl rfl rfl rfl ?_|fail)|refine aY a4 fun _=>?_|fail)
   refine fS [] ((rb, .box [.vec q 1 l3, ga (bF (gM w rs) n), .imm 1 (aU cls), az 0, .vec none 2 []] 268) :: tok q 45 1 n) hwr rfl rfl (Do _) rfl rfl fun c L1 hc => ?_
   subst hc
   refine aP (bZ (List.sublist_append_right ..)) ?_
   repeat' (first|refine a8 ?_|refine a0 ?_|refine a5 ?_|refine a6 ?_|refine a7 a4 rfl rfl ?_|(apply bD; first|refine ai a4 0 rfl rfl rfl rfl rfl ?_|refine ai a4 1 rfl rfl rfl rfl rfl ?_|refine ai a4 2 rfl rfl rfl rfl rfl ?_|refine ai a4 3 rfl rfl rfl rfl rfl ?_|refine ax a4 0 rfl rfl rfl rfl rfl ?_|refine ax a4 1 rfl rfl rfl rfl rfl ?_|refine ax a4 2 rfl rfl rfl rfl rfl ?_|refine ai a4 1 rfl rfl rfl (by assumption) rfl ?_|refine ai a4 0 rfl rfl rfl (by assumption) rfl ?_|fail)|refine cj a4 ?_|fail)
   refine cu a4 [(rb, .box [.vec q 1 l3, ga (bF (gM w rs) n), .imm 1 (aU cls), az 0, .vec none 2 []] 268)] rfl rfl rfl rfl (by rw [hml]; exact List.perm_append_comm (l₁ := [_])) (by rw [hml]; simp; omega) (by rw [hml]; simp; omega) rfl fun q' => ?_
   refine aP (aV (L' := (rb, .box [.vec q 1 l3, ga (bF (gM w rs) n), .imm 1 (aU cls), az 0, .vec none 2 []] 268) :: tok q' 45 1 (n + 1)) (by rw [List.length_append, hml]; exact List.perm_append_comm (l₂ := [_]))) ?_
   repeat' (first|refine a8 ?_|refine a0 ?_|refine a5 ?_|refine a6 ?_|refine a7 a4 rfl rfl ?_|(apply aO; first|refine a9 7 a4 0 rfl rfl rfl rfl rfl rfl rfl rfl ?_|refine a9 7 a4 1 rfl rfl rfl rfl rfl rfl rfl rfl ?_|refine a9 7 a4 2 rfl rfl rfl rfl rfl rfl rfl rfl ?_|refine aa a4 0 rfl rfl rfl rfl rfl rfl rfl ?_|refine aa a4 1 rfl rfl rfl rfl rfl rfl rfl ?_|refine aa a4 2 rfl rfl rfl rfl rfl rfl rfl ?_|refine aa a4 3 rfl rfl rfl rfl rfl rfl rfl ?_|fail))
   refine aq rfl (fun h1 => ?_) (fun h1 => ?_)
   ·rw [if_pos h1] at hbit
    repeat' (first|fail)
    refine bj 6 [(0, .v), (1, .v), (2, .v), (3, .l), (4, .v), (5, .v)] none ?_ trivial rfl (by kernel_rfl) (by kernel_rfl) (by kernel_rfl) c9 (by kernel_rfl) rfl
    repeat' (first|refine aC ?_|refine bh a4 ?_|refine bW a4 0 rfl rfl rfl rfl (by first|trivial|rfl) ?_)
    refine rT n rfl rfl rfl trivial ?_
    repeat' (first|fail)
    refine bv [1, 2, 5, 17, 18, 19, 41, 44, 46] rfl rfl ?_
    refine pi rfl rfl rfl ?_
    rw [hub, u64_or_nat _ _ hb1 hb2, ← hbit]
    repeat' (first|refine a0 ?_|refine a5 ?_|refine aH ?_|refine a6 ?_|refine a7 a4 rfl rfl ?_|(apply aS; refine aR ?_)|(apply aO; first|refine a9 7 a4 0 rfl rfl rfl rfl rfl rfl rfl rfl ?_|refine a9 7 a4 1 rfl rfl rfl rfl rfl rfl rfl rfl ?_|refine a9 7 a4 2 rfl rfl rfl rfl rfl rfl rfl rfl ?_|refine aa a4 0 rfl rfl rfl rfl rfl rfl rfl ?_|refine aa a4 1 rfl rfl rfl rfl rfl rfl rfl ?_|refine aa a4 2 rfl rfl rfl rfl rfl rfl rfl ?_|refine aa a4 3 rfl rfl rfl rfl rfl rfl rfl ?_|fail))
    exact ay (n + 1, q') rfl ⟨by rw [Dv]; rfl, trivial⟩ hn2 (by dsimp only; omega) (fun _ _ h => by dsimp only; rw [← hsn]; exact h)
   ·rw [if_neg (by rw [h1]; decide), Nat.or_zero] at hbit
    repeat' (first|refine a0 ?_|refine ah ?_|refine a5 ?_|refine aH ?_|refine a6 ?_|refine a7 a4 rfl rfl ?_|(apply aS; refine aR ?_)|fail)
    exact ay (n + 1, q') rfl ⟨by rw [Dv]; rfl, trivial⟩ hn2 (by dsimp only; omega) (fun _ _ h => by dsimp only; rw [← hsn, hbit]; exact h)
  ·have hn2 : n = rs.length := by have := Dy h1; omega
   subst hn2
   rw [List.take_length]
   clear h1
   repeat' (first|refine a8 ?_|refine a0 ?_|refine aj ?_|refine aL ?_|refine a5 ?_|refine ar ?_|refine av ?_|refine au ?_|refine a6 ?_|refine a7 a4 rfl rfl ?_)
   refine aK [5, 52, 53] (α := Nat) (fun k => [(54, az k)]) (fun k => k ≤ cls.length) (fun k => (rb, .box [.vec q 1 (gq (rs.map fun r => (w r).1)), ga (bF (gM w rs) rs.length), .imm 1 (aU cls), az (eI (cls.take k)), .vec none 2 []] 268) :: tok q 45 1 rs.length) (fun k => cls.length - k) 0 rfl ⟨rfl, trivial⟩ (Nat.zero_le _) (fun _ _ h => h) fun k hk => ?_
   try dsimp only [Ds, Dr, Dq, Dn]
   repeat' (first|refine a8 ?_|refine a0 ?_|refine a5 ?_|refine a6 ?_|refine a7 a4 rfl rfl ?_)
   refine aq rfl (fun h1 => ?_) (fun h1 => ?_)
   ·have hk2 : k < cls.length := by have := Dz h1; omega
    obtain ⟨z, hz⟩ : ∃ z, cls[k]? = some z := ⟨_, Bj hk2⟩
    have hzg := bI hz
    have hzb := hcl z (Dw hz)
    have hmc := sj hz
    clear h1
    repeat' (first|refine a8 ?_|refine a0 ?_|refine aj ?_|refine ah ?_|refine a5 ?_|refine aH ?_|refine a6 ?_|refine a7 a4 rfl rfl ?_|(apply bD; first|refine ai a4 0 rfl rfl rfl rfl rfl ?_|refine ai a4 1 rfl rfl rfl rfl rfl ?_|refine ai a4 2 rfl rfl rfl rfl rfl ?_|refine ai a4 3 rfl rfl rfl rfl rfl ?_|refine ax a4 0 rfl rfl rfl rfl rfl ?_|refine ax a4 1 rfl rfl rfl rfl rfl ?_|refine ax a4 2 rfl rfl rfl rfl rfl ?_|refine ai a4 1 rfl rfl rfl (by assumption) rfl ?_|refine ai a4 0 rfl rfl rfl (by assumption) rfl ?_|fail)|(apply aS; refine aR ?_)|(apply aE; first|refine aD a4 ?_|refine aA a4 ?_)|(apply aO; first|refine a9 7 a4 0 rfl rfl rfl rfl rfl rfl rfl rfl ?_|refine a9 7 a4 1 rfl rfl rfl rfl rfl rfl rfl rfl ?_|refine a9 7 a4 2 rfl rfl rfl rfl rfl rfl rfl rfl ?_|refine aa a4 0 rfl rfl rfl rfl rfl rfl rfl ?_|refine aa a4 1 rfl rfl rfl rfl rfl rfl rfl ?_|refine aa a4 2 rfl rfl rfl rfl rfl rfl rfl ?_|refine aa a4 3 rfl rfl rfl rfl rfl rfl rfl ?_|fail))
    exact ay (k + 1) rfl ⟨by rw [Dv]; rfl, trivial⟩ hk2 (by omega) (fun _ _ h => by rw [hmc]; exact h)
   ·have hk2 : k = cls.length := by have := Dy h1; omega
    subst hk2
    rw [List.take_length]
    clear h1
    repeat' (first|refine a8 ?_|refine a0 ?_|refine ae ?_|refine aL ?_|refine a5 ?_|refine ar ?_|refine av ?_|refine au ?_|refine a6 ?_|refine a7 a4 rfl rfl ?_)
    have hC : (eI cls) = (((eI cls).toNat : Nat) : Int) := by have := (mX (l := cls) (m := 0)).1; unfold eI; omega
    refine bA (dX 0 (cs' := y8 (ne w rs cls) (.vec none 2 (uC (ne w rs cls) 0))) rfl fun σ vs h => nR.vrs (a := [.vec q 1 (gq (rs.map fun r => (w r).1)), ga (bF (gM w rs) rs.length), .imm 1 (aU cls), az (eI cls), .vec none 2 []]) (b := y8 (ne w rs cls) (.vec none 2 (uC (ne w rs cls) 0))) ⟨fun σ v h => VR.im h, dG.refl _, dG.refl _, by unfold ne; dsimp only; rw [← hC]; exact dG.refl _, dG.refl _, trivial⟩ h) ?_
    refine du (L' := dw (ne w rs cls) rb 0 none) (List.sublist_append_left [_] _) ?_
    exact ak rfl rfl ⟨rb, rfl, rfl⟩
def lB (r : aT) : List (List Int) × Bool := (cL r, !r.In.isEmpty)
def mt (r : aT) : List (List Int) × Bool := (r.Back, true)
structure vo (rs : List aT) (cls : List Int) : Prop where
 few : rs.length ≤ 6
 dom : ∀ z ∈ cls, 0 ≤ z ∧ z ≤ 1000000
 len : cls.length ≤ 1000000
 rows : ∀ r ∈ rs, r.In.length ≤ 1000000 ∧ r.Ahead.length ≤ 1000000
theorem wu {rs : List aT} {cls : List Int} (h : vo rs cls) : AC Tryz.prog 100 [.agg (rL rs cls)] [] fun c L => ∃ rb, c = eh rb ∧ L = dw (ne lB rs cls) rb 0 none := by
 refine aB Tryz.func100 rfl Tryz.ntmps100 rfl fun B => ?_
 have hc := mC lB (.sc (.func (.func 184) #[] #[])) rs h.few (fun r hr => gz.fn0 (f := 184) (by rw [List.append_nil]; exact ut r (h.rows r hr).1 (h.rows r hr).2)) cls h.dom h.len
 repeat' (first|refine a8 ?_|refine a0 ?_|refine a5 ?_|refine a6 ?_|refine a7 a4 rfl rfl ?_|refine aX ?_|fail)
 refine aN [] [] hc rfl rfl (Do _) rfl fun c L1 ⟨rb, hc1, hL⟩ => ?_
 subst hc1; subst hL
 repeat' (first|refine ae ?_|refine a5 ?_|refine a6 ?_|refine a7 a4 rfl rfl ?_)
 exact ak rfl rfl ⟨rb, rfl, by rw [List.append_nil]⟩
theorem vS {rs : List aT} {cls : List Int} (h : vo rs cls) : AC Tryz.prog 101 [.agg (rL rs cls)] [] fun c L => ∃ rb, c = eh rb ∧ L = dw (ne mt rs cls) rb 0 none := by
 refine aB Tryz.func101 rfl Tryz.ntmps101 rfl fun B => ?_
 have hc := mC mt (.sc (.func (.func 185) #[] #[])) rs h.few (fun r _ => gz.fn0 (f := 185) (by rw [List.append_nil]; exact u3 r)) cls h.dom h.len
 repeat' (first|refine a8 ?_|refine a0 ?_|refine a5 ?_|refine a6 ?_|refine a7 a4 rfl rfl ?_|refine aX ?_|fail)
 refine aN [] [] hc rfl rfl (Do _) rfl fun c L1 ⟨rb, hc1, hL⟩ => ?_
 subst hc1; subst hL
 repeat' (first|refine ae ?_|refine a5 ?_|refine a6 ?_|refine a7 a4 rfl rfl ?_)
 exact ak rfl rfl ⟨rb, rfl, by rw [List.append_nil]⟩
structure SS where
 M : List Pl
 q : Option (Nat × Nat)
 k : Nat
 qr : Option (Nat × Nat)
abbrev kY (R : RD) (nb kb mb rb : Nat) (s : SS) (X : AL) : AL := (nb, .box [.sc (.map (some kb))] 129) :: (kb, ce .string (pL s.M)) :: (mb, .box [.vec s.q 2 (s.M.map jm)] 259) :: ng R rb s.k s.qr :: (tok s.q 261 2 s.M.length ++ (tok s.qr 330 2 s.k ++ X))
theorem p6 {R : RD} {nb kb mb rb : Nat} {s : SS} {X : AL} : (kY R nb kb mb rb s X).Perm (pg nb kb mb s.M s.q ++ (ng R rb s.k s.qr :: (tok s.qr 330 2 s.k ++ X))) := by
 unfold pg
 refine List.Perm.cons _ (List.Perm.cons _ (List.Perm.cons _ ?_))
 exact (List.perm_middle (l₁ := tok s.q 261 2 s.M.length)).symm
theorem jW {R : RD} {nb kb mb rb : Nat} {s : SS} {X : AL} : (kY R nb kb mb rb s X).Perm (dw R rb s.k s.qr ++ ((nb, .box [.sc (.map (some kb))] 129) :: (kb, ce .string (pL s.M)) :: (mb, .box [.vec s.q 2 (s.M.map jm)] 259) :: (tok s.q 261 2 s.M.length ++ X))) := by
 have h1 : (kY R nb kb mb rb s X).Perm (ng R rb s.k s.qr :: ([(nb, .box [.sc (.map (some kb))] 129), (kb, ce .string (pL s.M)), (mb, .box [.vec s.q 2 (s.M.map jm)] 259)] ++ (tok s.q 261 2 s.M.length ++ (tok s.qr 330 2 s.k ++ X)))) := List.perm_middle (l₁ := [_, _, _])
 refine h1.trans (List.Perm.cons _ ?_)
 rw [← List.append_assoc]
 refine (List.perm_append_comm_assoc _ (tok s.qr 330 2 s.k) X).trans ?_
 rw [List.append_assoc]
 exact Do _
theorem qD {R : RD} {nb kb mb rb : Nat} {s : SS} {X : AL} {a : Nat × AB} : (a :: kY R nb kb mb rb s X).Perm (pg nb kb mb s.M s.q ++ (a :: ng R rb s.k s.qr :: (tok s.qr 330 2 s.k ++ X))) := (List.Perm.cons a p6).trans List.perm_middle.symm
theorem qE {R : RD} {nb kb mb rb : Nat} {s : SS} {X : AL} {a : Nat × AB} : (a :: kY R nb kb mb rb s X).Perm (dw R rb s.k s.qr ++ (a :: (nb, .box [.sc (.map (some kb))] 129) :: (kb, ce .string (pL s.M)) :: (mb, .box [.vec s.q 2 (s.M.map jm)] 259) :: (tok s.q 261 2 s.M.length ++ X))) := (List.Perm.cons a jW).trans List.perm_middle.symm
theorem CC {a b c : Nat × AB} {X : AL} : (a :: b :: c :: X).Perm (b :: c :: a :: X) := (List.Perm.swap b a _).trans (.cons b (List.Perm.swap c a _))
theorem CF {A T1 T2 T R : AL} : (A ++ (T1 ++ (T2 ++ (T ++ R)))).Perm (T ++ (A ++ (T1 ++ (T2 ++ R)))) := by
 rw [← List.append_assoc T1, ← List.append_assoc A, ← List.append_assoc T1 T2 R, ← List.append_assoc A (T1 ++ T2) R]
 exact List.perm_append_comm_assoc ..
theorem CG {A T1 T2 T3 T4 : AL} : (A ++ (T1 ++ (T2 ++ (T3 ++ T4)))).Perm (T4 ++ (A ++ (T1 ++ (T2 ++ T3)))) := by
 rw [← List.append_assoc T2, ← List.append_assoc T1, ← List.append_assoc A]
 exact List.perm_append_comm
abbrev BQ (R : RD) (nb kb mb rb : Nat) (s : SS) : AL := [(nb, .box [.sc (.map (some kb))] 129), (kb, ce .string (pL s.M)), (mb, .box [.vec s.q 2 (s.M.map jm)] 259), ng R rb s.k s.qr]
theorem tj {R : RD} {nb kb mb rb : Nat} {s : SS} {T X : AL} : (kY R nb kb mb rb s (T ++ X)).Perm (T ++ kY R nb kb mb rb s X) := CF (A := BQ R nb kb mb rb s)
theorem th {R : RD} {nb kb mb rb : Nat} {s : SS} {T X : AL} : (kY R nb kb mb rb s (T ++ X)).Perm (X ++ kY R nb kb mb rb s T) := CG (A := BQ R nb kb mb rb s)
structure CP where
 s : SS
 tab : List (List Int)
 qt : Option (Nat × Nat)
 ends : List Nat
 qe : Option (Nat × Nat)
abbrev Db (t : CP) : AL := tok t.qt 22 1 t.tab.length ++ tok t.qe 246 1 t.ends.length
theorem lH {M : List Pl} {n : Nat} {p : Pl} (h : M[n]? = some p) : (M.map jm)[n]? = some (jm p) := by simp [h]
structure vp (R : RD) (hv : Nat → Bool) (Lb : Nat) : Prop where
 ok : vl R
 has : R.have_ = bF hv R.rows.length
 long : ∀ r ∈ R.rows, r.length ≤ Lb
 few : Lb ≤ 200
theorem vp.small {R : RD} {hv : Nat → Bool} {Lb : Nat} (h : vp R hv Lb) {M : List Pl} (hs : g9 R.rows hv Lb M) : (∀ x ∈ M, i9 x) ∧ M.length ≤ 20000 := by
 have hf := h.few
 have hr := h.ok.few
 have h64 : 2 ^ R.rows.length ≤ 64 := Nat.pow_le_pow_right (n := 2) (by omega) hr
 constructor
 ·intro x hx
  obtain ⟨h1, h2⟩ := hs.small x hx
  exact ⟨by omega, by omega⟩
 ·have := hs.few
  have h3 : (Lb + 1) * 2 ^ R.rows.length ≤ 201 * 64 := Nat.mul_le_mul (by omega) h64
  omega
set_option maxHeartbeats 16000000 in
theorem oG (R : RD) (hv : Nat → Bool) (Lb : Nat) (h : vp R hv Lb) (u : AV) (hu : gz Tryz.prog u [] [] fun c L => ∃ rb, c = eh rb ∧ L = dw R rb 0 none) : AC Tryz.prog 99 [u] [] fun c _ => ∃ tab ends, nQ R.cls R.rows hv R.C tab ends ∧ c = .tup [.imm 1 (b7 tab), .imm 1 (eF ends), dx true] := by
 refine aB Tryz.func99 rfl Tryz.ntmps99 rfl fun B => ?_
 repeat' (first|refine a8 ?_|refine a0 ?_|refine a5 ?_|refine a6 ?_|refine a7 a4 rfl rfl ?_)
 refine fS [] [] hu rfl rfl (Do _) rfl rfl fun c L1 ⟨rb, hc, hL⟩ => ?_
 subst hc; subst hL
 repeat' (first|refine a8 ?_|refine a0 ?_|refine a5 ?_|refine a6 ?_|refine a7 a4 rfl rfl ?_)
 refine ea .string fun kb => ?_
 repeat' (first|refine a8 ?_|refine a0 ?_|refine a5 ?_|refine a6 ?_|refine a7 a4 rfl rfl ?_|(apply aO; first|refine a9 12 a4 0 rfl rfl rfl rfl rfl rfl rfl rfl ?_|refine a9 12 a4 1 rfl rfl rfl rfl rfl rfl rfl rfl ?_|refine a9 12 a4 2 rfl rfl rfl rfl rfl rfl rfl rfl ?_|refine aa a4 0 rfl rfl rfl rfl rfl rfl rfl ?_|refine aa a4 1 rfl rfl rfl rfl rfl rfl rfl ?_|refine aa a4 2 rfl rfl rfl rfl rfl rfl rfl ?_|refine aa a4 3 rfl rfl rfl rfl rfl rfl rfl ?_|fail)|refine aY a4 fun _=>?_|fail)
 rename_i nb mb
 have hok := h.ok
 obtain ⟨hCm, hNm⟩ := hok.many
 refine aP (dX 0 (cs' := [.vec none 2 []]) rfl fun σ vs hh => nR.vrs (a := [.sc (.slice none 0 0)]) (b := [.vec none 2 []]) ⟨fun σ v h => eB 2 h, trivial⟩ hh) ?_
 refine aP (aV (L' := kY R nb kb mb rb ⟨[], none, 0, none⟩ []) (by unfold kY; rw [zj]; exact CC)) ?_
 refine aN (dw R rb 0 none) _ (uR R rb 0 none (by omega)) rfl rfl jW rfl fun c L1 ⟨hc, k0, qr0, hk0, hL⟩ => ?_
 subst hc; subst hL
 refine aP (aV (L' := kY R nb kb mb rb ⟨[], none, k0, qr0⟩ []) (jW (s := ⟨[], none, k0, qr0⟩)).symm) ?_
 have hst0 : g9 R.rows hv Lb [((0, R.have_) : Pl)] := by
  have := g9.start (rows := R.rows) (have_ := hv) (L := Lb)
  unfold jq at this
  rwa [← h.has] at this
 have hsm0 := (h.small hst0).1 (0, R.have_) (by simp)
 have hme0 := tr nb kb mb [] (fun x hx => by cases hx) (by simp) none (0, R.have_) hsm0
 repeat' (first|fail)
 refine fS (pg nb kb mb [] none) _ (gz.fn (f := 178) (caps := [eh nb, eh mb]) hme0) rfl rfl p6 rfl rfl fun c L1 ⟨hc, q0, hL⟩ => ?_
 subst hc; subst hL
 refine aP (aV (L' := kY R nb kb mb rb ⟨[(0, R.have_)], q0, k0, qr0⟩ []) (p6 (s := ⟨[(0, R.have_)], q0, k0, qr0⟩)).symm) ?_
 repeat' (first|refine a8 ?_|refine a0 ?_|refine aj ?_|refine a5 ?_|refine a6 ?_|refine a7 a4 rfl rfl ?_)
 refine cX (bR (t := 2) (c' := .vec none 1 (b7 [])) rfl fun σ v h => eB 1 h) ?_
 refine cX (bR (t := 3) (c' := .vec none 1 (eF [])) rfl fun σ v h => eB 1 h) ?_
 refine aK [5, 7, 8] (α := CP) (fun t => [(9, az t.tab.length), (2, .vec t.qt 1 (b7 t.tab)), (3, .vec t.qe 1 (eF t.ends))]) (fun t => g9 R.rows hv Lb t.s.M ∧ eK R.cls R.rows R.C t.s.M t.tab t.ends ∧ t.tab.length ≤ t.s.M.length ∧ t.s.k ≤ 1000001) (fun t => kY R nb kb mb rb t.s (Db t)) (fun t => 20000 - t.tab.length) ⟨⟨[(0, R.have_)], q0, k0, qr0⟩, [], none, [], none⟩ rfl ⟨rfl, rfl, rfl, trivial⟩ ⟨hst0, eK.nil, Nat.zero_le _, hk0⟩ (fun _ _ hh => hh) ?_
 rintro ⟨⟨M, q, k, qr⟩, tab, qt, ends, qe⟩ ⟨hst, htb, htl, hk⟩
 dsimp only at hst htb htl hk ⊢
 try dsimp only [Ds, Dr, Dq, Dn]
 have hml : (M.map jm).length = M.length := Du ..
 obtain ⟨hsm, hM2⟩ := h.small hst
 repeat' (first|refine a8 ?_|refine a0 ?_|refine a5 ?_|refine a6 ?_|refine a7 a4 rfl rfl ?_|(apply bD; first|refine ai a4 0 rfl rfl rfl rfl rfl ?_|refine ai a4 1 rfl rfl rfl rfl rfl ?_|refine ai a4 2 rfl rfl rfl rfl rfl ?_|refine ai a4 3 rfl rfl rfl rfl rfl ?_|refine ax a4 0 rfl rfl rfl rfl rfl ?_|refine ax a4 1 rfl rfl rfl rfl rfl ?_|refine ax a4 2 rfl rfl rfl rfl rfl ?_|refine ai a4 1 rfl rfl rfl (by assumption) rfl ?_|refine ai a4 0 rfl rfl rfl (by assumption) rfl ?_|fail)|fail)
 refine aq rfl (fun h1 => ?_) (fun h1 => ?_)
 ·have hn2 : tab.length < M.length := by have h1' : (tab.length : Int) < ((M.map jm).length : Int) := Dz h1; omega
  obtain ⟨p, hp⟩ : ∃ p, M[tab.length]? = some p := ⟨_, Bj hn2⟩
  clear h1
  repeat' (first|refine a8 ?_|refine a0 ?_|refine aj ?_|refine ah ?_|refine a5 ?_|refine a7 a4 rfl rfl ?_|(apply bD; first|refine ai a4 0 rfl rfl rfl rfl rfl ?_|refine ai a4 1 rfl rfl rfl rfl rfl ?_|refine ai a4 2 rfl rfl rfl rfl rfl ?_|refine ai a4 3 rfl rfl rfl rfl rfl ?_|refine ax a4 0 rfl rfl rfl rfl rfl ?_|refine ax a4 1 rfl rfl rfl rfl rfl ?_|refine ax a4 2 rfl rfl rfl rfl rfl ?_|refine ai a4 1 rfl rfl rfl (by assumption) rfl ?_|refine ai a4 0 rfl rfl rfl (by assumption) rfl ?_|fail)|fail)
  refine gP a4 R.C rfl rfl rfl rfl rfl rfl rfl (by omega) (by omega) rfl fun rwb => ?_
  rw [show (List.replicate R.C (List.map AV.sc [Value.int .i64 0])).flatten = cB (List.replicate R.C 0) from il R.C]
  repeat' (first|refine a8 ?_|refine a0 ?_|refine aj ?_|refine a5 ?_|refine a6 ?_|refine a7 a4 rfl rfl ?_)
  refine aK [2, 3, 5, 7, 8, 9, 10, 33] (α := Nat × SS × List Int) (fun t => [(34, az t.1)]) (fun t => t.1 ≤ R.C ∧ g9 R.rows hv Lb t.2.1.M ∧ eK R.cls R.rows R.C t.2.1.M tab ends ∧ t.2.1.M[tab.length]? = some p ∧ t.2.2.length = R.C ∧ t.2.1.k ≤ 1000001 ∧ ∀ (c : Nat) z, c < t.1 → t.2.2[c]? = some z → fU R.cls R.rows t.2.1.M p c z) (fun t => (rwb, .box (cB t.2.2) 3) :: kY R nb kb mb rb t.2.1 (tok qt 22 1 tab.length ++ tok qe 246 1 ends.length)) (fun t => R.C - t.1) (0, ⟨M, q, k, qr⟩, List.replicate R.C 0) rfl ⟨rfl, trivial⟩ ⟨Nat.zero_le _, hst, htb, hp, by simp, hk, fun c z hc => by omega⟩ (fun _ _ hh => hh) ?_
  ·rintro ⟨c, ⟨M1, q1, k1, qr1⟩, dl⟩ ⟨hc, hst1, htb1, hp1, hrl, hk1, hce⟩
   dsimp only at hc hst1 htb1 hp1 hrl hk1 hce ⊢
   try dsimp only [Ds, Dr, Dq, Dn]
   have hcl := eN dl
   obtain ⟨hsm1, hM1⟩ := h.small hst1
   repeat' (first|refine a8 ?_|refine a0 ?_|refine a5 ?_|refine a6 ?_|refine a7 a4 rfl rfl ?_)
   refine aq rfl (fun h1 => ?_) (fun h1 => ?_)
   ·have hc2 : c < R.C := by have := Dz h1; omega
    have hpg := lH hp1
    have hps := hst1.small p (Dw hp1)
    have hps2 := hsm1 p (Dw hp1)
    have hbe := u4 R hok rb k1 qr1 hk1 p (by have := hps2.1; omega) (by have := hps2.2; omega) c hc2
    have hst' := fx (l := dl) (i := c) (z := -1)
    clear h1
    repeat' (first|refine a8 ?_|refine a0 ?_|refine aj ?_|refine ah ?_|refine a5 ?_|refine a6 ?_|refine a7 a4 rfl rfl ?_|(apply aE; first|refine aD a4 ?_|refine aA a4 ?_)|fail)
    refine aa a4 0 rfl rfl rfl rfl rfl rfl (Nat.ble_eq_true_of_le (by rw [hcl, hrl, Int.toNat_natCast]; show 0 + c * 1 + 1 ≤ _; omega)) ?_
    rw [hst']
    refine a6 ?_
    refine a5 ?_
    refine cX (aV (L' := (rwb, .box (cB (dl.set c (-1))) 3) :: kY R nb kb mb rb ⟨M1, q1, k1, qr1⟩ (tok qt 22 1 tab.length ++ tok qe 246 1 ends.length)) (Do _)) ?_
    repeat' (first|refine a8 ?_|refine a0 ?_|refine a7 a4 rfl rfl ?_|(apply bD; first|refine ai a4 0 rfl rfl rfl rfl rfl ?_|refine ai a4 1 rfl rfl rfl rfl rfl ?_|refine ai a4 2 rfl rfl rfl rfl rfl ?_|refine ai a4 3 rfl rfl rfl rfl rfl ?_|refine ax a4 0 rfl rfl rfl rfl rfl ?_|refine ax a4 1 rfl rfl rfl rfl rfl ?_|refine ax a4 2 rfl rfl rfl rfl rfl ?_|refine ai a4 1 rfl rfl rfl (by assumption) rfl ?_|refine ai a4 0 rfl rfl rfl (by assumption) rfl ?_|fail)|(apply aE; first|refine aD a4 ?_|refine aA a4 ?_)|fail)
    refine aN (dw R rb k1 qr1) _ hbe rfl rfl qE rfl fun c1 L1 ⟨hc1, k2, qr2, hk2, hL⟩ => ?_
    subst hc1; subst hL
    refine aP (aV (L' := (rwb, .box (cB (dl.set c (-1))) 3) :: kY R nb kb mb rb ⟨M1, q1, k2, qr2⟩ (tok qt 22 1 tab.length ++ tok qe 246 1 ends.length)) (qE (s := ⟨M1, q1, k2, qr2⟩)).symm) ?_
    have hrs : (dl.set c (-1)).length = R.C := by rw [List.length_set]; exact hrl
    have hrs2 := eN (dl.set c (-1))
    repeat' (first|refine a8 ?_|refine a0 ?_|refine a5 ?_|refine a6 ?_|refine a7 a4 rfl rfl ?_|(apply aO; first|refine a9 12 a4 0 rfl rfl rfl rfl rfl rfl rfl rfl ?_|refine a9 12 a4 1 rfl rfl rfl rfl rfl rfl rfl rfl ?_|refine a9 12 a4 2 rfl rfl rfl rfl rfl rfl rfl rfl ?_|refine aa a4 0 rfl rfl rfl rfl rfl rfl rfl ?_|refine aa a4 1 rfl rfl rfl rfl rfl rfl rfl ?_|refine aa a4 2 rfl rfl rfl rfl rfl rfl rfl ?_|refine aa a4 3 rfl rfl rfl rfl rfl rfl rfl ?_|fail)|refine aY a4 fun _=>?_|fail)
    refine aq rfl (fun h1 => ?_) (fun h1 => ?_)
    ·have hne : (bq R.cls R.rows p c).2 ≠ 0 := by
      intro e
      have h1' : ((bq R.cls R.rows p c).2 : Int) ≠ 0 := Dz h1
      rw [e] at h1'
      exact h1' rfl
     have hst2 := hst1.meet h.long hne
     have hsm2 := (h.small hst2).1
     have hme := tr nb kb mb M1 hsm1 (by omega) q1 (bq R.cls R.rows p c) (hsm2 _ (iG _ _))
     have hput := fx (l := dl.set c (-1)) (i := c) (z := ((cU M1 (bq R.cls R.rows p c)).idxOf (bq R.cls R.rows p c) : Nat))
     have hcn := fU.new (M := M1) hne
     have htm := htb1.more (by have := (Dp hp1).1; omega) (bq R.cls R.rows p c)
     have hpm := kr (bq R.cls R.rows p c) hp1
     have hcm : ∀ (c' : Nat) z, c' < c → dl[c']? = some z → fU R.cls R.rows (cU M1 (bq R.cls R.rows p c)) p c' z := fun c' z h1 h2 => (hce c' z h1 h2).more
     clear h1
     repeat' (first|refine a0 ?_|refine a7 a4 rfl rfl ?_)
     refine fS (pg nb kb mb M1 q1) _ (gz.fn (f := 178) (caps := [eh nb, eh mb]) hme) rfl rfl qD rfl rfl fun c2 L2 ⟨hc2', q2, hL⟩ => ?_
     subst hc2'; subst hL
     refine aP (aV (L' := (rwb, .box (cB (dl.set c (-1))) 3) :: kY R nb kb mb rb ⟨cU M1 (bq R.cls R.rows p c), q2, k2, qr2⟩ (tok qt 22 1 tab.length ++ tok qe 246 1 ends.length)) (qD (s := ⟨cU M1 (bq R.cls R.rows p c), q2, k2, qr2⟩)).symm) ?_
     repeat' (first|(apply aE; first|refine aD a4 ?_|refine aA a4 ?_)|fail)
     refine aa a4 0 rfl rfl rfl rfl rfl rfl (Nat.ble_eq_true_of_le (by rw [hrs2, hrs, Int.toNat_natCast]; show 0 + c * 1 + 1 ≤ _; omega)) ?_
     rw [hput]
     repeat' (first|refine a0 ?_|refine a5 ?_|refine aH ?_|refine a6 ?_|refine a7 a4 rfl rfl ?_|(apply aS; refine aR ?_)|fail)
     refine ay (c + 1, ⟨cU M1 (bq R.cls R.rows p c), q2, k2, qr2⟩, (dl.set c (-1)).set c ((cU M1 (bq R.cls R.rows p c)).idxOf (bq R.cls R.rows p c) : Nat)) rfl ⟨by rw [Dv]; rfl, trivial⟩ ⟨hc2, hst2, htm, hpm, by rw [List.length_set]; exact hrs, hk2, fun c' z h1 h2 => ?_⟩ (by dsimp only; omega) (fun _ _ hh => hh)
     by_cases he : c' = c
     ·subst he
      rw [List.getElem?_set_self (by omega)] at h2
      cases h2
      exact hcn
     ·rw [List.getElem?_set_ne (fun e => he e.symm), List.getElem?_set_ne (fun e => he e.symm)] at h2
      exact hcm c' z (by dsimp only at h1; omega) h2
    ·have he0 : (bq R.cls R.rows p c).2 = 0 := by
      have h1' : ¬ ((bq R.cls R.rows p c).2 : Int) ≠ 0 := Dy h1
      omega
     clear h1
     repeat' (first|refine a0 ?_|refine ah ?_|refine a5 ?_|refine aH ?_|refine a6 ?_|refine a7 a4 rfl rfl ?_|(apply aS; refine aR ?_)|fail)
     refine ay (c + 1, ⟨M1, q1, k2, qr2⟩, dl.set c (-1)) rfl ⟨by rw [Dv]; rfl, trivial⟩ ⟨hc2, hst1, htb1, hp1, hrs, hk2, fun c' z h1 h2 => ?_⟩ (by dsimp only; omega) (fun _ _ hh => hh)
     by_cases he : c' = c
     ·subst he
      rw [List.getElem?_set_self (by omega)] at h2
      cases h2
      exact .inl ⟨he0, rfl⟩
     ·rw [List.getElem?_set_ne (fun e => he e.symm)] at h2
      exact hce c' z (by dsimp only at h1; omega) h2
   ·have hc2 : c = R.C := by have := Dy h1; omega
    subst hc2
    have hn3 : tab.length < M1.length := (Dp hp1).1
    have hpg := lH hp1
    have hps2 := hsm1 p (Dw hp1)
    have hml1 : (M1.map jm).length = M1.length := Du ..
    have hen := yD R hok rb k1 qr1 hk1 p (by have := hps2.1; omega) (by have := hps2.2; omega)
    have htl3 := bQ tab
    have hul3 := kz ends
    have hsn := htb1.snoc hp1 hrl fun c' z h2 => hce c' z (by have := (Dp h2).1; omega) h2
    have hel := htb1.len
    clear h1
    repeat' (first|refine a8 ?_|refine a0 ?_|refine aL ?_|refine a5 ?_|refine ar ?_|refine av ?_|refine au ?_|refine a6 ?_|refine a7 a4 rfl rfl ?_|(apply bD; first|refine ai a4 0 rfl rfl rfl rfl rfl ?_|refine ai a4 1 rfl rfl rfl rfl rfl ?_|refine ai a4 2 rfl rfl rfl rfl rfl ?_|refine ai a4 3 rfl rfl rfl rfl rfl ?_|refine ax a4 0 rfl rfl rfl rfl rfl ?_|refine ax a4 1 rfl rfl rfl rfl rfl ?_|refine ax a4 2 rfl rfl rfl rfl rfl ?_|refine ai a4 1 rfl rfl rfl (by assumption) rfl ?_|refine ai a4 0 rfl rfl rfl (by assumption) rfl ?_|fail)|fail)
    refine aq rfl (fun h1 => ?_) (fun h1 => ?_)
    ·have h1' : (20000 : Int) < ((M1.map jm).length : Int) := Dz h1
     omega
    clear h1
    refine cX (gt (t := 10) (sz := 1) (n := R.C) (cap := R.C) (l := aU dl) 0 rfl rfl (by rw [← ij, Nat.mul_one, List.take_of_length_le (by omega)]) (by omega) (fun e he => by unfold aU at he; obtain ⟨y, _, rfl⟩ := List.mem_map.1 he; rfl) (by rw [b6]; exact hrl) (Nat.le_refl _) (by unfold maxLen; omega)) ?_
    repeat' (first|refine a8 ?_|refine a0 ?_|refine ah ?_|refine a5 ?_|refine a7 a4 rfl rfl ?_|refine cj a4 ?_|fail)
    refine cu a4 (kY R nb kb mb rb ⟨M1, q1, k1, qr1⟩ (tok qe 246 1 ends.length)) rfl rfl rfl rfl (by rw [htl3]; exact tj) (by rw [htl3]; simp; omega) (by rw [htl3]; simp; omega) rfl fun qt' => ?_
    have hrsn : b7 tab ++ [[AV.imm 1 (aU dl)]] = b7 (tab ++ [dl]) := by simp [b7]
    refine aP (aV (L' := kY R nb kb mb rb ⟨M1, q1, k1, qr1⟩ (tok qt' 22 1 (b7 tab ++ [[AV.imm 1 (aU dl)]]).length ++ tok qe 246 1 ends.length)) tj.symm) ?_
    repeat' (first|refine a0 ?_|refine a5 ?_|refine a6 ?_|refine a7 a4 rfl rfl ?_|(apply bD; first|refine ai a4 0 rfl rfl rfl rfl rfl ?_|refine ai a4 1 rfl rfl rfl rfl rfl ?_|refine ai a4 2 rfl rfl rfl rfl rfl ?_|refine ai a4 3 rfl rfl rfl rfl rfl ?_|refine ax a4 0 rfl rfl rfl rfl rfl ?_|refine ax a4 1 rfl rfl rfl rfl rfl ?_|refine ax a4 2 rfl rfl rfl rfl rfl ?_|refine ai a4 1 rfl rfl rfl (by assumption) rfl ?_|refine ai a4 0 rfl rfl rfl (by assumption) rfl ?_|fail)|(apply aE; first|refine aD a4 ?_|refine aA a4 ?_)|fail)
    refine aN (dw R rb k1 qr1) _ hen rfl rfl jW rfl fun c1 L1 ⟨hc1, k2, qr2, hk2, hL⟩ => ?_
    subst hc1; subst hL
    refine aP (aV (L' := kY R nb kb mb rb ⟨M1, q1, k2, qr2⟩ (tok qt' 22 1 (b7 tab ++ [[AV.imm 1 (aU dl)]]).length ++ tok qe 246 1 ends.length)) (jW (s := ⟨M1, q1, k2, qr2⟩)).symm) ?_
    repeat' (first|refine cj a4 ?_|fail)
    refine cu a4 (kY R nb kb mb rb ⟨M1, q1, k2, qr2⟩ (tok qt' 22 1 (b7 tab ++ [[AV.imm 1 (aU dl)]]).length)) rfl rfl rfl rfl (by rw [hul3]; exact th) (by rw [hul3]; simp; omega) (by rw [hul3]; simp; omega) rfl fun qe' => ?_
    have husn : eF ends ++ [[ga (gc R.rows p)]] = eF (ends ++ [gc R.rows p]) := by simp [eF]
    refine aP (aV (L' := kY R nb kb mb rb ⟨M1, q1, k2, qr2⟩ (tok qt' 22 1 (b7 tab ++ [[AV.imm 1 (aU dl)]]).length ++ tok qe' 246 1 (eF ends ++ [[ga (gc R.rows p)]]).length)) th.symm) ?_
    repeat' (first|refine a0 ?_|refine a5 ?_|refine aH ?_|refine a6 ?_|refine a7 a4 rfl rfl ?_|(apply aS; refine aR ?_)|fail)
    have hll : (tab ++ [dl]).length = tab.length + 1 := by simp
    refine ay ⟨⟨M1, q1, k2, qr2⟩, tab ++ [dl], qt', ends ++ [gc R.rows p], qe'⟩ rfl ⟨?_, by dsimp only; rw [← hrsn]; rfl, by dsimp only; rw [← husn]; rfl, trivial⟩ ⟨hst1, hsn, by dsimp only; omega, hk2⟩ (by dsimp only; omega) (fun _ _ hh => ?_)
    ·dsimp only
     rw [hll, Dv]
     rfl
    ·dsimp only
     rw [hrsn, husn, bQ, kz] at hh
     exact hh
 ·have hn2 : tab.length = M.length := by
   have h1' : ¬ (tab.length : Int) < ((M.map jm).length : Int) := Dy h1
   omega
  clear h1
  repeat' (first|refine a8 ?_|refine a0 ?_|refine ae ?_|refine aL ?_|refine a5 ?_|refine ar ?_|refine av ?_|refine au ?_|refine a6 ?_|refine a7 a4 rfl rfl ?_)
  refine bA (bR (t := 2) (c' := .imm 1 (b7 tab)) rfl fun σ v h => VR.im h) ?_
  refine bA (bR (t := 3) (c' := .imm 1 (eF ends)) rfl fun σ v h => VR.im h) ?_
  exact fc (cs := [.imm 1 (b7 tab), .imm 1 (eF ends), dx true]) [] ⟨rfl, rfl, rfl, trivial⟩ (List.nil_sublist _) ⟨tab, ends, htb.done hst hn2, rfl⟩
end Go.Proofs.YtpmdfoaadejmkaaGreatDoor
