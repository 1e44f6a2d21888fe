/-
  States that were met: met again, or for the first time.
-/
import Derived.Test.YtpmdfoaadejmkaaGreatDoorM15
import Derived.Test.YtpmdfoaadejmkaaGreatDoorM12
namespace Go.Proofs.YtpmdfoaadejmkaaGreatDoor
open Go.RowKit
attribute [local irreducible] AT bh AX AO Av Kt b6 di DA cC
section
variable {P : Program} {tt : TT} {r : Option Nat} {ops : Array Oper} {Q : Exit → Act → World → Prop} {nt : Nat} {D : List Deferred} {fr : bw} {B : Bs} {L : AL} {rest : List Oper} {d : Nat} {ty t t' : TypeId} {pos : String} {af : Array Edge} {x y z : Operand} {u : AV}
theorem z0 (ok : dl P tt) (n : Nat) {e sz by_ : Nat} {k k' : IntKind} {b : Int} {zs : List Value} (ht : iJ tt t = some (e, sz, by_)) (hz : zI tt e = some zs) (hzl : Nat.beq zs.length sz = true) (hx : aX fr x = some (.sc (.int k 0))) (hy : aX fr y = some (.sc (.int k' b))) (hb : b = (n : Int)) (hby : by_ * n ≤ 281474976710656) (h63 : n ≤ 9223372036854775807) (hd : Nat.ble nt d = false)
  (h : ∀ b, bh P r ops Q nt D rest ((d, .vec (some (b, n)) sz []) :: fr) B ((b, .vec e sz 0 n) :: L)) : bh P r ops Q nt D (⟨some d, .makeSlice t x y, ty, pos, af, none⟩ :: rest) fr B L :=
 c6 hd rfl (vO (b9 ok ht).1 (eH ok hz) (Nat.eq_of_beq_eq_true hzl) (b9 ok ht).2 hx hy hb hby h63) fun c L' ⟨b, h1, h2⟩ => by subst h1; subst h2; exact h b
end
def pi (nb kb mb : Nat) (M : List Pl) (q : Option (Nat × Nat)) : AL := (nb, .box [.sc (.map (some kb))] 129) :: (kb, cg .string (pN M)) :: (mb, .box [.vec q 2 (M.map js)] 259) :: tok q 261 2 M.length
def xS (nb kb mb : Nat) (M : List Pl) (u : AV) : AV → AL → Prop := fun c L => c = u ∧ ∃ q, L = pi nb kb mb M q
set_option maxHeartbeats 4000000 in
theorem tx (nb kb mb : Nat) (M : List Pl) (hM : ∀ x ∈ M, ij x) (hl : M.length ≤ 1000000) (q : Option (Nat × Nat)) (p : Pl) (hp : ij p) : AC Tryz.prog 178 ([.agg (js p)] ++ [ek nb, ek mb]) (pi nb kb mb M q) (xS nb kb mb (cV M p) (aA ((cV M p).idxOf p : Nat))) := by
 refine aC Tryz.func178 rfl Tryz.ntmps178 rfl fun B => ?_
 haveI := AD.mk (zx p hp)
 have hml : (M.map js).length = M.length := Du ..
 unfold pi
 repeat' (first|refine a9 ?_|refine a4 ?_|refine a6 ?_|refine a7 ?_|refine a8 a5 rfl rfl ?_|(apply bE; first|refine aj a5 0 rfl rfl rfl rfl rfl ?_|refine aj a5 1 rfl rfl rfl rfl rfl ?_|refine aj a5 2 rfl rfl rfl rfl rfl ?_|refine aj a5 3 rfl rfl rfl rfl rfl ?_|refine ay a5 0 rfl rfl rfl rfl rfl ?_|refine ay a5 1 rfl rfl rfl rfl rfl ?_|refine ay a5 2 rfl rfl rfl rfl rfl ?_|refine aj a5 1 rfl rfl rfl (by assumption) rfl ?_|refine aj a5 0 rfl rfl rfl (by assumption) rfl ?_|fail)|refine aZ ?_|(apply bc;refine b7 ?_)|fail)
 refine fq 1 (.int .i64 0) Tryz.underlying129 Tryz.underlying9 rfl rfl trivial rfl (by kernel_rfl) rfl ?_
 by_cases hm : p ∈ M
 ·have hg := r9 hM hp hm
  have ht := dT hm
  rw [hg, ht]
  repeat' (first|refine a9 ?_|refine a4 ?_|refine ai ?_|refine ah ?_|refine a6 ?_|refine a7 ?_|refine a8 a5 rfl rfl ?_|refine bC rfl ?_)
  exact an rfl rfl ⟨rfl, q, rfl⟩
 ·have hg := xB hM hp hm
  have hpu := zr hM hp hm
  have ht := eD hm
  have hn := kz hm
  rw [hg]
  repeat' (first|refine a9 ?_|refine a4 ?_|refine a6 ?_|refine a7 ?_|refine a8 a5 rfl rfl ?_|(apply bE; first|refine aj a5 0 rfl rfl rfl rfl rfl ?_|refine aj a5 1 rfl rfl rfl rfl rfl ?_|refine aj a5 2 rfl rfl rfl rfl rfl ?_|refine aj a5 3 rfl rfl rfl rfl rfl ?_|refine ay a5 0 rfl rfl rfl rfl rfl ?_|refine ay a5 1 rfl rfl rfl rfl rfl ?_|refine ay a5 2 rfl rfl rfl rfl rfl ?_|refine aj a5 1 rfl rfl rfl (by assumption) rfl ?_|refine aj a5 0 rfl rfl rfl (by assumption) rfl ?_|fail)|refine bv rfl ?_)
  refine d5 1 (pN (M ++ [p])) Tryz.underlying129 Tryz.underlying9 rfl rfl trivial (by rw [hml]; rfl) rfl hpu vg ?_
  repeat' (first|refine a4 ?_|refine a6 ?_|refine a7 ?_|refine a8 a5 rfl rfl ?_|(apply bE; first|refine aj a5 0 rfl rfl rfl rfl rfl ?_|refine aj a5 1 rfl rfl rfl rfl rfl ?_|refine aj a5 2 rfl rfl rfl rfl rfl ?_|refine aj a5 3 rfl rfl rfl rfl rfl ?_|refine ay a5 0 rfl rfl rfl rfl rfl ?_|refine ay a5 1 rfl rfl rfl rfl rfl ?_|refine ay a5 2 rfl rfl rfl rfl rfl ?_|refine aj a5 1 rfl rfl rfl (by assumption) rfl ?_|refine aj a5 0 rfl rfl rfl (by assumption) rfl ?_|fail)|refine ce a5 ?_|fail)
  refine cj a5 [(nb, .box [.sc (.map (some kb))] 129), (kb, cg .string (pN (M ++ [p]))), (mb, .box [.vec q 2 (M.map js)] 259)] rfl rfl rfl rfl ?_ (by rw [hml]; simp; omega) (by rw [hml]; simp; omega) rfl fun q' => ?_
  ·rw [hml]
   exact List.perm_append_comm (l₁ := [_, _, _])
  have hsn : M.map js ++ [js p] = (M ++ [p]).map js := by rw [List.map_append]; rfl
  refine aR (aY (L' := (nb, .box [.sc (.map (some kb))] 129) :: (kb, cg .string (pN (M ++ [p]))) :: (mb, .box [.vec q 2 (M.map js)] 259) :: tok q' 261 2 (M.map js ++ [js p]).length) (List.perm_append_comm (l₂ := [_, _, _]))) ?_
  repeat' (first|refine a9 ?_|refine a4 ?_|refine ah ?_|refine a6 ?_|refine a7 ?_|refine a8 a5 rfl rfl ?_|(apply aP; first|refine ad a5 0 rfl rfl rfl rfl rfl rfl rfl ?_|refine ad a5 1 rfl rfl rfl rfl rfl rfl rfl ?_|refine ad a5 2 rfl rfl rfl rfl rfl rfl rfl ?_|refine ad a5 3 rfl rfl rfl rfl rfl rfl rfl ?_|fail))
  refine an rfl rfl ⟨?_, q', ?_⟩
  ·rw [hml, hn]
  ·rw [ht, hsn, Du]
   unfold pi
   rw [← hsn]
   rfl
theorem ua (r : aV) : bn Tryz.prog 185 [.agg (bI r)] (.tup [.imm 1 (b8 r.Back), dx true]) := by
 refine aC Tryz.func185 rfl Tryz.ntmps185 rfl fun B => ?_
 repeat' (first|refine a9 ?_|refine a4 ?_|refine ah ?_|refine a6 ?_|refine a7 ?_|refine a8 a5 rfl rfl ?_|refine aZ ?_|fail)
 exact aK rfl rfl rfl rfl
set_option maxHeartbeats 4000000 in
theorem uy (r : aV) (h1 : r.In.length ≤ 1000000) (h2 : r.Ahead.length ≤ 1000000) : bn Tryz.prog 184 [.agg (bI r)] (.tup [.imm 1 (b8 (cM r)), dx (!r.In.isEmpty)]) := by
 refine aC Tryz.func184 rfl Tryz.ntmps184 rfl fun B => ?_
 have hil := bS r.In
 have hal := bS r.Ahead
 repeat' (first|refine a9 ?_|refine a4 ?_|refine a6 ?_|refine a7 ?_|refine a8 a5 rfl rfl ?_|refine aZ ?_|fail)
 refine ar rfl (fun h => ?_) (fun h => ?_)
 ·have hz : r.In = [] := List.eq_nil_of_length_eq_zero (by have := Dz h; omega)
  unfold cM
  rw [hz]
  clear h
  repeat' (first|refine a9 ?_|refine a4 ?_|refine ah ?_|refine a6 ?_|refine aq ?_|refine a7 ?_|refine a8 a5 rfl rfl ?_)
  refine bB (bT (t := 2) (c' := .imm 1 []) rfl fun σ v h => ja 1 h) ?_
  exact aK rfl rfl rfl rfl
 ·have hz : r.In ≠ [] := fun e => by have := Dy h; rw [hil, e] at this; simp at this
  have he : r.In.isEmpty = false := by cases hr : r.In; exact absurd hr hz; rfl
  unfold cM
  rw [he]
  clear h
  repeat' (first|refine a9 ?_|refine a4 ?_|refine ai ?_|refine a6 ?_|refine a8 a5 rfl rfl ?_|(apply aU; refine aS ?_)|fail)
  refine z0 a5 (r.In.length + r.Ahead.length) rfl rfl rfl rfl rfl (by rw [hil, hal, Dv]) (by omega) (by omega) rfl fun b => ?_
  repeat' (first|refine a9 ?_|refine a4 ?_|refine a6 ?_|refine a7 ?_|refine a8 a5 rfl rfl ?_)
  refine cj a5 [] rfl rfl rfl rfl (by rw [List.append_nil]; exact Do _) (by simp; omega) (by simp; omega) rfl fun q1 => ?_
  repeat' (first|refine a9 ?_|refine a4 ?_|refine a6 ?_|refine a7 ?_|refine a8 a5 rfl rfl ?_)
  refine cj a5 [] rfl rfl rfl rfl (Do _) (by simp; omega) (by simp; omega) rfl fun q2 => ?_
  repeat' (first|refine ah ?_|refine a6 ?_|refine a7 ?_|refine a8 a5 rfl rfl ?_)
  have hra : b8 (r.In ++ r.Ahead) = [] ++ b8 r.In ++ b8 r.Ahead := by simp [b8]
  refine bB (bT (t := 2) (c' := .imm 1 (b8 (r.In ++ r.Ahead))) rfl fun σ v h => by rw [hra]; exact VR.im h) ?_
  refine dk (List.nil_sublist _) ?_
  exact aK rfl rfl rfl rfl
end Go.Proofs.YtpmdfoaadejmkaaGreatDoor
namespace Go.Proofs.YtpmdfoaadejmkaaGreatDoor
open Go.RowKit
attribute [local irreducible] AT bh AX AO Av Kt b6 di DA cC
abbrev rL (rs : List aV) (cls : List Int) : List AV := [.imm 6 (rs.map bI), .imm 1 (aT cls)]
def gQ (w : aV → List (List Int) × Bool) (rs : List aV) (n : Nat) : Bool := match rs[n]? with
 | some r => (w r).2
 | none => false
def ni (w : aV → List (List Int) × Bool) (rs : List aV) (cls : List Int) : RD := ⟨rs.map fun r => (w r).1, bG (gQ w rs) rs.length, cls, (eM cls).toNat⟩
theorem sB (l : List (List (List Int))) (r : List (List Int)) : gx l ++ [[.imm 1 (b8 r)]] = gx (l ++ [r]) := by simp [gx]
theorem sl {l : List Int} {k : Nat} {z : Int} (h : l[k]? = some z) : eM (l.take (k + 1)) = max (eM (l.take k)) (z + 1) := by
 unfold eM
 rw [List.take_add_one, h]
 simp
set_option maxHeartbeats 8000000 in
theorem mI (w : aV → List (List Int) × Bool) (u : AV) (rs : List aV) (hrs : rs.length ≤ 6) (hw : ∀ r ∈ rs, gD Tryz.prog u [.agg (bI r)] [] fun c _ => c = .tup [.imm 1 (b8 (w r).1), dx (w r).2]) (cls : List Int) (hcl : ∀ z ∈ cls, 0 ≤ z ∧ z ≤ 1000000) (hcl2 : cls.length ≤ 1000000) : AC Tryz.prog 183 [.agg (rL rs cls), u] [] fun c L => ∃ rb, c = ek rb ∧ L = dA (ni w rs cls) rb 0 none := by
 refine aC Tryz.func183 rfl Tryz.ntmps183 rfl fun B => ?_
 have hrl : (rs.map bI).length = rs.length := Du ..
 have hil := aW cls
 repeat' (first|refine a9 ?_|refine a4 ?_|refine ak ?_|refine a6 ?_|refine a7 ?_|refine a8 a5 rfl rfl ?_|refine x1 (d := 15) fun _=>?_|refine aZ ?_|fail)
 rename_i rb
 refine cY (e9 0 (cs' := [.vec none 1 [], gg 0, .imm 1 (aT cls), aA 0, .vec none 2 []]) rfl fun σ vs h => nU.vrs (a := [.sc (.slice none 0 0), gg 0, .imm 1 (aT cls), aA 0, .sc (.slice none 0 0)]) (b := [.vec none 1 [], gg 0, .imm 1 (aT cls), aA 0, .vec none 2 []]) ⟨fun σ v h => eF 1 h, dJ.refl _, dJ.refl _, dJ.refl _, fun σ v h => eF 2 h, trivial⟩ h) ?_
 refine aL [1, 2, 5, 17, 18] (α := Nat × Option (Nat × Nat)) (fun s => [(19, aA s.1)]) (fun s => s.1 ≤ rs.length) (fun s => (rb, .box [.vec s.2 1 (gx ((rs.take s.1).map fun r => (w r).1)), gg (bG (gQ w rs) s.1), .imm 1 (aT cls), aA 0, .vec none 2 []] 268) :: tok s.2 45 1 s.1) (fun s => rs.length - s.1) (0, none) rfl ⟨rfl, trivial⟩ (Nat.zero_le _) (fun _ _ h => h) ?_
 ·rintro ⟨n, q⟩ hn
  dsimp only at hn ⊢
  try dsimp only [Ds, Dr, Dq, Dn]
  repeat' (first|refine a9 ?_|refine a4 ?_|refine a6 ?_|refine a7 ?_|refine a8 a5 rfl rfl ?_)
  refine ar rfl (fun h1 => ?_) (fun h1 => ?_)
  ·have hn2 : n < rs.length := by have := Dz h1; omega
   obtain ⟨r, hr⟩ : ∃ z, rs[n]? = some z := ⟨_, Bn hn2⟩
   have hrg : (rs.map bI)[n]? = some (bI r) := by simp [hr]
   have hwr := hw r (Dw hr)
   have htk : ((rs.take (n + 1)).map fun r => (w r).1) = ((rs.take n).map fun r => (w r).1) ++ [(w r).1] := by rw [List.take_add_one, hr]; simp
   have hbit : bG (gQ w rs) (n + 1) = bG (gQ w rs) n ||| (if (w r).2 = true then 2 ^ n else 0) := by
    rw [bG]
    unfold gQ
    rw [hr]
   have hml : (gx ((rs.take n).map fun r => (w r).1)).length = n := by rw [oE, Du, List.length_take]; omega
   have hsn := sB ((rs.take n).map fun r => (w r).1) (w r).1
   rw [← htk] at hsn
   have hb1 := kQ (p := gQ w rs) (n := n) (by omega)
   have hb2 := zO (n := n) (by omega)
   have hub := tT n (by omega)
   generalize gx ((rs.take n).map fun r => (w r).1) = l3 at *
   clear h1
   repeat' (first|refine a9 ?_|refine a4 ?_|refine ak ?_|refine ai ?_|refine a6 ?_|refine a7 ?_|refine a8 a5 rfl rfl ?_|(apply aF; first|refine aE a5 ?_|refine aB a5 ?_)|(apply aP; first|refine aa 7 a5 0 rfl rfl rfl rfl rfl rfl rfl rfl ?_|refine aa 7 a5 1 rfl rfl rfl rfl rfl rfl rfl rfl ?_|refine aa 7 a5 2 rfl rfl rfl rfl rfl rfl rfl rfl ?_|refine ad a5 0 rfl rfl rfl rfl rfl rfl rfl ?_|refine ad a5 1 rfl rfl rfl rfl rfl rfl rfl ?_|refine ad a5 2 rfl rfl rfl rfl rfl rfl rfl ?_|refine ad a5 3 rfl rfl rfl rfl rfl rfl rfl ?_|fail)|refine b4 a5 fun _=>?_|fail)
   refine fW [] ((rb, .box [.vec q 1 l3, gg (bG (gQ w rs) n), .imm 1 (aT cls), aA 0, .vec none 2 []] 268) :: tok q 45 1 n) hwr rfl rfl (Do _) rfl rfl fun c L1 hc => ?_
   subst hc
   refine aR (cf (List.sublist_append_right ..)) ?_
   repeat' (first|refine a9 ?_|refine a4 ?_|refine a6 ?_|refine a7 ?_|refine a8 a5 rfl rfl ?_|(apply bE; first|refine aj a5 0 rfl rfl rfl rfl rfl ?_|refine aj a5 1 rfl rfl rfl rfl rfl ?_|refine aj a5 2 rfl rfl rfl rfl rfl ?_|refine aj a5 3 rfl rfl rfl rfl rfl ?_|refine ay a5 0 rfl rfl rfl rfl rfl ?_|refine ay a5 1 rfl rfl rfl rfl rfl ?_|refine ay a5 2 rfl rfl rfl rfl rfl ?_|refine aj a5 1 rfl rfl rfl (by assumption) rfl ?_|refine aj a5 0 rfl rfl rfl (by assumption) rfl ?_|fail)|refine ce a5 ?_|fail)
   refine cj a5 [(rb, .box [.vec q 1 l3, gg (bG (gQ w rs) n), .imm 1 (aT cls), aA 0, .vec none 2 []] 268)] rfl rfl rfl rfl (by rw [hml]; exact List.perm_append_comm (l₁ := [_])) (by rw [hml]; simp; omega) (by rw [hml]; simp; omega) rfl fun q' => ?_
   refine aR (aY (L' := (rb, .box [.vec q 1 l3, gg (bG (gQ w rs) n), .imm 1 (aT cls), aA 0, .vec none 2 []] 268) :: tok q' 45 1 (n + 1)) (by rw [List.length_append, hml]; exact List.perm_append_comm (l₂ := [_]))) ?_
   repeat' (first|refine a9 ?_|refine a4 ?_|refine a6 ?_|refine a7 ?_|refine a8 a5 rfl rfl ?_|(apply aP; first|refine aa 7 a5 0 rfl rfl rfl rfl rfl rfl rfl rfl ?_|refine aa 7 a5 1 rfl rfl rfl rfl rfl rfl rfl rfl ?_|refine aa 7 a5 2 rfl rfl rfl rfl rfl rfl rfl rfl ?_|refine ad a5 0 rfl rfl rfl rfl rfl rfl rfl ?_|refine ad a5 1 rfl rfl rfl rfl rfl rfl rfl ?_|refine ad a5 2 rfl rfl rfl rfl rfl rfl rfl ?_|refine ad a5 3 rfl rfl rfl rfl rfl rfl rfl ?_|fail))
   refine ar rfl (fun h1 => ?_) (fun h1 => ?_)
   ·rw [if_pos h1] at hbit
    repeat' (first|fail)
    refine bk 6 [(0, .v), (1, .v), (2, .v), (3, .l), (4, .v), (5, .v)] none ?_ trivial rfl (by kernel_rfl) (by kernel_rfl) (by kernel_rfl) c9 (by kernel_rfl) rfl
    repeat' (first|refine aD ?_|refine bi a5 ?_|refine bX a5 0 rfl rfl rfl rfl (by first|trivial|rfl) ?_)
    refine rT n rfl rfl rfl trivial ?_
    repeat' (first|fail)
    refine bz [1, 2, 5, 17, 18, 19, 41, 44, 46] rfl rfl ?_
    refine pk rfl rfl rfl ?_
    rw [hub, u64_or_nat _ _ hb1 hb2, ← hbit]
    repeat' (first|refine a4 ?_|refine a6 ?_|refine aH ?_|refine a7 ?_|refine a8 a5 rfl rfl ?_|(apply aU; refine aS ?_)|(apply aP; first|refine aa 7 a5 0 rfl rfl rfl rfl rfl rfl rfl rfl ?_|refine aa 7 a5 1 rfl rfl rfl rfl rfl rfl rfl rfl ?_|refine aa 7 a5 2 rfl rfl rfl rfl rfl rfl rfl rfl ?_|refine ad a5 0 rfl rfl rfl rfl rfl rfl rfl ?_|refine ad a5 1 rfl rfl rfl rfl rfl rfl rfl ?_|refine ad a5 2 rfl rfl rfl rfl rfl rfl rfl ?_|refine ad a5 3 rfl rfl rfl rfl rfl rfl rfl ?_|fail))
    exact az (n + 1, q') rfl ⟨by rw [Dv]; rfl, trivial⟩ hn2 (by dsimp only; omega) (fun _ _ h => by dsimp only; rw [← hsn]; exact h)
   ·rw [if_neg (by rw [h1]; decide), Nat.or_zero] at hbit
    repeat' (first|refine a4 ?_|refine ai ?_|refine a6 ?_|refine aH ?_|refine a7 ?_|refine a8 a5 rfl rfl ?_|(apply aU; refine aS ?_)|fail)
    exact az (n + 1, q') rfl ⟨by rw [Dv]; rfl, trivial⟩ hn2 (by dsimp only; omega) (fun _ _ h => by dsimp only; rw [← hsn, hbit]; exact h)
  ·have hn2 : n = rs.length := by have := Dy h1; omega
   subst hn2
   rw [List.take_length]
   clear h1
   repeat' (first|refine a9 ?_|refine a4 ?_|refine ak ?_|refine aM ?_|refine a6 ?_|refine au ?_|refine aw ?_|refine av ?_|refine a7 ?_|refine a8 a5 rfl rfl ?_)
   refine aL [5, 52, 53] (α := Nat) (fun k => [(54, aA k)]) (fun k => k ≤ cls.length) (fun k => (rb, .box [.vec q 1 (gx (rs.map fun r => (w r).1)), gg (bG (gQ w rs) rs.length), .imm 1 (aT cls), aA (eM (cls.take k)), .vec none 2 []] 268) :: tok q 45 1 rs.length) (fun k => cls.length - k) 0 rfl ⟨rfl, trivial⟩ (Nat.zero_le _) (fun _ _ h => h) fun k hk => ?_
   try dsimp only [Ds, Dr, Dq, Dn]
   repeat' (first|refine a9 ?_|refine a4 ?_|refine a6 ?_|refine a7 ?_|refine a8 a5 rfl rfl ?_)
   refine ar rfl (fun h1 => ?_) (fun h1 => ?_)
   ·have hk2 : k < cls.length := by have := Dz h1; omega
    obtain ⟨z, hz⟩ : ∃ z, cls[k]? = some z := ⟨_, Bn hk2⟩
    have hzg := bJ hz
    have hzb := hcl z (Dw hz)
    have hmc := sl hz
    clear h1
    repeat' (first|refine a9 ?_|refine a4 ?_|refine ak ?_|refine ai ?_|refine a6 ?_|refine aH ?_|refine a7 ?_|refine a8 a5 rfl rfl ?_|(apply bE; first|refine aj a5 0 rfl rfl rfl rfl rfl ?_|refine aj a5 1 rfl rfl rfl rfl rfl ?_|refine aj a5 2 rfl rfl rfl rfl rfl ?_|refine aj a5 3 rfl rfl rfl rfl rfl ?_|refine ay a5 0 rfl rfl rfl rfl rfl ?_|refine ay a5 1 rfl rfl rfl rfl rfl ?_|refine ay a5 2 rfl rfl rfl rfl rfl ?_|refine aj a5 1 rfl rfl rfl (by assumption) rfl ?_|refine aj a5 0 rfl rfl rfl (by assumption) rfl ?_|fail)|(apply aU; refine aS ?_)|(apply aF; first|refine aE a5 ?_|refine aB a5 ?_)|(apply aP; first|refine aa 7 a5 0 rfl rfl rfl rfl rfl rfl rfl rfl ?_|refine aa 7 a5 1 rfl rfl rfl rfl rfl rfl rfl rfl ?_|refine aa 7 a5 2 rfl rfl rfl rfl rfl rfl rfl rfl ?_|refine ad a5 0 rfl rfl rfl rfl rfl rfl rfl ?_|refine ad a5 1 rfl rfl rfl rfl rfl rfl rfl ?_|refine ad a5 2 rfl rfl rfl rfl rfl rfl rfl ?_|refine ad a5 3 rfl rfl rfl rfl rfl rfl rfl ?_|fail))
    exact az (k + 1) rfl ⟨by rw [Dv]; rfl, trivial⟩ hk2 (by omega) (fun _ _ h => by rw [hmc]; exact h)
   ·have hk2 : k = cls.length := by have := Dy h1; omega
    subst hk2
    rw [List.take_length]
    clear h1
    repeat' (first|refine a9 ?_|refine a4 ?_|refine ah ?_|refine aM ?_|refine a6 ?_|refine au ?_|refine aw ?_|refine av ?_|refine a7 ?_|refine a8 a5 rfl rfl ?_)
    have hC : (eM cls) = (((eM cls).toNat : Nat) : Int) := by have := (n3 (l := cls) (m := 0)).1; unfold eM; omega
    refine bB (e9 0 (cs' := ye (ni w rs cls) (.vec none 2 (uH (ni w rs cls) 0))) rfl fun σ vs h => nU.vrs (a := [.vec q 1 (gx (rs.map fun r => (w r).1)), gg (bG (gQ w rs) rs.length), .imm 1 (aT cls), aA (eM cls), .vec none 2 []]) (b := ye (ni w rs cls) (.vec none 2 (uH (ni w rs cls) 0))) ⟨fun σ v h => VR.im h, dJ.refl _, dJ.refl _, by unfold ni; dsimp only; rw [← hC]; exact dJ.refl _, dJ.refl _, trivial⟩ h) ?_
    refine dk (L' := dA (ni w rs cls) rb 0 none) (List.sublist_append_left [_] _) ?_
    exact an rfl rfl ⟨rb, rfl, rfl⟩
def lI (r : aV) : List (List Int) × Bool := (cM r, !r.In.isEmpty)
def mB (r : aV) : List (List Int) × Bool := (r.Back, true)
structure vw (rs : List aV) (cls : List Int) : Prop where
 few : rs.length ≤ 6
 dom : ∀ z ∈ cls, 0 ≤ z ∧ z ≤ 1000000
 len : cls.length ≤ 1000000
 rows : ∀ r ∈ rs, r.In.length ≤ 1000000 ∧ r.Ahead.length ≤ 1000000
theorem wC {rs : List aV} {cls : List Int} (h : vw rs cls) : AC Tryz.prog 100 [.agg (rL rs cls)] [] fun c L => ∃ rb, c = ek rb ∧ L = dA (ni lI rs cls) rb 0 none := by
 refine aC Tryz.func100 rfl Tryz.ntmps100 rfl fun B => ?_
 have hc := mI lI (.sc (.func (.func 184) #[] #[])) rs h.few (fun r hr => gD.fn0 (f := 184) (by rw [List.append_nil]; exact uy r (h.rows r hr).1 (h.rows r hr).2)) cls h.dom h.len
 repeat' (first|refine a9 ?_|refine a4 ?_|refine a6 ?_|refine a7 ?_|refine a8 a5 rfl rfl ?_|refine aZ ?_|fail)
 refine aO [] [] hc rfl rfl (Do _) rfl fun c L1 ⟨rb, hc1, hL⟩ => ?_
 subst hc1; subst hL
 repeat' (first|refine ah ?_|refine a6 ?_|refine a7 ?_|refine a8 a5 rfl rfl ?_)
 exact an rfl rfl ⟨rb, rfl, by rw [List.append_nil]⟩
theorem w1 {rs : List aV} {cls : List Int} (h : vw rs cls) : AC Tryz.prog 101 [.agg (rL rs cls)] [] fun c L => ∃ rb, c = ek rb ∧ L = dA (ni mB rs cls) rb 0 none := by
 refine aC Tryz.func101 rfl Tryz.ntmps101 rfl fun B => ?_
 have hc := mI mB (.sc (.func (.func 185) #[] #[])) rs h.few (fun r _ => gD.fn0 (f := 185) (by rw [List.append_nil]; exact ua r)) cls h.dom h.len
 repeat' (first|refine a9 ?_|refine a4 ?_|refine a6 ?_|refine a7 ?_|refine a8 a5 rfl rfl ?_|refine aZ ?_|fail)
 refine aO [] [] hc rfl rfl (Do _) rfl fun c L1 ⟨rb, hc1, hL⟩ => ?_
 subst hc1; subst hL
 repeat' (first|refine ah ?_|refine a6 ?_|refine a7 ?_|refine a8 a5 rfl rfl ?_)
 exact an rfl rfl ⟨rb, rfl, by rw [List.append_nil]⟩
structure SS where
 M : List Pl
 q : Option (Nat × Nat)
 k : Nat
 qr : Option (Nat × Nat)
abbrev l8 (R : RD) (nb kb mb rb : Nat) (s : SS) (X : AL) : AL := (nb, .box [.sc (.map (some kb))] 129) :: (kb, cg .string (pN s.M)) :: (mb, .box [.vec s.q 2 (s.M.map js)] 259) :: nk R rb s.k s.qr :: (tok s.q 261 2 s.M.length ++ (tok s.qr 330 2 s.k ++ X))
theorem p7 {R : RD} {nb kb mb rb : Nat} {s : SS} {X : AL} : (l8 R nb kb mb rb s X).Perm (pi nb kb mb s.M s.q ++ (nk R rb s.k s.qr :: (tok s.qr 330 2 s.k ++ X))) := by
 unfold pi
 refine List.Perm.cons _ (List.Perm.cons _ (List.Perm.cons _ ?_))
 exact (List.perm_middle (l₁ := tok s.q 261 2 s.M.length)).symm
theorem k7 {R : RD} {nb kb mb rb : Nat} {s : SS} {X : AL} : (l8 R nb kb mb rb s X).Perm (dA R rb s.k s.qr ++ ((nb, .box [.sc (.map (some kb))] 129) :: (kb, cg .string (pN s.M)) :: (mb, .box [.vec s.q 2 (s.M.map js)] 259) :: (tok s.q 261 2 s.M.length ++ X))) := by
 have h1 : (l8 R nb kb mb rb s X).Perm (nk R rb s.k s.qr :: ([(nb, .box [.sc (.map (some kb))] 129), (kb, cg .string (pN s.M)), (mb, .box [.vec s.q 2 (s.M.map js)] 259)] ++ (tok s.q 261 2 s.M.length ++ (tok s.qr 330 2 s.k ++ X)))) := List.perm_middle (l₁ := [_, _, _])
 refine h1.trans (List.Perm.cons _ ?_)
 rw [← List.append_assoc]
 refine (List.perm_append_comm_assoc _ (tok s.qr 330 2 s.k) X).trans ?_
 rw [List.append_assoc]
 exact Do _
theorem qF {R : RD} {nb kb mb rb : Nat} {s : SS} {X : AL} {a : Nat × AB} : (a :: l8 R nb kb mb rb s X).Perm (pi nb kb mb s.M s.q ++ (a :: nk R rb s.k s.qr :: (tok s.qr 330 2 s.k ++ X))) := (List.Perm.cons a p7).trans List.perm_middle.symm
theorem qG {R : RD} {nb kb mb rb : Nat} {s : SS} {X : AL} {a : Nat × AB} : (a :: l8 R nb kb mb rb s X).Perm (dA R rb s.k s.qr ++ (a :: (nb, .box [.sc (.map (some kb))] 129) :: (kb, cg .string (pN s.M)) :: (mb, .box [.vec s.q 2 (s.M.map js)] 259) :: (tok s.q 261 2 s.M.length ++ X))) := (List.Perm.cons a k7).trans List.perm_middle.symm
theorem CI {a b c : Nat × AB} {X : AL} : (a :: b :: c :: X).Perm (b :: c :: a :: X) := (List.Perm.swap b a _).trans (.cons b (List.Perm.swap c a _))
theorem CL {A T1 T2 T R : AL} : (A ++ (T1 ++ (T2 ++ (T ++ R)))).Perm (T ++ (A ++ (T1 ++ (T2 ++ R)))) := by
 rw [← List.append_assoc T1, ← List.append_assoc A, ← List.append_assoc T1 T2 R, ← List.append_assoc A (T1 ++ T2) R]
 exact List.perm_append_comm_assoc ..
theorem CM {A T1 T2 T3 T4 : AL} : (A ++ (T1 ++ (T2 ++ (T3 ++ T4)))).Perm (T4 ++ (A ++ (T1 ++ (T2 ++ T3)))) := by
 rw [← List.append_assoc T2, ← List.append_assoc T1, ← List.append_assoc A]
 exact List.perm_append_comm
abbrev BW (R : RD) (nb kb mb rb : Nat) (s : SS) : AL := [(nb, .box [.sc (.map (some kb))] 129), (kb, cg .string (pN s.M)), (mb, .box [.vec s.q 2 (s.M.map js)] 259), nk R rb s.k s.qr]
theorem tp {R : RD} {nb kb mb rb : Nat} {s : SS} {T X : AL} : (l8 R nb kb mb rb s (T ++ X)).Perm (T ++ l8 R nb kb mb rb s X) := CL (A := BW R nb kb mb rb s)
theorem to {R : RD} {nb kb mb rb : Nat} {s : SS} {T X : AL} : (l8 R nb kb mb rb s (T ++ X)).Perm (X ++ l8 R nb kb mb rb s T) := CM (A := BW R nb kb mb rb s)
structure CV where
 s : SS
 tab : List (List Int)
 qt : Option (Nat × Nat)
 ends : List Nat
 qe : Option (Nat × Nat)
abbrev Di (t : CV) : AL := tok t.qt 22 1 t.tab.length ++ tok t.qe 246 1 t.ends.length
theorem lO {M : List Pl} {n : Nat} {p : Pl} (h : M[n]? = some p) : (M.map js)[n]? = some (js p) := by simp [h]
structure vx (R : RD) (hv : Nat → Bool) (Lb : Nat) : Prop where
 ok : vt R
 has : R.have_ = bG hv R.rows.length
 long : ∀ r ∈ R.rows, r.length ≤ Lb
 few : Lb ≤ 200
theorem vx.small {R : RD} {hv : Nat → Bool} {Lb : Nat} (h : vx R hv Lb) {M : List Pl} (hs : ge R.rows hv Lb M) : (∀ x ∈ M, ij x) ∧ M.length ≤ 20000 := by
 have hf := h.few
 have hr := h.ok.few
 have h64 : 2 ^ R.rows.length ≤ 64 := Nat.pow_le_pow_right (n := 2) (by omega) hr
 constructor
 ·intro x hx
  obtain ⟨h1, h2⟩ := hs.small x hx
  exact ⟨by omega, by omega⟩
 ·have := hs.few
  have h3 : (Lb + 1) * 2 ^ R.rows.length ≤ 201 * 64 := Nat.mul_le_mul (by omega) h64
  omega
set_option maxHeartbeats 16000000 in
theorem oI (R : RD) (hv : Nat → Bool) (Lb : Nat) (h : vx R hv Lb) (u : AV) (hu : gD Tryz.prog u [] [] fun c L => ∃ rb, c = ek rb ∧ L = dA R rb 0 none) : AC Tryz.prog 99 [u] [] fun c _ => ∃ tab ends, nT R.cls R.rows hv R.C tab ends ∧ c = .tup [.imm 1 (b8 tab), .imm 1 (eJ ends), dx true] := by
 refine aC Tryz.func99 rfl Tryz.ntmps99 rfl fun B => ?_
 repeat' (first|refine a9 ?_|refine a4 ?_|refine a6 ?_|refine a7 ?_|refine a8 a5 rfl rfl ?_)
 refine fW [] [] hu rfl rfl (Do _) rfl rfl fun c L1 ⟨rb, hc, hL⟩ => ?_
 subst hc; subst hL
 repeat' (first|refine a9 ?_|refine a4 ?_|refine a6 ?_|refine a7 ?_|refine a8 a5 rfl rfl ?_)
 refine eg .string fun kb => ?_
 repeat' (first|refine a9 ?_|refine a4 ?_|refine a6 ?_|refine a7 ?_|refine a8 a5 rfl rfl ?_|(apply aP; first|refine aa 12 a5 0 rfl rfl rfl rfl rfl rfl rfl rfl ?_|refine aa 12 a5 1 rfl rfl rfl rfl rfl rfl rfl rfl ?_|refine aa 12 a5 2 rfl rfl rfl rfl rfl rfl rfl rfl ?_|refine ad a5 0 rfl rfl rfl rfl rfl rfl rfl ?_|refine ad a5 1 rfl rfl rfl rfl rfl rfl rfl ?_|refine ad a5 2 rfl rfl rfl rfl rfl rfl rfl ?_|refine ad a5 3 rfl rfl rfl rfl rfl rfl rfl ?_|fail)|refine b4 a5 fun _=>?_|fail)
 rename_i nb mb
 have hok := h.ok
 obtain ⟨hCm, hNm⟩ := hok.many
 refine aR (e9 0 (cs' := [.vec none 2 []]) rfl fun σ vs hh => nU.vrs (a := [.sc (.slice none 0 0)]) (b := [.vec none 2 []]) ⟨fun σ v h => eF 2 h, trivial⟩ hh) ?_
 refine aR (aY (L' := l8 R nb kb mb rb ⟨[], none, 0, none⟩ []) (by unfold l8; rw [zq]; exact CI)) ?_
 refine aO (dA R rb 0 none) _ (uY R rb 0 none (by omega)) rfl rfl k7 rfl fun c L1 ⟨hc, k0, qr0, hk0, hL⟩ => ?_
 subst hc; subst hL
 refine aR (aY (L' := l8 R nb kb mb rb ⟨[], none, k0, qr0⟩ []) (k7 (s := ⟨[], none, k0, qr0⟩)).symm) ?_
 have hst0 : ge R.rows hv Lb [((0, R.have_) : Pl)] := by
  have := ge.start (rows := R.rows) (have_ := hv) (L := Lb)
  unfold jw at this
  rwa [← h.has] at this
 have hsm0 := (h.small hst0).1 (0, R.have_) (by simp)
 have hme0 := tx nb kb mb [] (fun x hx => by cases hx) (by simp) none (0, R.have_) hsm0
 repeat' (first|fail)
 refine fW (pi nb kb mb [] none) _ (gD.fn (f := 178) (caps := [ek nb, ek mb]) hme0) rfl rfl p7 rfl rfl fun c L1 ⟨hc, q0, hL⟩ => ?_
 subst hc; subst hL
 refine aR (aY (L' := l8 R nb kb mb rb ⟨[(0, R.have_)], q0, k0, qr0⟩ []) (p7 (s := ⟨[(0, R.have_)], q0, k0, qr0⟩)).symm) ?_
 repeat' (first|refine a9 ?_|refine a4 ?_|refine ak ?_|refine a6 ?_|refine a7 ?_|refine a8 a5 rfl rfl ?_)
 refine cY (bT (t := 2) (c' := .vec none 1 (b8 [])) rfl fun σ v h => eF 1 h) ?_
 refine cY (bT (t := 3) (c' := .vec none 1 (eJ [])) rfl fun σ v h => eF 1 h) ?_
 refine aL [5, 7, 8] (α := CV) (fun t => [(9, aA t.tab.length), (2, .vec t.qt 1 (b8 t.tab)), (3, .vec t.qe 1 (eJ t.ends))]) (fun t => ge R.rows hv Lb t.s.M ∧ eO R.cls R.rows R.C t.s.M t.tab t.ends ∧ t.tab.length ≤ t.s.M.length ∧ t.s.k ≤ 1000001) (fun t => l8 R nb kb mb rb t.s (Di t)) (fun t => 20000 - t.tab.length) ⟨⟨[(0, R.have_)], q0, k0, qr0⟩, [], none, [], none⟩ rfl ⟨rfl, rfl, rfl, trivial⟩ ⟨hst0, eO.nil, Nat.zero_le _, hk0⟩ (fun _ _ hh => hh) ?_
 rintro ⟨⟨M, q, k, qr⟩, tab, qt, ends, qe⟩ ⟨hst, htb, htl, hk⟩
 dsimp only at hst htb htl hk ⊢
 try dsimp only [Ds, Dr, Dq, Dn]
 have hml : (M.map js).length = M.length := Du ..
 obtain ⟨hsm, hM2⟩ := h.small hst
 repeat' (first|refine a9 ?_|refine a4 ?_|refine a6 ?_|refine a7 ?_|refine a8 a5 rfl rfl ?_|(apply bE; first|refine aj a5 0 rfl rfl rfl rfl rfl ?_|refine aj a5 1 rfl rfl rfl rfl rfl ?_|refine aj a5 2 rfl rfl rfl rfl rfl ?_|refine aj a5 3 rfl rfl rfl rfl rfl ?_|refine ay a5 0 rfl rfl rfl rfl rfl ?_|refine ay a5 1 rfl rfl rfl rfl rfl ?_|refine ay a5 2 rfl rfl rfl rfl rfl ?_|refine aj a5 1 rfl rfl rfl (by assumption) rfl ?_|refine aj a5 0 rfl rfl rfl (by assumption) rfl ?_|fail)|fail)
 refine ar rfl (fun h1 => ?_) (fun h1 => ?_)
 ·have hn2 : tab.length < M.length := by have h1' : (tab.length : Int) < ((M.map js).length : Int) := Dz h1; omega
  obtain ⟨p, hp⟩ : ∃ p, M[tab.length]? = some p := ⟨_, Bn hn2⟩
  clear h1
  repeat' (first|refine a9 ?_|refine a4 ?_|refine ak ?_|refine ai ?_|refine a6 ?_|refine a8 a5 rfl rfl ?_|(apply bE; first|refine aj a5 0 rfl rfl rfl rfl rfl ?_|refine aj a5 1 rfl rfl rfl rfl rfl ?_|refine aj a5 2 rfl rfl rfl rfl rfl ?_|refine aj a5 3 rfl rfl rfl rfl rfl ?_|refine ay a5 0 rfl rfl rfl rfl rfl ?_|refine ay a5 1 rfl rfl rfl rfl rfl ?_|refine ay a5 2 rfl rfl rfl rfl rfl ?_|refine aj a5 1 rfl rfl rfl (by assumption) rfl ?_|refine aj a5 0 rfl rfl rfl (by assumption) rfl ?_|fail)|fail)
  refine iE a5 R.C rfl rfl rfl rfl rfl rfl rfl (by omega) (by omega) rfl fun rwb => ?_
  rw [show (List.replicate R.C (List.map AV.sc [Value.int .i64 0])).flatten = cJ (List.replicate R.C 0) from lB R.C]
  repeat' (first|refine a9 ?_|refine a4 ?_|refine ak ?_|refine a6 ?_|refine a7 ?_|refine a8 a5 rfl rfl ?_)
  refine aL [2, 3, 5, 7, 8, 9, 10, 33] (α := Nat × SS × List Int) (fun t => [(34, aA t.1)]) (fun t => t.1 ≤ R.C ∧ ge R.rows hv Lb t.2.1.M ∧ eO R.cls R.rows R.C t.2.1.M tab ends ∧ t.2.1.M[tab.length]? = some p ∧ t.2.2.length = R.C ∧ t.2.1.k ≤ 1000001 ∧ ∀ (c : Nat) z, c < t.1 → t.2.2[c]? = some z → fY R.cls R.rows t.2.1.M p c z) (fun t => (rwb, .box (cJ t.2.2) 3) :: l8 R nb kb mb rb t.2.1 (tok qt 22 1 tab.length ++ tok qe 246 1 ends.length)) (fun t => R.C - t.1) (0, ⟨M, q, k, qr⟩, List.replicate R.C 0) rfl ⟨rfl, trivial⟩ ⟨Nat.zero_le _, hst, htb, hp, by simp, hk, fun c z hc => by omega⟩ (fun _ _ hh => hh) ?_
  ·rintro ⟨c, ⟨M1, q1, k1, qr1⟩, dr⟩ ⟨hc, hst1, htb1, hp1, hrl, hk1, hce⟩
   dsimp only at hc hst1 htb1 hp1 hrl hk1 hce ⊢
   try dsimp only [Ds, Dr, Dq, Dn]
   have hcl := fA dr
   obtain ⟨hsm1, hM1⟩ := h.small hst1
   repeat' (first|refine a9 ?_|refine a4 ?_|refine a6 ?_|refine a7 ?_|refine a8 a5 rfl rfl ?_)
   refine ar rfl (fun h1 => ?_) (fun h1 => ?_)
   ·have hc2 : c < R.C := by have := Dz h1; omega
    have hpg := lO hp1
    have hps := hst1.small p (Dw hp1)
    have hps2 := hsm1 p (Dw hp1)
    have hbe := ub R hok rb k1 qr1 hk1 p (by have := hps2.1; omega) (by have := hps2.2; omega) c hc2
    have hst' := fB (l := dr) (i := c) (z := -1)
    clear h1
    repeat' (first|refine a9 ?_|refine a4 ?_|refine ak ?_|refine ai ?_|refine a6 ?_|refine a7 ?_|refine a8 a5 rfl rfl ?_|(apply aF; first|refine aE a5 ?_|refine aB a5 ?_)|fail)
    refine ad a5 0 rfl rfl rfl rfl rfl rfl (Nat.ble_eq_true_of_le (by rw [hcl, hrl, Int.toNat_natCast]; show 0 + c * 1 + 1 ≤ _; omega)) ?_
    rw [hst']
    refine a7 ?_
    refine a6 ?_
    refine cY (aY (L' := (rwb, .box (cJ (dr.set c (-1))) 3) :: l8 R nb kb mb rb ⟨M1, q1, k1, qr1⟩ (tok qt 22 1 tab.length ++ tok qe 246 1 ends.length)) (Do _)) ?_
    repeat' (first|refine a9 ?_|refine a4 ?_|refine a8 a5 rfl rfl ?_|(apply bE; first|refine aj a5 0 rfl rfl rfl rfl rfl ?_|refine aj a5 1 rfl rfl rfl rfl rfl ?_|refine aj a5 2 rfl rfl rfl rfl rfl ?_|refine aj a5 3 rfl rfl rfl rfl rfl ?_|refine ay a5 0 rfl rfl rfl rfl rfl ?_|refine ay a5 1 rfl rfl rfl rfl rfl ?_|refine ay a5 2 rfl rfl rfl rfl rfl ?_|refine aj a5 1 rfl rfl rfl (by assumption) rfl ?_|refine aj a5 0 rfl rfl rfl (by assumption) rfl ?_|fail)|(apply aF; first|refine aE a5 ?_|refine aB a5 ?_)|fail)
    refine aO (dA R rb k1 qr1) _ hbe rfl rfl qG rfl fun c1 L1 ⟨hc1, k2, qr2, hk2, hL⟩ => ?_
    subst hc1; subst hL
    refine aR (aY (L' := (rwb, .box (cJ (dr.set c (-1))) 3) :: l8 R nb kb mb rb ⟨M1, q1, k2, qr2⟩ (tok qt 22 1 tab.length ++ tok qe 246 1 ends.length)) (qG (s := ⟨M1, q1, k2, qr2⟩)).symm) ?_
    have hrs : (dr.set c (-1)).length = R.C := by rw [List.length_set]; exact hrl
    have hrs2 := fA (dr.set c (-1))
    repeat' (first|refine a9 ?_|refine a4 ?_|refine a6 ?_|refine a7 ?_|refine a8 a5 rfl rfl ?_|(apply aP; first|refine aa 12 a5 0 rfl rfl rfl rfl rfl rfl rfl rfl ?_|refine aa 12 a5 1 rfl rfl rfl rfl rfl rfl rfl rfl ?_|refine aa 12 a5 2 rfl rfl rfl rfl rfl rfl rfl rfl ?_|refine ad a5 0 rfl rfl rfl rfl rfl rfl rfl ?_|refine ad a5 1 rfl rfl rfl rfl rfl rfl rfl ?_|refine ad a5 2 rfl rfl rfl rfl rfl rfl rfl ?_|refine ad a5 3 rfl rfl rfl rfl rfl rfl rfl ?_|fail)|refine b4 a5 fun _=>?_|fail)
    refine ar rfl (fun h1 => ?_) (fun h1 => ?_)
    ·have hne : (br R.cls R.rows p c).2 ≠ 0 := by
      intro e
      have h1' : ((br R.cls R.rows p c).2 : Int) ≠ 0 := Dz h1
      rw [e] at h1'
      exact h1' rfl
     have hst2 := hst1.meet h.long hne
     have hsm2 := (h.small hst2).1
     have hme := tx nb kb mb M1 hsm1 (by omega) q1 (br R.cls R.rows p c) (hsm2 _ (iK _ _))
     have hput := fB (l := dr.set c (-1)) (i := c) (z := ((cV M1 (br R.cls R.rows p c)).idxOf (br R.cls R.rows p c) : Nat))
     have hcn := fY.new (M := M1) hne
     have htm := htb1.more (by have := (Dp hp1).1; omega) (br R.cls R.rows p c)
     have hpm := ky (br R.cls R.rows p c) hp1
     have hcm : ∀ (c' : Nat) z, c' < c → dr[c']? = some z → fY R.cls R.rows (cV M1 (br R.cls R.rows p c)) p c' z := fun c' z h1 h2 => (hce c' z h1 h2).more
     clear h1
     repeat' (first|refine a4 ?_|refine a8 a5 rfl rfl ?_)
     refine fW (pi nb kb mb M1 q1) _ (gD.fn (f := 178) (caps := [ek nb, ek mb]) hme) rfl rfl qF rfl rfl fun c2 L2 ⟨hc2', q2, hL⟩ => ?_
     subst hc2'; subst hL
     refine aR (aY (L' := (rwb, .box (cJ (dr.set c (-1))) 3) :: l8 R nb kb mb rb ⟨cV M1 (br R.cls R.rows p c), q2, k2, qr2⟩ (tok qt 22 1 tab.length ++ tok qe 246 1 ends.length)) (qF (s := ⟨cV M1 (br R.cls R.rows p c), q2, k2, qr2⟩)).symm) ?_
     repeat' (first|(apply aF; first|refine aE a5 ?_|refine aB a5 ?_)|fail)
     refine ad a5 0 rfl rfl rfl rfl rfl rfl (Nat.ble_eq_true_of_le (by rw [hrs2, hrs, Int.toNat_natCast]; show 0 + c * 1 + 1 ≤ _; omega)) ?_
     rw [hput]
     repeat' (first|refine a4 ?_|refine a6 ?_|refine aH ?_|refine a7 ?_|refine a8 a5 rfl rfl ?_|(apply aU; refine aS ?_)|fail)
     refine az (c + 1, ⟨cV M1 (br R.cls R.rows p c), q2, k2, qr2⟩, (dr.set c (-1)).set c ((cV M1 (br R.cls R.rows p c)).idxOf (br R.cls R.rows p c) : Nat)) rfl ⟨by rw [Dv]; rfl, trivial⟩ ⟨hc2, hst2, htm, hpm, by rw [List.length_set]; exact hrs, hk2, fun c' z h1 h2 => ?_⟩ (by dsimp only; omega) (fun _ _ hh => hh)
     by_cases he : c' = c
     ·subst he
      rw [List.getElem?_set_self (by omega)] at h2
      cases h2
      exact hcn
     ·rw [List.getElem?_set_ne (fun e => he e.symm), List.getElem?_set_ne (fun e => he e.symm)] at h2
      exact hcm c' z (by dsimp only at h1; omega) h2
    ·have he0 : (br R.cls R.rows p c).2 = 0 := by
      have h1' : ¬ ((br R.cls R.rows p c).2 : Int) ≠ 0 := Dy h1
      omega
     clear h1
     repeat' (first|refine a4 ?_|refine ai ?_|refine a6 ?_|refine aH ?_|refine a7 ?_|refine a8 a5 rfl rfl ?_|(apply aU; refine aS ?_)|fail)
     refine az (c + 1, ⟨M1, q1, k2, qr2⟩, dr.set c (-1)) rfl ⟨by rw [Dv]; rfl, trivial⟩ ⟨hc2, hst1, htb1, hp1, hrs, hk2, fun c' z h1 h2 => ?_⟩ (by dsimp only; omega) (fun _ _ hh => hh)
     by_cases he : c' = c
     ·subst he
      rw [List.getElem?_set_self (by omega)] at h2
      cases h2
      exact .inl ⟨he0, rfl⟩
     ·rw [List.getElem?_set_ne (fun e => he e.symm)] at h2
      exact hce c' z (by dsimp only at h1; omega) h2
   ·have hc2 : c = R.C := by have := Dy h1; omega
    subst hc2
    have hn3 : tab.length < M1.length := (Dp hp1).1
    have hpg := lO hp1
    have hps2 := hsm1 p (Dw hp1)
    have hml1 : (M1.map js).length = M1.length := Du ..
    have hen := yJ R hok rb k1 qr1 hk1 p (by have := hps2.1; omega) (by have := hps2.2; omega)
    have htl3 := bS tab
    have hul3 := kE ends
    have hsn := htb1.snoc hp1 hrl fun c' z h2 => hce c' z (by have := (Dp h2).1; omega) h2
    have hel := htb1.len
    clear h1
    repeat' (first|refine a9 ?_|refine a4 ?_|refine aM ?_|refine a6 ?_|refine au ?_|refine aw ?_|refine av ?_|refine a7 ?_|refine a8 a5 rfl rfl ?_|(apply bE; first|refine aj a5 0 rfl rfl rfl rfl rfl ?_|refine aj a5 1 rfl rfl rfl rfl rfl ?_|refine aj a5 2 rfl rfl rfl rfl rfl ?_|refine aj a5 3 rfl rfl rfl rfl rfl ?_|refine ay a5 0 rfl rfl rfl rfl rfl ?_|refine ay a5 1 rfl rfl rfl rfl rfl ?_|refine ay a5 2 rfl rfl rfl rfl rfl ?_|refine aj a5 1 rfl rfl rfl (by assumption) rfl ?_|refine aj a5 0 rfl rfl rfl (by assumption) rfl ?_|fail)|fail)
    refine ar rfl (fun h1 => ?_) (fun h1 => ?_)
    ·have h1' : (20000 : Int) < ((M1.map js).length : Int) := Dz h1
     omega
    clear h1
    refine cY (iL (t := 10) (sz := 1) (n := R.C) (cap := R.C) (l := aT dr) 0 rfl rfl (by rw [← lA, Nat.mul_one, List.take_of_length_le (by omega)]) (by omega) (fun e he => by unfold aT at he; obtain ⟨y, _, rfl⟩ := List.mem_map.1 he; rfl) (by rw [aW]; exact hrl) (Nat.le_refl _) (by unfold maxLen; omega)) ?_
    repeat' (first|refine a9 ?_|refine a4 ?_|refine ai ?_|refine a6 ?_|refine a8 a5 rfl rfl ?_|refine ce a5 ?_|fail)
    refine cj a5 (l8 R nb kb mb rb ⟨M1, q1, k1, qr1⟩ (tok qe 246 1 ends.length)) rfl rfl rfl rfl (by rw [htl3]; exact tp) (by rw [htl3]; simp; omega) (by rw [htl3]; simp; omega) rfl fun qt' => ?_
    have hrsn : b8 tab ++ [[AV.imm 1 (aT dr)]] = b8 (tab ++ [dr]) := by simp [b8]
    refine aR (aY (L' := l8 R nb kb mb rb ⟨M1, q1, k1, qr1⟩ (tok qt' 22 1 (b8 tab ++ [[AV.imm 1 (aT dr)]]).length ++ tok qe 246 1 ends.length)) tp.symm) ?_
    repeat' (first|refine a4 ?_|refine a6 ?_|refine a7 ?_|refine a8 a5 rfl rfl ?_|(apply bE; first|refine aj a5 0 rfl rfl rfl rfl rfl ?_|refine aj a5 1 rfl rfl rfl rfl rfl ?_|refine aj a5 2 rfl rfl rfl rfl rfl ?_|refine aj a5 3 rfl rfl rfl rfl rfl ?_|refine ay a5 0 rfl rfl rfl rfl rfl ?_|refine ay a5 1 rfl rfl rfl rfl rfl ?_|refine ay a5 2 rfl rfl rfl rfl rfl ?_|refine aj a5 1 rfl rfl rfl (by assumption) rfl ?_|refine aj a5 0 rfl rfl rfl (by assumption) rfl ?_|fail)|(apply aF; first|refine aE a5 ?_|refine aB a5 ?_)|fail)
    refine aO (dA R rb k1 qr1) _ hen rfl rfl k7 rfl fun c1 L1 ⟨hc1, k2, qr2, hk2, hL⟩ => ?_
    subst hc1; subst hL
    refine aR (aY (L' := l8 R nb kb mb rb ⟨M1, q1, k2, qr2⟩ (tok qt' 22 1 (b8 tab ++ [[AV.imm 1 (aT dr)]]).length ++ tok qe 246 1 ends.length)) (k7 (s := ⟨M1, q1, k2, qr2⟩)).symm) ?_
    repeat' (first|refine ce a5 ?_|fail)
    refine cj a5 (l8 R nb kb mb rb ⟨M1, q1, k2, qr2⟩ (tok qt' 22 1 (b8 tab ++ [[AV.imm 1 (aT dr)]]).length)) rfl rfl rfl rfl (by rw [hul3]; exact to) (by rw [hul3]; simp; omega) (by rw [hul3]; simp; omega) rfl fun qe' => ?_
    have husn : eJ ends ++ [[gg (gj R.rows p)]] = eJ (ends ++ [gj R.rows p]) := by simp [eJ]
    refine aR (aY (L' := l8 R nb kb mb rb ⟨M1, q1, k2, qr2⟩ (tok qt' 22 1 (b8 tab ++ [[AV.imm 1 (aT dr)]]).length ++ tok qe' 246 1 (eJ ends ++ [[gg (gj R.rows p)]]).length)) to.symm) ?_
    repeat' (first|refine a4 ?_|refine a6 ?_|refine aH ?_|refine a7 ?_|refine a8 a5 rfl rfl ?_|(apply aU; refine aS ?_)|fail)
    have hll : (tab ++ [dr]).length = tab.length + 1 := by simp
    refine az ⟨⟨M1, q1, k2, qr2⟩, tab ++ [dr], qt', ends ++ [gj R.rows p], qe'⟩ rfl ⟨?_, by dsimp only; rw [← hrsn]; rfl, by dsimp only; rw [← husn]; rfl, trivial⟩ ⟨hst1, hsn, by dsimp only; omega, hk2⟩ (by dsimp only; omega) (fun _ _ hh => ?_)
    ·dsimp only
     rw [hll, Dv]
     rfl
    ·dsimp only
     rw [hrsn, husn, bS, kE] at hh
     exact hh
 ·have hn2 : tab.length = M.length := by
   have h1' : ¬ (tab.length : Int) < ((M.map js).length : Int) := Dy h1
   omega
  clear h1
  repeat' (first|refine a9 ?_|refine a4 ?_|refine ah ?_|refine aM ?_|refine a6 ?_|refine au ?_|refine aw ?_|refine av ?_|refine a7 ?_|refine a8 a5 rfl rfl ?_)
  refine bB (bT (t := 2) (c' := .imm 1 (b8 tab)) rfl fun σ v h => VR.im h) ?_
  refine bB (bT (t := 3) (c' := .imm 1 (eJ ends)) rfl fun σ v h => VR.im h) ?_
  exact fi (cs := [.imm 1 (b8 tab), .imm 1 (eJ ends), dx true]) [] ⟨rfl, rfl, rfl, trivial⟩ (List.nil_sublist _) ⟨tab, ends, htb.done hst hn2, rfl⟩
end Go.Proofs.YtpmdfoaadejmkaaGreatDoor
