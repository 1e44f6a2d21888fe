/-
  The order in which runes are shown.
-/
import Derived.Test.YtamjlkdanllgjaaGreatDoorM13
import Derived.Test.YtamjlkdanllgjaaGreatDoorM16
import Derived.Test.YtamjlkdanllgjaaGreatDoorM12
import Derived.Laws.CopyRow
import Derived.Test.YtamjlkdanllgjaaGreatDoorM07
import Derived.Test.YtamjlkdanllgjaaGreatDoorM06
import Derived.Test.YtamjlkdanllgjaaGreatDoorM11
import Derived.Test.YtamjlkdanllgjaaGreatDoorM05
namespace Go.Proofs.YtamjlkdanllgjaaGreatDoor
open Go.RowKit
attribute [local irreducible] AT br AX AO Av Kt aW cZ DA cw
set_option maxRecDepth 8000
def mY (rs : List Int) : Prop := ∀ g ∈ cU rs, zP rs g ≤ 20
theorem tz (rs : List Int) (g : Nat × Nat) : zP rs g ≤ g.2 - g.1 := by unfold zP; split <;> omega
theorem vV {rs : List Int} (h : rs.length ≤ 20) : mY rs := fun g hg => by
 have := tz rs g
 have := ku (eR rs) g hg
 omega
theorem rR (rs : List Int) : zP rs (0, 0) ≤ 20 := by have := tz rs (0, 0); dsimp only at this; omega
abbrev G2 := List AV × List Nat × (Nat × Nat)
def Bp (gb sb b n : Nat) (x : G2) : AL := (sb, .box [aD x.2.2.1, aD x.2.2.2] 103) :: (gb, .box [.sc (.slice (some ⟨b, 0, none⟩) x.2.1.length n)] 22) :: [(b, .box x.1 3)]
theorem wh (o : List Nat) : cG o = (aT (o.map fun (n : Nat) => (n : Int))).flatten := by
 rw [← nX, List.map_map]
 rfl
section
variable {nt : Nat} {D : List Deferred} {fr : bJ} {B : Bs} {L : AL}
theorem BZ {t b : Nat} {e : TypeId} {o : List Nat} {cs : List AV} (i : Nat) (hl : bQ fr t = some (.sc (.slice (some ⟨b, 0, none⟩) o.length cs.length))) (hL : L[i]? = some (b, .box cs e)) (h : n3 o cs) (hm : cs.length ≤ maxLen) : jM nt D B fr L ((t, .imm 1 (aT (o.map fun (n : Nat) => (n : Int)))) :: fr) (L.eraseIdx i) := by
 refine cy i hl hL (by rw [Nat.mul_one, h.1, wh]) (by rw [Nat.mul_one]; exact h.2) (fun q hq => ?_) (by rw [bg, Hv]) h.2 hm
 obtain ⟨z, _, rfl⟩ := List.mem_map.1 hq
 rfl
end
def kA (rs : List Int) (k : Nat) : List Nat × (Nat × Nat) := ((cU rs).take k).foldl (my rs) ([], (0, 0))
theorem nG {rs : List Int} {k : Nat} {g : Nat × Nat} (h : (cU rs)[k]? = some g) : kA rs (k + 1) = my rs (kA rs k) g := by
 unfold kA
 rw [List.take_add_one, h, List.foldl_append]
 rfl
theorem vN (rs : List Int) : kA rs (cU rs).length = (cU rs).foldl (my rs) ([], (0, 0)) := by unfold kA; rw [List.take_length]
theorem lA {rs : List Int} : ∀ k, k ≤ (cU rs).length → ∃ a, a ≤ rs.length ∧ qW rs.length a (kA rs k) ∧ Cw a ((cU rs).drop k) rs.length
 | 0, _ => ⟨0, Nat.zero_le _, ⟨Nat.le_refl _, rfl, (fun x hx => by cases hx), Nat.zero_le _⟩, by rw [List.drop_zero]; exact eR rs⟩
 | k + 1, h => by
  obtain ⟨a, h1, h2, h3⟩ := lA (rs := rs) k (by omega)
  have hk : k < (cU rs).length := by omega
  have hg : (cU rs)[k]? = some (cU rs)[k] := Eg hk
  rw [List.drop_eq_getElem_cons hk] at h3
  obtain ⟨k1, k2, k3⟩ := h3
  have hm := ku (eR rs) _ (List.getElem_mem hk)
  exact ⟨_, hm.2.2, by rw [nG hg]; exact v6 h2 k1 k2 hm.2.2, k3⟩
set_option maxHeartbeats 8000000 in
theorem wk (rs : List Int) (hr : rs.length ≤ 1000000) (h20 : mY rs) : bw Tryz.prog 20 [.imm 1 (aT rs)] (.imm 1 (aT ((dw rs).map fun (n : Nat) => (n : Int)))) := by
 refine n5 Tryz.func20 rfl Tryz.ntmps20 rfl fun B => ?_
 have hil := bg rs
 repeat' (first|refine ae ?_|refine a6 ?_|refine a8 ?_|refine aa ?_|refine ah a7 rfl rfl ?_|refine b9 ?_|fail)
 refine rU a7 rs.length rfl rfl rfl rfl rfl (by rw [hil]) (by omega) (by omega) rfl fun b0 => ?_
 repeat' (first|refine ae ?_|refine a6 ?_|refine ar ?_|refine a8 ?_|refine aa ?_|refine ah a7 rfl rfl ?_|(apply aQ; first|refine ai 5 a7 0 rfl rfl rfl rfl rfl rfl rfl rfl ?_|refine ai 5 a7 1 rfl rfl rfl rfl rfl rfl rfl rfl ?_|refine ai 5 a7 2 rfl rfl rfl rfl rfl rfl rfl rfl ?_|refine aj a7 0 rfl rfl rfl rfl rfl rfl rfl ?_|refine aj a7 1 rfl rfl rfl rfl rfl rfl rfl ?_|refine aj a7 2 rfl rfl rfl rfl rfl rfl rfl ?_|refine aj a7 3 rfl rfl rfl rfl rfl rfl rfl ?_|fail)|refine aY a7 fun _=>?_|(apply bc;refine aX ?_)|fail)
 rename_i gb sb
 have hz : (List.replicate rs.length (([Value.int .i64 0] : List Value).map AV.sc)).flatten.length = rs.length := by simp
 refine kl (fr' := [(12, .fn 64 [.iptr [.imm 1 (aT rs)]]), (1, .iptr [.imm 1 (aT rs)]), (3, .sc (.pointer (some ⟨gb, 0, none⟩))), (4, .sc (.pointer (some ⟨sb, 0, none⟩)))]) (L' := Bp gb sb b0 rs.length ((List.replicate rs.length (([Value.int .i64 0] : List Value).map AV.sc)).flatten, [], (0, 0))) ⟨rfl, rfl, rfl, rfl, trivial⟩ (fun _ _ h => h) ?_
 refine nf (ps := [13]) rfl fun σ0 l db rec hrec => ?_
 have hy : ∀ (k : Nat) (x : G2) (g : Nat × Nat), (x.2 = kA rs k ∧ n3 x.2.1 x.1 ∧ x.1.length = rs.length ∧ zP rs x.2.2 ≤ 20) → (cU rs)[k]? = some g → AY Tryz.prog σ0 l [.agg [aD g.1, aD g.2]] (Bp gb sb b0 rs.length x ++ [(db, lu)] ++ [(l, iE rec)]) fun c L => c = ce true ∧ ∃ x' : G2, (x'.2 = kA rs (k + 1) ∧ n3 x'.2.1 x'.1 ∧ x'.1.length = rs.length ∧ zP rs x'.2.2 ≤ 20) ∧ L = Bp gb sb b0 rs.length x' ++ [(db, lu)] ++ [(l, iE rec)] := by
  rintro k ⟨cs, o, s⟩ g ⟨hf, hP, hcl, hm⟩ hk
  dsimp only at hf hP hcl hm ⊢
  have hgm := Hx hk
  obtain ⟨-, hg1, hg2⟩ := ku (eR rs) g hgm
  have hkl := (Hq hk).1
  obtain ⟨a, ha1, ha2, ha3⟩ := lA (rs := rs) k (by omega)
  rw [← hf] at ha2
  have hlen := ha2.len
  dsimp only at hlen
  have hs1 : s.1 ≤ s.2 := ha2.le
  have hs2 : s.2 ≤ rs.length := ha2.top
  have hga : g.1 = a := by
   rw [List.drop_eq_getElem_cons hkl] at ha3
   rw [Eg hkl] at hk
   rw [← Option.some.inj hk]
   exact ha3.1
  have hrun := bU (e8 (show g.1 < rs.length by omega))
  refine xA hrec rfl rfl fun B1 hB1 => ?_
  repeat' (first|refine a6 ?_|refine aa ?_|(apply aQ; first|refine ai 5 a7 0 rfl rfl rfl rfl rfl rfl rfl rfl ?_|refine ai 5 a7 1 rfl rfl rfl rfl rfl rfl rfl rfl ?_|refine ai 5 a7 2 rfl rfl rfl rfl rfl rfl rfl rfl ?_|refine aj a7 0 rfl rfl rfl rfl rfl rfl rfl ?_|refine aj a7 1 rfl rfl rfl rfl rfl rfl rfl ?_|refine aj a7 2 rfl rfl rfl rfl rfl rfl rfl ?_|refine aj a7 3 rfl rfl rfl rfl rfl rfl rfl ?_|fail)|refine aY a7 fun _=>?_|fail)
  refine ng hrec.state ?_
  unfold Bp
  dsimp only
  simp only [Ht, Hs]
  repeat' (first|refine ae ?_|refine a6 ?_|refine ar ?_|refine a8 ?_|refine aa ?_|refine ah a7 rfl rfl ?_|(apply aO; first|refine aN a7 ?_|refine aH a7 ?_)|(apply bc;refine aX ?_)|fail)
  have hst := nG hk
  rw [← hf] at hst
  unfold my at hst
  dsimp only at hst
  have hgs : ∀ (cs1 : List AV) (o1 : List Nat), n3 o1 cs1 → cs1.length = rs.length → o1.length ≤ a → AC Tryz.prog 41 [.sc (.slice (some ⟨b0, 0, none⟩) o1.length rs.length), .imm 1 (aT rs), .agg [aD g.1, aD g.2]] [(b0, .box cs1 3)] (zn b0 rs.length (o1 ++ cn rs g)) := fun cs1 o1 h1 h2 h3 => by
   have := qK rs b0 cs1 o1 g (by omega) hg2 (h20 g hgm) h1 (by omega) (by omega) hr
   rwa [h2] at this
  have hss := qK rs b0 cs o s hs1 hs2 hm hP (by omega) (by omega) hr
  rw [hcl] at hss
  have hol1 : (o ++ cn rs s).length ≤ a := by
   rw [List.length_append, dK]
   omega
  refine ay rfl (fun h => ?_) (fun h => ?_)
  ·have h5 : cq (rs.getD g.1 0) ≠ 5 := Hz h
   simp only [if_neg h5] at hst
   clear h
   repeat' (first|refine ae ?_|refine a6 ?_|refine ah a7 rfl rfl ?_|(apply c9; first|refine aC a7 0 rfl rfl rfl rfl rfl ?_|refine aC a7 1 rfl rfl rfl rfl rfl ?_|refine aC a7 2 rfl rfl rfl rfl rfl ?_|refine aC a7 3 rfl rfl rfl rfl rfl ?_|refine aJ a7 0 rfl rfl rfl rfl rfl ?_|refine aJ a7 1 rfl rfl rfl rfl rfl ?_|refine aJ a7 2 rfl rfl rfl rfl rfl ?_|refine aC a7 1 rfl rfl rfl (by assumption) rfl ?_|refine aC a7 0 rfl rfl rfl (by assumption) rfl ?_|fail)|fail)
   refine aV [(b0, .box cs 3)] [(sb, .box [aD s.1, aD s.2] 103), (gb, .box [.sc (.slice (some ⟨b0, 0, none⟩) o.length rs.length)] 22), (db, lu), (l, iE { rec with state := .busy })] hss rfl rfl (List.perm_middle (l₁ := [_, _])) rfl fun c1 L1 ⟨cs1, hP1, hc1, hc, hL⟩ => ?_
   subst hc; subst hL
   simp only [Ht, Hs]
   repeat' (first|refine ae ?_|refine a6 ?_|refine a8 ?_|refine aa ?_|refine ah a7 rfl rfl ?_|(apply aQ; first|refine ai 5 a7 0 rfl rfl rfl rfl rfl rfl rfl rfl ?_|refine ai 5 a7 1 rfl rfl rfl rfl rfl rfl rfl rfl ?_|refine ai 5 a7 2 rfl rfl rfl rfl rfl rfl rfl rfl ?_|refine aj a7 0 rfl rfl rfl rfl rfl rfl rfl ?_|refine aj a7 1 rfl rfl rfl rfl rfl rfl rfl ?_|refine aj a7 2 rfl rfl rfl rfl rfl rfl rfl ?_|refine aj a7 3 rfl rfl rfl rfl rfl rfl rfl ?_|fail))
   refine ay rfl (fun h => ?_) (fun h => ?_)
   ·have h4 : cq (rs.getD g.1 0) = 4 := Hz h
    rw [if_pos h4] at hst
    repeat' (first|refine a6 ?_|refine aR ?_|refine aa ?_|refine ah a7 rfl rfl ?_|(apply aQ; first|refine ai 5 a7 0 rfl rfl rfl rfl rfl rfl rfl rfl ?_|refine ai 5 a7 1 rfl rfl rfl rfl rfl rfl rfl rfl ?_|refine ai 5 a7 2 rfl rfl rfl rfl rfl rfl rfl rfl ?_|refine aj a7 0 rfl rfl rfl rfl rfl rfl rfl ?_|refine aj a7 1 rfl rfl rfl rfl rfl rfl rfl ?_|refine aj a7 2 rfl rfl rfl rfl rfl rfl rfl ?_|refine aj a7 3 rfl rfl rfl rfl rfl rfl rfl ?_|fail))
    refine bf (L' := Bp gb sb b0 rs.length (cs1, o ++ cn rs s, g) ++ [(db, lu)] ++ [(l, iE { rec with state := .busy })]) (bj (List.perm_middle (l₁ := [_, _])).symm) (pX ?_)
    rw [kW hrec.state hrec.pending]
    exact ⟨rfl, (cs1, _, g), ⟨hst.symm, hP1, hc1, h20 g hgm⟩, rfl⟩
   ·have h4 : ¬ cq (rs.getD g.1 0) = 4 := Hy h
    rw [if_neg h4] at hst
    clear h
    repeat' (first|refine a6 ?_|refine ah a7 rfl rfl ?_|(apply c9; first|refine aC a7 0 rfl rfl rfl rfl rfl ?_|refine aC a7 1 rfl rfl rfl rfl rfl ?_|refine aC a7 2 rfl rfl rfl rfl rfl ?_|refine aC a7 3 rfl rfl rfl rfl rfl ?_|refine aJ a7 0 rfl rfl rfl rfl rfl ?_|refine aJ a7 1 rfl rfl rfl rfl rfl ?_|refine aJ a7 2 rfl rfl rfl rfl rfl ?_|refine aC a7 1 rfl rfl rfl (by assumption) rfl ?_|refine aC a7 0 rfl rfl rfl (by assumption) rfl ?_|fail)|fail)
    refine aV [(b0, .box cs1 3)] _ (hgs cs1 _ hP1 hc1 hol1) rfl rfl (Hp _) rfl fun c1 L1 ⟨cs2, hP2, hc2, hc, hL⟩ => ?_
    subst hc; subst hL
    repeat' (first|refine aR ?_|refine aa ?_|(apply aQ; first|refine ai 5 a7 0 rfl rfl rfl rfl rfl rfl rfl rfl ?_|refine ai 5 a7 1 rfl rfl rfl rfl rfl rfl rfl rfl ?_|refine ai 5 a7 2 rfl rfl rfl rfl rfl rfl rfl rfl ?_|refine aj a7 0 rfl rfl rfl rfl rfl rfl rfl ?_|refine aj a7 1 rfl rfl rfl rfl rfl rfl rfl ?_|refine aj a7 2 rfl rfl rfl rfl rfl rfl rfl ?_|refine aj a7 3 rfl rfl rfl rfl rfl rfl rfl ?_|fail))
    refine bf (L' := Bp gb sb b0 rs.length (cs2, o ++ cn rs s ++ cn rs g, (0, 0)) ++ [(db, lu)] ++ [(l, iE { rec with state := .busy })]) (bj (List.perm_middle (l₁ := [_, _])).symm) (pX ?_)
    rw [kW hrec.state hrec.pending]
    exact ⟨rfl, (cs2, _, (0, 0)), ⟨hst.symm, hP2, hc2, rR rs⟩, rfl⟩
  ·have h5 : cq (rs.getD g.1 0) = 5 := Decidable.not_not.1 (Hy h)
   simp only [if_pos h5, if_neg (show ¬ cq (rs.getD g.1 0) = 4 by omega)] at hst
   clear h
   repeat' (first|refine ae ?_|refine a6 ?_|refine aq ?_|refine a8 ?_|refine aa ?_|refine ah a7 rfl rfl ?_)
   refine ay rfl (fun h => by have := Hz h; omega) (fun h => ?_)
   clear h
   repeat' (first|refine a6 ?_|refine ah a7 rfl rfl ?_|(apply c9; first|refine aC a7 0 rfl rfl rfl rfl rfl ?_|refine aC a7 1 rfl rfl rfl rfl rfl ?_|refine aC a7 2 rfl rfl rfl rfl rfl ?_|refine aC a7 3 rfl rfl rfl rfl rfl ?_|refine aJ a7 0 rfl rfl rfl rfl rfl ?_|refine aJ a7 1 rfl rfl rfl rfl rfl ?_|refine aJ a7 2 rfl rfl rfl rfl rfl ?_|refine aC a7 1 rfl rfl rfl (by assumption) rfl ?_|refine aC a7 0 rfl rfl rfl (by assumption) rfl ?_|fail)|fail)
   refine aV [(b0, .box cs 3)] [(sb, .box [aD s.1, aD s.2] 103), (gb, .box [.sc (.slice (some ⟨b0, 0, none⟩) o.length rs.length)] 22), (db, lu), (l, iE { rec with state := .busy })] (hgs cs _ hP hcl (by omega)) rfl rfl (List.perm_middle (l₁ := [_, _])) rfl fun c1 L1 ⟨cs2, hP2, hc2, hc, hL⟩ => ?_
   subst hc; subst hL
   repeat' (first|refine aR ?_|refine aa ?_|(apply aQ; first|refine ai 5 a7 0 rfl rfl rfl rfl rfl rfl rfl rfl ?_|refine ai 5 a7 1 rfl rfl rfl rfl rfl rfl rfl rfl ?_|refine ai 5 a7 2 rfl rfl rfl rfl rfl rfl rfl rfl ?_|refine aj a7 0 rfl rfl rfl rfl rfl rfl rfl ?_|refine aj a7 1 rfl rfl rfl rfl rfl rfl rfl ?_|refine aj a7 2 rfl rfl rfl rfl rfl rfl rfl ?_|refine aj a7 3 rfl rfl rfl rfl rfl rfl rfl ?_|fail))
   refine bf (L' := Bp gb sb b0 rs.length (cs2, o ++ cn rs g, s) ++ [(db, lu)] ++ [(l, iE { rec with state := .busy })]) (bj (List.perm_middle (l₁ := [_, _])).symm) (pX ?_)
   rw [kW hrec.state hrec.pending]
   exact ⟨rfl, (cs2, _, s), ⟨hst.symm, hP2, hc2, hm⟩, rfl⟩
 have hit := y2 (σ0 := σ0) (l := l) rs hr (fun x => Bp gb sb b0 rs.length x ++ [(db, lu)] ++ [(l, iE rec)]) (fun k x => x.2 = kA rs k ∧ n3 x.2.1 x.1 ∧ x.1.length = rs.length ∧ zP rs x.2.2 ≤ 20) hy ((List.replicate rs.length (([Value.int .i64 0] : List Value).map AV.sc)).flatten, [], (0, 0)) ⟨rfl, ⟨rfl, Nat.zero_le _⟩, hz, rR rs⟩
 refine ⟨_, hit, ?_⟩
 rintro c L' ⟨⟨cs, o, s⟩, ⟨hf, hP, hcl, hm⟩, rfl⟩
 dsimp only at hf hP hcl hm ⊢
 refine ⟨rec, _, Hp _, (by rw [hrec.state]; intro h; cases h), ?_⟩
 rw [hrec.pending]
 show AX _ _ _ _ _ _ _ _
 clear hy hit
 obtain ⟨a, ha1, ha2, -⟩ := lA (rs := rs) _ (Nat.le_refl _)
 rw [← hf] at ha2
 rw [vN] at hf
 have hlen := ha2.len
 dsimp only at hlen
 have hss := qK rs b0 cs o s ha2.le ha2.top hm hP (by omega) (by omega) hr
 rw [hcl] at hss
 unfold Bp
 dsimp only
 simp only [Ht, Hs]
 repeat' (first|refine ae ?_|refine a6 ?_|refine a8 ?_|refine aR ?_|refine ah a7 rfl rfl ?_|(apply c9; first|refine aC a7 0 rfl rfl rfl rfl rfl ?_|refine aC a7 1 rfl rfl rfl rfl rfl ?_|refine aC a7 2 rfl rfl rfl rfl rfl ?_|refine aC a7 3 rfl rfl rfl rfl rfl ?_|refine aJ a7 0 rfl rfl rfl rfl rfl ?_|refine aJ a7 1 rfl rfl rfl rfl rfl ?_|refine aJ a7 2 rfl rfl rfl rfl rfl ?_|refine aC a7 1 rfl rfl rfl (by assumption) rfl ?_|refine aC a7 0 rfl rfl rfl (by assumption) rfl ?_|fail)|fail)
 refine aV [(b0, .box cs 3)] [(sb, .box [aD s.1, aD s.2] 103), (gb, .box [.sc (.slice (some ⟨b0, 0, none⟩) o.length rs.length)] 22), (db, lu)] hss rfl rfl (List.perm_middle (l₁ := [_, _])) rfl fun c1 L1 ⟨cs1, hP1, hc1, hc, hL⟩ => ?_
 subst hc; subst hL
 simp only [Ht, Hs]
 repeat' (first|refine am ?_|refine a8 ?_|refine aa ?_|refine ah a7 rfl rfl ?_)
 have hord : dw rs = o ++ cn rs s := by
  unfold dw
  rw [← hf]
 rw [← hc1]
 refine bf (BZ (t := 2) (cs := cs1) 0 rfl rfl hP1 (by unfold maxLen; omega)) ?_
 rw [hord]
 exact ko (cs := [.imm 1 (aT ((o ++ cn rs s).map fun (n : Nat) => (n : Int)))]) [db] [(sb, .box [aD s.1, aD s.2] 103), (gb, .box [.sc (.slice (some ⟨b0, 0, none⟩) o.length rs.length)] 22)] rfl (List.Perm.of_eq (by rw [hc1]; rfl)) ⟨rfl, trivial⟩ rfl
end Go.Proofs.YtamjlkdanllgjaaGreatDoor
namespace Go.Proofs.YtamjlkdanllgjaaGreatDoor
open Go.RowKit
section
variable {P : Program} {fr : bJ} {B : Bs} {L : AL} {ty t t' : TypeId} {pos : String} {af : Array Edge} {g : Option (Nat × Bool)} {x y : Operand}
theorem xl (i : Nat) {dd : Option Tmp} {e e' sz by_ b off n c m : Nat} {cs es : List AV} (hc : ke P t e sz by_) (hx : bh fr x = some (.sc (.slice (some ⟨b, off, none⟩) n c))) (hy : x1 fr B L y sz m es) (hL : L[i]? = some (b, .box cs e')) (hfit : off + min m n * sz ≤ cs.length) :
  AO P ⟨dd, .call ⟨.builtin .copy, #[x, y], #[t, t']⟩, ty, pos, af, g⟩ fr B L (fun r L' => r = aD ((min m n : Nat) : Int) ∧ L' = fC L i (.box (cs.take off ++ es.take (min m n * sz) ++ cs.drop (off + min m n * sz)) e')) := by
 intro σ ρ w hρ hw
 obtain ⟨A, c2, ys, hA, hyr, hy1, hyl, hyc⟩ := hy σ ρ w hρ hw
 have hxv := (hρ x _ hx).sc_inv
 haveI := hc
 obtain ⟨inf, zz, hi, hsz, _, _, _⟩ := hc.info
 obtain ⟨vs, hb, hvs, h1⟩ := hw.boxCell hL
 have hl := hvs.1
 have hmin : Nat.min m n = min m n := rfl
 generalize hk : min m n = k at *
 have hlen : (ys.take (k * sz)).length = k * sz := by
  rw [List.length_take, hyl]
  have : k ≤ m := by omega
  have := Nat.mul_le_mul_right sz this
  omega
 have hstore := run_storeCells_at P b off e' (ys.take (k * sz)) 0 vs.toArray w hb (by rw [hlen]; simp; omega) (fun v hv => hy1 v (List.mem_of_mem_take hv))
 unfold fw
 rw [show (execOp ρ ⟨dd, .call ⟨.builtin .copy, #[x, y], #[t, t']⟩, ty, pos, af, g⟩).run P w = .ok (.value (.int .i64 k)) (w.setRow b (vs.toArray.toList.take off ++ ys.take (k * sz) ++ vs.toArray.toList.drop (off + (ys.take (k * sz)).length)).toArray) by
  by_cases hk0 : k = 0
  ·subst hk0
   simp only [Nat.zero_mul, List.take_zero, List.append_nil, List.length_nil, Nat.add_zero, List.take_append_drop] at hstore ⊢
   have h0 : (Builtin.firstCells inf.size 0 (.slice A m c2)).run P w = .ok #[] w := by
    cases A with
    | none => rfl
    | some a =>
     have := run_loadCells_list (P := P) w a [] (by simp)
     simpa [Builtin.firstCells] using this
   simp [execOp, resolve, hxv, hA, invoke, builtin, Builtin.copy_, run_underlying hc.under, Builtin.lenOf, sizeOf, typeInfo, hi, hmin, h0, storeCells, goInt]
   exact (setRow_self w b vs.toArray e' (0, 0) hb).symm
  ·have hm0 : 0 < m := by omega
   obtain ⟨b2, off2, rfl, hcell⟩ := hyc hm0
   have hld := run_loadCells_list (P := P) w ⟨b2, off2, none⟩ (ys.take (k * sz)) (fun j v hj => hcell j v (by
    have hjl := (Hq hj).1
    rw [List.length_take] at hjl
    rw [List.getElem?_take_of_lt (by omega)] at hj
    exact hj))
   rw [hlen] at hld
   simp only [Nat.add_zero] at hstore
   simp [execOp, resolve, hxv, hA, invoke, builtin, Builtin.copy_, run_underlying hc.under, Builtin.lenOf, Builtin.firstCells, sizeOf, typeInfo, hi, hsz, hmin, hld, hstore, goInt]]
 rw [hlen]
 refine ⟨σ, .sc _, _, bT.le_refl _, .sc _, hw.putAt (a' := .box (cs.take off ++ es.take (k * sz) ++ cs.drop (off + k * sz)) e') hL (fun _ => trivial) ⟨rfl, rfl, rfl, by simp, fun k _ hk => setRow_other w b k _ (fun e => hk (by simp [e]))⟩ (setRow_heap w b _ _ e' _ hb) ⟨_, rfl, dm (dm (eZ hvs _) (eZ hyr _)) (j7 hvs _), fun u hu => ?_⟩, rfl, rfl⟩
 rcases Ho hu with hu | hu
 ·rcases Ho hu with hu | hu
  ·exact h1 _ (List.mem_of_mem_take hu)
  ·exact hy1 _ (List.mem_of_mem_take hu)
 ·exact h1 _ (List.mem_of_mem_drop hu)
end
section
variable {P : Program} {tt : TT} {r : Option Nat} {ops : Array Oper} {Q : Exit → Act → World → Prop} {nt : Nat} {D : List Deferred} {fr : bJ} {B : Bs} {L : AL} {rest : List Oper} {d : Nat} {ty t t' : TypeId} {pos : String} {af : Array Edge} {x y : Operand}
theorem ie (ok : dG P tt) (i : Nat) {e e' sz by_ b off n c m : Nat} {cs es : List AV} (ht : jH tt t = some (e, sz, by_)) (hx : bh fr x = some (.sc (.slice (some ⟨b, off, none⟩) n c))) (hy : x1 fr B L y sz m es) (hL : L[i]? = some (b, .box cs e')) (hfit : off + min m n * sz ≤ cs.length) (hd : Nat.ble nt d = false)
  (h : br P r ops Q nt D rest ((d, aD ((min m n : Nat) : Int)) :: fr) B (fC L i (.box (cs.take off ++ es.take (min m n * sz) ++ cs.drop (off + min m n * sz)) e'))) :
  br P r ops Q nt D (⟨some d, .call ⟨.builtin .copy, #[x, y], #[t, t']⟩, ty, pos, af, none⟩ :: rest) fr B L :=
 bW hd rfl (xl i (bz ok ht).1 hx hy hL hfit) fun c L' ⟨h1, h2⟩ => by subst h1; subst h2; exact h
end
end Go.Proofs.YtamjlkdanllgjaaGreatDoor
namespace Go.Proofs.YtamjlkdanllgjaaGreatDoor
open Go.RowKit
attribute [local irreducible] AT br AX AO Av Kt aW cZ DA cw
set_option maxRecDepth 8000
theorem bG {l : List (List AV)} {sz : Nat} (hs : ∀ e ∈ l, e.length = sz) : l.flatten.length = l.length * sz := by
 induction l with
 | nil => simp
 | cons x r ih => rw [List.flatten_cons, List.length_append, ih (fun e he => hs e (Hu _ he)), hs x (List.mem_cons_self ..), List.length_cons, Nat.add_mul, Nat.one_mul, Nat.add_comm]
theorem eK (n : Nat) (zs : List AV) : (List.replicate n zs).flatten.length = n * zs.length := by
 rw [bG (sz := zs.length) (fun e he => by rw [List.eq_of_mem_replicate he]), List.length_replicate]
theorem jS {zs es : List AV} {n sz : Nat} (h2 : es.length = n * sz) (h : zs.length = sz) : (List.replicate n zs).flatten.take 0 ++ es.take (min n n * sz) ++ (List.replicate n zs).flatten.drop (0 + min n n * sz) = es := by
 have h1 := eK n zs
 rw [h] at h1
 rw [Nat.min_self, List.take_zero, Hs, Nat.zero_add, List.drop_of_length_le (by omega), List.append_nil, List.take_of_length_le (by omega)]
theorem Fw (l : List (List AV)) (hs : ∀ e ∈ l, e.length = 2) (hl : l.length ≤ 1000000) : bw Tryz.prog 46 [.imm 2 l] (.imm 2 l) := by
 refine aG Tryz.func46 rfl Tryz.ntmps46 rfl fun B => ?_
 repeat' (first|refine ae ?_|refine a6 ?_|refine a8 ?_|refine aa ?_|refine ah a7 rfl rfl ?_)
 refine ay rfl (fun h => ?_) (fun h => ?_)
 ·have h0 : l = [] := List.length_eq_zero_iff.1 (by have := Hz h; omega)
  subst h0
  clear h
  repeat' (first|refine ae ?_|refine a6 ?_|refine am ?_|refine a8 ?_|refine aw ?_|refine aa ?_|refine ah a7 rfl rfl ?_)
  refine bf (bA (t := 2) rfl fun σ v h => dA 2 h) ?_
  exact au rfl rfl rfl
 ·clear h
  repeat' (first|refine ae ?_|refine a6 ?_|refine aq ?_|refine a8 ?_|refine ah a7 rfl rfl ?_)
  refine dv a7 l.length rfl rfl rfl rfl rfl rfl rfl (by omega) (by omega) rfl fun b => ?_
  repeat' (first|refine ae ?_|refine a6 ?_|refine a8 ?_|refine aa ?_|refine ah a7 rfl rfl ?_)
  refine ie a7 0 rfl rfl (eW rfl rfl) rfl (by rw [eK, Nat.min_self, Nat.zero_add]; exact Nat.le_refl _) rfl ?_
  rw [jS (bG hs)]
  ·repeat' (first|refine ae ?_|refine a6 ?_|refine am ?_|refine a8 ?_|refine aa ?_|refine ah a7 rfl rfl ?_)
   refine bf (cy (t := 2) (sz := 2) (l := l) 0 rfl rfl (List.take_of_length_le (by rw [bG hs]; omega)) (by rw [bG hs]; omega) hs rfl (Nat.le_refl _) (by unfold maxLen; omega)) ?_
   exact au rfl rfl rfl
  ·rfl
theorem s8 (l : List (List AV)) (hs : ∀ e ∈ l, e.length = 1) (hl : l.length ≤ 1000000) : bw Tryz.prog 50 [.imm 1 l] (.imm 1 l) := by
 refine aG Tryz.func50 rfl Tryz.ntmps50 rfl fun B => ?_
 repeat' (first|refine ae ?_|refine a6 ?_|refine a8 ?_|refine aa ?_|refine ah a7 rfl rfl ?_)
 refine ay rfl (fun h => ?_) (fun h => ?_)
 ·have h0 : l = [] := List.length_eq_zero_iff.1 (by have := Hz h; omega)
  subst h0
  clear h
  repeat' (first|refine ae ?_|refine a6 ?_|refine am ?_|refine a8 ?_|refine aw ?_|refine aa ?_|refine ah a7 rfl rfl ?_)
  refine bf (bA (t := 2) rfl fun σ v h => dA 1 h) ?_
  exact au rfl rfl rfl
 ·clear h
  repeat' (first|refine ae ?_|refine a6 ?_|refine aq ?_|refine a8 ?_|refine ah a7 rfl rfl ?_)
  refine dv a7 l.length rfl rfl rfl rfl rfl rfl rfl (by omega) (by omega) rfl fun b => ?_
  repeat' (first|refine ae ?_|refine a6 ?_|refine a8 ?_|refine aa ?_|refine ah a7 rfl rfl ?_)
  refine ie a7 0 rfl rfl (eW rfl rfl) rfl (by rw [eK, Nat.min_self, Nat.zero_add]; exact Nat.le_refl _) rfl ?_
  rw [jS (bG hs)]
  ·repeat' (first|refine ae ?_|refine a6 ?_|refine am ?_|refine a8 ?_|refine aa ?_|refine ah a7 rfl rfl ?_)
   refine bf (cy (t := 2) (sz := 1) (l := l) 0 rfl rfl (List.take_of_length_le (by rw [bG hs]; omega)) (by rw [bG hs]; omega) hs rfl (Nat.le_refl _) (by unfold maxLen; omega)) ?_
   exact au rfl rfl rfl
  ·rfl
theorem Fx (l : List (List AV)) (hs : ∀ e ∈ l, e.length = 2) (hl : l.length ≤ 1000000) : bw Tryz.prog 79 [.imm 2 l] (.imm 2 l) := by
 refine aG Tryz.func79 rfl Tryz.ntmps79 rfl fun B => ?_
 repeat' (first|refine ae ?_|refine a6 ?_|refine a8 ?_|refine aa ?_|refine ah a7 rfl rfl ?_)
 refine ay rfl (fun h => ?_) (fun h => ?_)
 ·have h0 : l = [] := List.length_eq_zero_iff.1 (by have := Hz h; omega)
  subst h0
  clear h
  repeat' (first|refine ae ?_|refine a6 ?_|refine am ?_|refine a8 ?_|refine aw ?_|refine aa ?_|refine ah a7 rfl rfl ?_)
  refine bf (bA (t := 2) rfl fun σ v h => dA 2 h) ?_
  exact au rfl rfl rfl
 ·clear h
  repeat' (first|refine ae ?_|refine a6 ?_|refine aq ?_|refine a8 ?_|refine ah a7 rfl rfl ?_)
  refine dv a7 l.length rfl rfl rfl rfl rfl rfl rfl (by omega) (by omega) rfl fun b => ?_
  repeat' (first|refine ae ?_|refine a6 ?_|refine a8 ?_|refine aa ?_|refine ah a7 rfl rfl ?_)
  refine ie a7 0 rfl rfl (eW rfl rfl) rfl (by rw [eK, Nat.min_self, Nat.zero_add]; exact Nat.le_refl _) rfl ?_
  rw [jS (bG hs)]
  ·repeat' (first|refine ae ?_|refine a6 ?_|refine am ?_|refine a8 ?_|refine aa ?_|refine ah a7 rfl rfl ?_)
   refine bf (cy (t := 2) (sz := 2) (l := l) 0 rfl rfl (List.take_of_length_le (by rw [bG hs]; omega)) (by rw [bG hs]; omega) hs rfl (Nat.le_refl _) (by unfold maxLen; omega)) ?_
   exact au rfl rfl rfl
  ·rfl
theorem Cp (l : List (List AV)) (hs : ∀ e ∈ l, e.length = 2) (hl : l.length ≤ 1000000) : bw Tryz.prog 80 [.imm 2 l] (.imm 2 l) := by
 refine aG Tryz.func80 rfl Tryz.ntmps80 rfl fun B => ?_
 repeat' (first|refine ae ?_|refine a6 ?_|refine a8 ?_|refine aa ?_|refine ah a7 rfl rfl ?_)
 refine ay rfl (fun h => ?_) (fun h => ?_)
 ·have h0 : l = [] := List.length_eq_zero_iff.1 (by have := Hz h; omega)
  subst h0
  clear h
  repeat' (first|refine ae ?_|refine a6 ?_|refine am ?_|refine a8 ?_|refine aw ?_|refine aa ?_|refine ah a7 rfl rfl ?_)
  refine bf (bA (t := 2) rfl fun σ v h => dA 2 h) ?_
  exact au rfl rfl rfl
 ·clear h
  repeat' (first|refine ae ?_|refine a6 ?_|refine aq ?_|refine a8 ?_|refine ah a7 rfl rfl ?_)
  refine dv a7 l.length rfl rfl rfl rfl rfl rfl rfl (by omega) (by omega) rfl fun b => ?_
  repeat' (first|refine ae ?_|refine a6 ?_|refine a8 ?_|refine aa ?_|refine ah a7 rfl rfl ?_)
  refine ie a7 0 rfl rfl (eW rfl rfl) rfl (by rw [eK, Nat.min_self, Nat.zero_add]; exact Nat.le_refl _) rfl ?_
  rw [jS (bG hs)]
  ·repeat' (first|refine ae ?_|refine a6 ?_|refine am ?_|refine a8 ?_|refine aa ?_|refine ah a7 rfl rfl ?_)
   refine bf (cy (t := 2) (sz := 2) (l := l) 0 rfl rfl (List.take_of_length_le (by rw [bG hs]; omega)) (by rw [bG hs]; omega) hs rfl (Nat.le_refl _) (by unfold maxLen; omega)) ?_
   exact au rfl rfl rfl
  ·rfl
theorem DZ (l : List (List AV)) (hs : ∀ e ∈ l, e.length = 3) (hl : l.length ≤ 1000000) : bw Tryz.prog 154 [.imm 3 l] (.imm 3 l) := by
 refine aG Tryz.func154 rfl Tryz.ntmps154 rfl fun B => ?_
 repeat' (first|refine ae ?_|refine a6 ?_|refine a8 ?_|refine aa ?_|refine ah a7 rfl rfl ?_)
 refine ay rfl (fun h => ?_) (fun h => ?_)
 ·have h0 : l = [] := List.length_eq_zero_iff.1 (by have := Hz h; omega)
  subst h0
  clear h
  repeat' (first|refine ae ?_|refine a6 ?_|refine am ?_|refine a8 ?_|refine aw ?_|refine aa ?_|refine ah a7 rfl rfl ?_)
  refine bf (bA (t := 2) rfl fun σ v h => dA 3 h) ?_
  exact au rfl rfl rfl
 ·clear h
  repeat' (first|refine ae ?_|refine a6 ?_|refine aq ?_|refine a8 ?_|refine ah a7 rfl rfl ?_)
  refine dv a7 l.length rfl rfl rfl rfl rfl rfl rfl (by omega) (by omega) rfl fun b => ?_
  repeat' (first|refine ae ?_|refine a6 ?_|refine a8 ?_|refine aa ?_|refine ah a7 rfl rfl ?_)
  refine ie a7 0 rfl rfl (eW rfl rfl) rfl (by rw [eK, Nat.min_self, Nat.zero_add]; exact Nat.le_refl _) rfl ?_
  rw [jS (bG hs)]
  ·repeat' (first|refine ae ?_|refine a6 ?_|refine am ?_|refine a8 ?_|refine aa ?_|refine ah a7 rfl rfl ?_)
   refine bf (cy (t := 2) (sz := 3) (l := l) 0 rfl rfl (List.take_of_length_le (by rw [bG hs]; omega)) (by rw [bG hs]; omega) hs rfl (Nat.le_refl _) (by unfold maxLen; omega)) ?_
   exact au rfl rfl rfl
  ·rfl
theorem E0 (l : List (List AV)) (hs : ∀ e ∈ l, e.length = 3) (hl : l.length ≤ 1000000) : bw Tryz.prog 155 [.imm 3 l] (.imm 3 l) := by
 refine aG Tryz.func155 rfl Tryz.ntmps155 rfl fun B => ?_
 repeat' (first|refine ae ?_|refine a6 ?_|refine a8 ?_|refine aa ?_|refine ah a7 rfl rfl ?_)
 refine ay rfl (fun h => ?_) (fun h => ?_)
 ·have h0 : l = [] := List.length_eq_zero_iff.1 (by have := Hz h; omega)
  subst h0
  clear h
  repeat' (first|refine ae ?_|refine a6 ?_|refine am ?_|refine a8 ?_|refine aw ?_|refine aa ?_|refine ah a7 rfl rfl ?_)
  refine bf (bA (t := 2) rfl fun σ v h => dA 3 h) ?_
  exact au rfl rfl rfl
 ·clear h
  repeat' (first|refine ae ?_|refine a6 ?_|refine aq ?_|refine a8 ?_|refine ah a7 rfl rfl ?_)
  refine dv a7 l.length rfl rfl rfl rfl rfl rfl rfl (by omega) (by omega) rfl fun b => ?_
  repeat' (first|refine ae ?_|refine a6 ?_|refine a8 ?_|refine aa ?_|refine ah a7 rfl rfl ?_)
  refine ie a7 0 rfl rfl (eW rfl rfl) rfl (by rw [eK, Nat.min_self, Nat.zero_add]; exact Nat.le_refl _) rfl ?_
  rw [jS (bG hs)]
  ·repeat' (first|refine ae ?_|refine a6 ?_|refine am ?_|refine a8 ?_|refine aa ?_|refine ah a7 rfl rfl ?_)
   refine bf (cy (t := 2) (sz := 3) (l := l) 0 rfl rfl (List.take_of_length_le (by rw [bG hs]; omega)) (by rw [bG hs]; omega) hs rfl (Nat.le_refl _) (by unfold maxLen; omega)) ?_
   exact au rfl rfl rfl
  ·rfl
theorem E1 (l : List (List AV)) (hs : ∀ e ∈ l, e.length = 4) (hl : l.length ≤ 1000000) : bw Tryz.prog 156 [.imm 4 l] (.imm 4 l) := by
 refine aG Tryz.func156 rfl Tryz.ntmps156 rfl fun B => ?_
 repeat' (first|refine ae ?_|refine a6 ?_|refine a8 ?_|refine aa ?_|refine ah a7 rfl rfl ?_)
 refine ay rfl (fun h => ?_) (fun h => ?_)
 ·have h0 : l = [] := List.length_eq_zero_iff.1 (by have := Hz h; omega)
  subst h0
  clear h
  repeat' (first|refine ae ?_|refine a6 ?_|refine am ?_|refine a8 ?_|refine aw ?_|refine aa ?_|refine ah a7 rfl rfl ?_)
  refine bf (bA (t := 2) rfl fun σ v h => dA 4 h) ?_
  exact au rfl rfl rfl
 ·clear h
  repeat' (first|refine ae ?_|refine a6 ?_|refine aq ?_|refine a8 ?_|refine ah a7 rfl rfl ?_)
  refine dv a7 l.length rfl rfl rfl rfl rfl rfl rfl (by omega) (by omega) rfl fun b => ?_
  repeat' (first|refine ae ?_|refine a6 ?_|refine a8 ?_|refine aa ?_|refine ah a7 rfl rfl ?_)
  refine ie a7 0 rfl rfl (eW rfl rfl) rfl (by rw [eK, Nat.min_self, Nat.zero_add]; exact Nat.le_refl _) rfl ?_
  rw [jS (bG hs)]
  ·repeat' (first|refine ae ?_|refine a6 ?_|refine am ?_|refine a8 ?_|refine aa ?_|refine ah a7 rfl rfl ?_)
   refine bf (cy (t := 2) (sz := 4) (l := l) 0 rfl rfl (List.take_of_length_le (by rw [bG hs]; omega)) (by rw [bG hs]; omega) hs rfl (Nat.le_refl _) (by unfold maxLen; omega)) ?_
   exact au rfl rfl rfl
  ·rfl
end Go.Proofs.YtamjlkdanllgjaaGreatDoor
namespace Go.Proofs.YtamjlkdanllgjaaGreatDoor
open Go.RowKit
section
variable {P : Program} {tt : TT} {r : Option Nat} {ops : Array Oper} {Q : Exit → Act → World → Prop} {nt : Nat} {D : List Deferred} {fr : bJ} {B : Bs} {L : AL} {rest : List Oper}
variable {d : Nat} {ty t : TypeId} {pos : String} {af : Array Edge} {x y : Operand} {u : AV}
theorem tF (kd : TypeDesc) {k : IntKind} {a : Int} {kt et : Nat} (ht : P.underlying t = some (.map kt et)) (hx : bh fr x = some (.sc (.int k a))) (h : ∀ b, br P r ops Q nt D rest ((d, .sc (.map (some b))) :: fr) B ((b, bP kd fun _ => none) :: L)) (hd : Nat.ble nt d = false := by rfl) : br P r ops Q nt D (⟨some d, .makeMap t (some x), ty, pos, af, none⟩ :: rest) fr B L := by
 refine bW (R := fun c L' => ∃ b, c = .sc (.map (some b)) ∧ L' = (b, bP kd fun _ => none) :: L) hd rfl (fun σ ρ w hρ hw => ?_) fun c L' ⟨b, h1, h2⟩ => by subst h1; subst h2; exact h b
 have hr : (execOp ρ ⟨some d, .makeMap t (some x), ty, pos, af, none⟩).run P w = .ok (.value (.map (some w.heap.size))) (w.alloc (.map #[] 0)) := by
  simp [execOp, Instr.makeMap, (hρ x _ hx).sc_inv, run_underlying ht, asInt, asIntOf]
 unfold fw
 rw [hr]
 exact ⟨σ, _, _, bT.le_refl _, .sc _, hw.alloc _ (bP kd fun _ => Option.none) ⟨#[], 0, rfl, by simp, by simp, by simp⟩, _, rfl, rfl⟩
end
end Go.Proofs.YtamjlkdanllgjaaGreatDoor
namespace Go.Proofs.YtamjlkdanllgjaaGreatDoor
open Go.RowKit
attribute [local irreducible] AT br AX AO Av Kt aW cZ DA cw
set_option maxRecDepth 8000
def EW (cs : List d3) (r : Int) : Int := ((cs.find? fun c => decide (c.Rune = r)).map d3.Glyph).getD 0
def rG (cs : List d3) : Value → Option AV
 | .int .i64 r => (cs.find? fun c => decide (c.Rune = r)).map fun c => aD c.Glyph
 | _ => none
theorem Dk (cs : List d3) (r : Int) : (rG cs (.int .i64 r)).getD (.sc (.int .i64 0)) = aD (EW cs r) := by
 show ((cs.find? fun c => decide (c.Rune = r)).map fun c => aD c.Glyph).getD (.sc (.int .i64 0)) = aD (((cs.find? fun c => decide (c.Rune = r)).map d3.Glyph).getD 0)
 cases cs.find? fun c => decide (c.Rune = r) <;> rfl
theorem lx (cs : List d3) (c : d3) (r : Int) : (cs ++ [c]).find? (fun c => decide (c.Rune = r)) = ((cs.find? fun c => decide (c.Rune = r)) <|> if c.Rune = r then some c else none) := by
 rw [List.find?_append]
 cases cs.find? fun c => decide (c.Rune = r) with
 | some _ => simp
 | none => by_cases h : c.Rune = r <;> simp [h]
theorem B7 {cs : List d3} {c : d3} (h : (rG cs (.int .i64 c.Rune)).isSome = true) : rG (cs ++ [c]) = rG cs := by
 funext v
 unfold rG at h ⊢
 split
 ·rename_i r
  rw [lx]
  cases hf : cs.find? fun c => decide (c.Rune = r) with
  | some _ => simp
  | none =>
   have hne : c.Rune ≠ r := fun e => by rw [← e] at hf; simp [hf] at h
   simp [hne]
 ·rfl
theorem B6 {cs : List d3} {c : d3} (h : (rG cs (.int .i64 c.Rune)).isSome = false) : rG (cs ++ [c]) (.int .i64 c.Rune) = some (aD c.Glyph) := by
 unfold rG at h ⊢
 dsimp only at h ⊢
 rw [lx]
 cases hf : cs.find? fun d => decide (d.Rune = c.Rune) with
 | some _ => rw [hf] at h; simp at h
 | none => simp
theorem vS {cs : List d3} {c : d3} (q : Value) (h : q ≠ .int .i64 c.Rune) : rG (cs ++ [c]) q = rG cs q := by
 unfold rG
 split
 ·rename_i r
  have hne : c.Rune ≠ r := fun e => h (by rw [e])
  rw [lx, if_neg hne]
  cases cs.find? fun c => decide (c.Rune = r) <;> rfl
 ·rfl
def iV (cs : List d3) (rs : List Int) (a : Nat) : b8 := ⟨EW cs (rs.getD a 0), a, (nH rs).getD a 0, 0, 0, 0⟩
def cx (f : aP) (rs : List Int) : List b8 := (dw rs).map (iV f.Chars rs)
def G0 (m : lg) (run : List b8) : Prop := run.length ≤ m.cap ∧ m.cap ≤ maxLen ∧ (dy run ++ m.junk).length = m.cap * 6
set_option maxHeartbeats 8000000 in
theorem zx (f : aP) (rs : List Int) (hr : rs.length ≤ 1000000) (h20 : mY rs) (hc : f.Chars.length ≤ 1000000) : AC Tryz.prog 15 [cf f, .imm 1 (aT rs)] [] fun c L => ∃ q, iw q (cx f rs) ∧ c = dQ q (cx f rs) ∧ L = dE q (cx f rs) := by
 refine aG Tryz.func15 rfl Tryz.ntmps15 rfl fun B => ?_
 have hil := bg rs
 have hcl : (f.Chars.map dS).length = f.Chars.length := Hv ..
 have hol := bg ((dw rs).map fun (n : Nat) => (n : Int))
 rw [Hv] at hol
 have hok := kR rs
 have hfl := vR rs
 haveI := AD.mk (vQ rs hr)
 haveI := AD.mk (wk rs hr h20)
 repeat' (first|refine ae ?_|refine a6 ?_|refine a8 ?_|refine aa ?_|refine ah a7 rfl rfl ?_|refine b9 ?_|fail)
 refine tF (.int .i64) Tryz.underlying96 rfl fun mb => ?_
 repeat' (first|refine ae ?_|refine a6 ?_|refine ar ?_|refine a8 ?_|refine aa ?_|refine ah a7 rfl rfl ?_)
 refine aI [1, 5, 19, 20] (α := Nat) (fun i => [(21, aD i)]) (fun i => i ≤ f.Chars.length) (fun i => [(mb, bP (.int .i64) (rG (f.Chars.take i)))]) (fun i => f.Chars.length - i) 0 rfl ⟨rfl, trivial⟩ (Nat.zero_le _) (fun σ w h => ?_) fun i hi => ?_
 ·rw [show rG (f.Chars.take 0) = fun _ => none from funext fun v => by
   unfold rG
   split <;> rfl]
  exact h
 try dsimp only [Ht, Hs, Hr, Hn]
 repeat' (first|refine ae ?_|refine a6 ?_|refine a8 ?_|refine aa ?_|refine ah a7 rfl rfl ?_)
 refine ay rfl (fun h => ?_) (fun h => ?_)
 ·have hil : i < f.Chars.length := by have := Hz h; omega
  obtain ⟨t, ht⟩ : ∃ z, f.Chars[i]? = some z := ⟨_, Eg hil⟩
  have htg := bO (c := dS) ht
  have hsucc : f.Chars.take (i + 1) = f.Chars.take i ++ [t] := by rw [List.take_add_one, ht]; rfl
  clear h
  generalize f.Chars.take i = cs at *
  repeat' (first|refine ae ?_|refine a6 ?_|refine ar ?_|refine aq ?_|refine a8 ?_|refine aa ?_|refine ah a7 rfl rfl ?_|(apply aO; first|refine aN a7 ?_|refine aH a7 ?_)|(apply aQ; first|refine ai 7 a7 0 rfl rfl rfl rfl rfl rfl rfl rfl ?_|refine ai 7 a7 1 rfl rfl rfl rfl rfl rfl rfl rfl ?_|refine ai 7 a7 2 rfl rfl rfl rfl rfl rfl rfl rfl ?_|refine aj a7 0 rfl rfl rfl rfl rfl rfl rfl ?_|refine aj a7 1 rfl rfl rfl rfl rfl rfl rfl ?_|refine aj a7 2 rfl rfl rfl rfl rfl rfl rfl ?_|refine aj a7 3 rfl rfl rfl rfl rfl rfl rfl ?_|fail)|refine aY a7 fun _=>?_|fail)
  refine fj 0 (.int .i64 0) Tryz.underlying96 Tryz.underlying3 rfl rfl rfl rfl (by kernel_rfl) rfl ?_
  cases hm : (rG cs (.int .i64 t.Rune)).isSome with
  | true =>
   rw [← B7 hm] at *
   repeat' (first|refine ae ?_|refine a6 ?_|refine aq ?_|refine a8 ?_|refine aR ?_|refine aa ?_|refine ah a7 rfl rfl ?_|(apply b6; refine aZ ?_)|refine bi rfl ?_)
   exact aF (i + 1) rfl ⟨by rw [Hw]; rfl, trivial⟩ hil (by omega) (fun _ _ h => by rw [hsucc]; exact h)
  | false =>
   repeat' (first|refine ae ?_|refine a6 ?_|refine a8 ?_|refine aa ?_|refine ah a7 rfl rfl ?_|refine bK rfl ?_)
   refine cH 0 (rG (cs ++ [t])) Tryz.underlying96 Tryz.underlying3 rfl rfl rfl rfl rfl (B6 hm) vS ?_
   repeat' (first|refine a6 ?_|refine a8 ?_|refine aR ?_|refine aa ?_|refine ah a7 rfl rfl ?_|(apply b6; refine aZ ?_)|fail)
   exact aF (i + 1) rfl ⟨by rw [Hw]; rfl, trivial⟩ hil (by omega) (fun _ _ h => by rw [hsucc]; exact h)
 have hil2 : i = f.Chars.length := by have := Hy h; omega
 subst hil2
 rw [List.take_length]
 clear h
 repeat' (first|refine ae ?_|refine a6 ?_|refine aL ?_|refine a8 ?_|refine av ?_|refine aA ?_|refine az ?_|refine aa ?_|refine ah a7 rfl rfl ?_|(apply bc;refine aX ?_)|fail)
 refine rU a7 rs.length rfl rfl rfl rfl rfl (by rw [hil]) (by omega) (by omega) rfl fun b => ?_
 repeat' (first|refine ae ?_|refine a6 ?_|refine ar ?_|refine a8 ?_|refine aa ?_|refine ah a7 rfl rfl ?_|(apply bc;refine aX ?_)|fail)
 refine aI [1, 5, 10, 46, 47] (α := Nat × lg) (fun s => [(11, dQ (some s.2) (((dw rs).take s.1).map (iV f.Chars rs))), (48, aD s.1)]) (fun s => s.1 ≤ (dw rs).length ∧ G0 s.2 (((dw rs).take s.1).map (iV f.Chars rs))) (fun s => dE (some s.2) (((dw rs).take s.1).map (iV f.Chars rs)) ++ [(mb, bP (.int .i64) (rG f.Chars))]) (fun s => (dw rs).length - s.1) (0, ⟨b, rs.length, (List.replicate rs.length [aD 0, aD 0, aD 0, aD 0, aD 0, aD 0]).flatten⟩) rfl ⟨rfl, rfl, trivial⟩ ⟨Nat.zero_le _, Nat.zero_le _, by unfold maxLen; dsimp only; omega, ?_⟩ (fun _ _ h => h) ?_
 ·show ([] ++ (List.replicate rs.length _).flatten).length = _
  rw [Hs, bG (sz := 6) (fun e he => by rw [List.eq_of_mem_replicate he]; rfl), List.length_replicate]
 rintro ⟨i, m⟩ ⟨hi, hm1, hm2, hm3⟩
 dsimp only at hi hm1 hm2 hm3 ⊢
 try dsimp only [Ht, Hs, Hr, Hn]
 repeat' (first|refine ae ?_|refine a6 ?_|refine a8 ?_|refine aa ?_|refine ah a7 rfl rfl ?_)
 refine ay rfl (fun h => ?_) (fun h => ?_)
 ·have hil : i < (dw rs).length := by have := Hz h; omega
  obtain ⟨a, ha⟩ : ∃ z, (dw rs)[i]? = some z := ⟨_, Eg hil⟩
  have hag := bU (l := (dw rs).map fun (n : Nat) => (n : Int)) (i := i) (z := (a : Int)) (by rw [List.getElem?_map, ha]; rfl)
  have halt : a < rs.length := hok.2 a (Hx ha)
  have hrg := bU (e8 halt)
  have hfg := bU (e8 (l := nH rs) (i := a) (by omega))
  have hsucc : ((dw rs).take (i + 1)).map (iV f.Chars rs) = ((dw rs).take i).map (iV f.Chars rs) ++ [iV f.Chars rs a] := by rw [List.take_add_one, ha, List.map_append]; rfl
  have hel : (((dw rs).take i).map (iV f.Chars rs)).length = i := by rw [Hv, List.length_take]; omega
  have hgl := Dk f.Chars (rs.getD a 0)
  clear h
  generalize ((dw rs).take i).map (iV f.Chars rs) = es at *
  have hfe := gD es
  unfold dQ dE
  dsimp only
  repeat' (first|refine ae ?_|refine a6 ?_|refine ar ?_|refine aq ?_|refine a8 ?_|refine aa ?_|refine ah a7 rfl rfl ?_|(apply aO; first|refine aN a7 ?_|refine aH a7 ?_)|fail)
  refine bF 14 [(0, .v), (1, .v), (2, .v), (3, .v), (4, .v), (5, .v), (7, .v), (8, .v), (9, .v), (10, .v), (11, .v), (6, .e), (12, .v), (13, .v)] none ?_ trivial rfl (by kernel_rfl) (by kernel_rfl) (by kernel_rfl) mixed (by kernel_rfl) rfl
  repeat' (first|refine aM ?_|refine bD a7 ?_|(apply dk;refine dT a7 ?_)|fail)
  refine kx 1 (.int .i64 0) Tryz.underlying96 Tryz.underlying3 rfl rfl rfl rfl (by kernel_rfl) trivial ?_
  rw [hgl]
  repeat' (first|refine aM ?_|refine bD a7 ?_|refine iK a7 ?_|fail)
  refine bM [1, 5, 10, 46, 47, 48, 52, 65] rfl rfl ?_
  repeat' (first|fail)
  refine pB a7 0 rfl rfl rfl rfl rfl rfl rfl hm3 hm1 hm2 (by unfold maxLen; omega) (by omega) rfl fun b' cs' cap' c1 c2 c3 c4 => ?_
  rw [List.take_left' (show (dy es).length = es.length * 6 from hfe)] at c2
  repeat' (first|refine a6 ?_|refine a8 ?_|refine aR ?_|refine aa ?_|refine ah a7 rfl rfl ?_|(apply b6; refine aZ ?_)|fail)
  have hcs : cs' = dy (es ++ [iV f.Chars rs a]) ++ cs'.drop ((es.length + 1) * 6) := by
   conv => lhs; rw [← List.take_append_drop ((es.length + 1) * 6) cs', c2]
   rw [pg]
   rfl
  have hel2 : (es ++ [iV f.Chars rs a]).length = es.length + 1 := by rw [List.length_append]; rfl
  refine aF (i + 1, ⟨b', cap', cs'.drop ((es.length + 1) * 6)⟩) rfl ⟨by dsimp only; rw [hsucc]; rw [hel2]; rfl, by rw [Hw]; rfl, trivial⟩ ⟨hil, by dsimp only; rw [hsucc, hel2]; omega, c4, by dsimp only; rw [hsucc, ← hcs, c1]⟩ (by dsimp only; omega) (fun _ _ h => by dsimp only; rw [hsucc]; rw [← hcs]; exact h)
 ·have hil : i = (dw rs).length := by have := Hy h; omega
  subst hil
  rw [List.take_length] at hm1 hm3 ⊢
  clear h
  repeat' (first|refine ae ?_|refine a6 ?_|refine am ?_|refine aL ?_|refine a8 ?_|refine av ?_|refine aA ?_|refine az ?_|refine aa ?_|refine ah a7 rfl rfl ?_)
  refine ez (cs := [dQ (some m) (cx f rs)]) (dE (some m) (cx f rs)) ⟨rfl, trivial⟩ (List.sublist_append_left ..) ⟨some m, ⟨fun h => by (cases h), fun m' hm => ?_⟩, rfl, rfl⟩
  cases hm
  exact ⟨hm1, hm2, Nat.le_of_eq hm3.symm⟩
end Go.Proofs.YtamjlkdanllgjaaGreatDoor
namespace Go.Proofs.YtamjlkdanllgjaaGreatDoor
open Go.RowKit
end Go.Proofs.YtamjlkdanllgjaaGreatDoor
namespace Go.Proofs.YtamjlkdanllgjaaGreatDoor
open Go.RowKit
attribute [local irreducible] AT br AX AO Av Kt aW cZ DA cw
set_option maxRecDepth 8000
structure mV (e : wT) : Prop where
 few : e.l.Rules.length ≤ 6
 ends : Cx e
 fore : ∀ gl, yY e.cls e.fore e.foreE gl = bY (fa (e.l.Rules.map dV) (xY e.l.Rules) gl) (e.l.Rules.map dV).length
 back : ∀ gl, yY e.cls e.back e.backE gl = bY (fa (e.l.Rules.map bn.Back) (fun _ => true) gl) (e.l.Rules.map bn.Back).length
 long : jB e.l.Rules ≤ 1000000 ∧ jy e.l.Rules ≤ 1000000
section
variable {e : wT} (h : mV e)
include h
end
def Gj (E : sB) (l : bk) (run : List b8) (i : Nat) (forms : List Int) : AV := match qj E.ms l run i forms with
 | none => .tup [Fh, .sc (.slice none 0 0)]
 | some r => .tup [.iptr (bL (oy r)), .imm 1 (Cl (jo E.ms l run i r))]
abbrev Gx (wb : Nat) (E : sB) (q : Option lg) (run : List b8) : AL := Hh wb (.iptr (nr E)) q run ++ [gR]
end Go.Proofs.YtamjlkdanllgjaaGreatDoor
namespace Go.Proofs.YtamjlkdanllgjaaGreatDoor
open Go.RowKit
section
variable {P : Program} {tt : TT} {r : Option Nat} {ops : Array Oper} {Q : Exit → Act → World → Prop} {nt : Nat} {D : List Deferred} {fr : bJ} {B : Bs} {L : AL} {rest : List Oper} {d : Nat} {ty t t' : TypeId} {pos : String} {af : Array Edge} {g : Option (Nat × Bool)} {x y z : Operand} {u : AV}
theorem CJ (ok : dG P tt) {dd : Option Tmp} {n e : Nat} {k : IntKind} {i : Nat} {a : Int} {cs : List AV} (ht : sP tt t = some (n, e, 1)) (he : BC tt e = true) (hx : bh fr x = some (.agg cs)) (hy : bh fr y = some (.sc (.int k a))) (ha : a = (i : Int)) (h0 : i < n) (hu : cs[i]? = some u) : Av P ⟨dd, .index t x y, ty, pos, af, g⟩ fr u := by
 intro σ ρ w hρ _
 subst ha
 obtain ⟨h1, h2⟩ := fK ok ht
 have hc := c7 ok he
 have hyv := (hρ y _ hy).sc_inv
 obtain ⟨vs, hv, hs, _⟩ := (hρ x _ hx).agg_inv
 obtain ⟨v, g1, g2⟩ := hs.get hu
 have hso : (sizeOf e : Sem Nat).run P w = .ok 1 w := by
  cases hi : P.info? e with
  | none => rw [hi] at h2; cases h2
  | some i => rw [hi] at h2; simp at h2; simp [sizeOf, typeInfo, hi, h2]
 refine ⟨v, ?_, g2⟩
 have h3 : (i : Int) < n := by omega
 simp [execOp, hv, hyv, Instr.index, asIntOf, run_underlying h1, h3, hso, part, hc.agg w, g1]
 intro hle
 omega
theorem DG (ok : dG P tt) (i : Nat) {n e : Nat} {k : IntKind} {a : Int} {cs : List AV} (ht : sP tt t = some (n, e, 1)) (he : BC tt e = true) (hx : bh fr x = some (.agg cs)) (hy : bh fr y = some (.sc (.int k a))) (ha : a = (i : Int)) (h0 : i < n) (hu : cs[i]? = some u) (hd : Nat.ble nt d = false) (h : br P r ops Q nt D rest ((d, u) :: fr) B L) : br P r ops Q nt D (⟨some d, .index t x y, ty, pos, af, none⟩ :: rest) fr B L := cg (CJ ok ht he hx hy ha h0 hu) hd rfl h
end
end Go.Proofs.YtamjlkdanllgjaaGreatDoor
namespace Go.Proofs.YtamjlkdanllgjaaGreatDoor
open Go.RowKit
attribute [local irreducible] AT br AX AO Av Kt aW cZ DA cw
set_option maxRecDepth 8000
theorem vM (run : List b8) (junk : List AV) {k : Nat} (h : k ≤ run.length) : (dy run ++ junk).take (k * 6) = dy (run.take k) := by
 have e : dy run = dy (run.take k) ++ dy (run.drop k) := by rw [← pg, List.take_append_drop]
 have hl := gD (run.take k)
 rw [List.length_take, Nat.min_eq_left h] at hl
 rw [e, List.append_assoc, ← hl, List.take_left]
set_option maxRecDepth 8000
def H9 (x : b8) (l : List Int) : List b8 := l.map fun g => { x with Glyph := g }
set_option maxRecDepth 8000
structure GZ (run : List b8) : Prop where
 len : run.length ≤ 500
 mono : run.Pairwise fun a b => a.Cluster ≤ b.Cluster
set_option maxRecDepth 8000
set_option maxRecDepth 8000
structure El (run : List b8) (ps : List Nat) : Prop where
  some_ : ps ≠ []
  lt : ∀ j ∈ ps, j < run.length
  inc : ps.Pairwise (· < ·)
structure sD (r : bn) : Prop where
 some_ : r.In ≠ []
 out : r.Out.length ≤ 1000000
 calls : r.Calls.length ≤ 1000000
 at_ : ∀ c ∈ r.Calls, 0 ≤ c.At ∧ c.At ≤ 1000000
abbrev Df (wb : Nat) (e : wT) (r : bn) (ps : List Nat) (deep : Nat) : List AV := [f0 wb, .iptr (gm e), .iptr (bL (oy r)), .imm 1 (Cl ps), aD deep]
def x4 (wb : Nat) (E : sB) (run' : List b8) : AV → AL → Prop := fun _ L => ∃ q', iw q' run' ∧ L = Gx wb E q' run'
section
variable {E : sB} {wb : Nat} {m : lg} {run : List b8} (hq : iw (some m) run) (hr : run.length ≤ 1000000) {e : wT} {r : bn} (hro : sD r) {ps : List Nat} (hps : El run ps) (deep : Nat)
include hq hr hro hps
end
end Go.Proofs.YtamjlkdanllgjaaGreatDoor
namespace Go.Proofs.YtamjlkdanllgjaaGreatDoor
open Go.RowKit
attribute [local irreducible] AT br AX AO Av Kt aW cZ DA cw
set_option maxRecDepth 8000
structure mX (E : sB) : Prop where
 auto : ∀ e ∈ E.lks, 1 ≤ e.l.Kind → e.l.Kind ≤ 6 → mV e
 rule : ∀ e ∈ E.lks, ∀ r ∈ e.l.Rules, r.In ≠ [] → sD r
abbrev sB.ls (E : sB) : List bk := E.lks.map (·.l)
def H5 (a b : Nat) : Prop := b ≤ max a 500
section
variable {E : sB} (hE : mX E) (wb : Nat)
def GW (E : sB) (wb deep k : Nat) : Prop := ∀ (e : wT) (r : bn) (ps : List Nat) (q : Option lg) (run : List b8), e ∈ E.lks → 1 ≤ e.l.Kind → e.l.Kind ≤ 6 → sD r → El run ps → iw q run → run.length ≤ 1000000 →
 AC Tryz.prog 285 (Df wb e r ps deep) (Gx wb E q run) (x4 wb E (Eh E.ms E.ls k e.l r ps run))
def FY (E : sB) (wb deep k : Nat) : Prop := ∀ (n : Int) (i : Nat) (q : Option lg) (run : List b8), i < run.length → iw q run → run.length ≤ 1000000 →
 AC Tryz.prog 357 [f0 wb, aD n, aD i, aD deep] (Gx wb E q run) (x4 wb E (Ce E.ms E.ls (Eh E.ms E.ls k) n i run))
end
end Go.Proofs.YtamjlkdanllgjaaGreatDoor
namespace Go.Proofs.YtamjlkdanllgjaaGreatDoor
open Go.RowKit
attribute [local irreducible] AT br AX AO Av Kt aW cZ DA cw
set_option maxRecDepth 8000
theorem Da (run : List b8) (hr : run.length ≤ 1000000) : AC Tryz.prog 141 [.imm 6 (run.map cu)] [] fun c L => ∃ q, iw q run ∧ c = dQ q run ∧ L = dE q run := by
 refine aG Tryz.func141 rfl Tryz.ntmps141 rfl fun B => ?_
 have hml : (run.map cu).length = run.length := Hv ..
 repeat' (first|refine ae ?_|refine a6 ?_|refine a8 ?_|refine aa ?_|refine ah a7 rfl rfl ?_)
 refine qm a7 rfl rfl rfl rfl rfl fun b hb => ?_
 repeat' (first|refine a8 ?_|refine aa ?_)
 cases b with
 | true =>
  have hn : run = [] := by simpa using hb rfl
  subst hn
  repeat' (first|refine ae ?_|refine a6 ?_|refine am ?_|refine a8 ?_|refine aw ?_|refine aa ?_|refine ah a7 rfl rfl ?_|refine bK rfl ?_)
  refine bf (bA (t := 2) (c' := .imm 6 []) rfl fun σ v h => dA 6 h) ?_
  exact au rfl rfl ⟨none, ⟨fun _ => rfl, fun m h => by cases h⟩, rfl, rfl⟩
 | false =>
  repeat' (first|refine ae ?_|refine a6 ?_|refine aq ?_|refine a8 ?_|refine ah a7 rfl rfl ?_|refine DJ (d := 5) a7 rfl rfl fun _=>?_|refine bi rfl ?_)
  rename_i b5
  refine pA a7 0 rfl rfl rfl rfl (eW rfl rfl) rfl (Nat.zero_le _) (Nat.le_refl _) (Nat.zero_le _) (by rw [hml]; unfold maxLen; omega) (by rw [hml]; omega) rfl fun b' cs' cap' e1 e2 e3 e4 e5 => ?_
  repeat' (first|refine am ?_|refine a8 ?_|refine aa ?_|refine ah a7 rfl rfl ?_)
  have hcs : cs' = dy run ++ cs'.drop (run.length * 6) := by
   conv => lhs; rw [← List.take_append_drop (run.length * 6) cs']
   rw [Nat.zero_add, hml] at e2
   rw [e2]
   rfl
  refine au rfl rfl ⟨some ⟨b', cap', cs'.drop (run.length * 6)⟩, ⟨fun h => (by cases h), fun m hm => ?_⟩, ?_, ?_⟩
  ·cases hm
   dsimp only
   rw [← hcs]
   exact ⟨by omega, e4, e1⟩
  ·unfold dQ
   dsimp only
   rw [Nat.zero_add, hml]
  ·unfold dE
   dsimp only
   rw [← hcs]
   rfl
set_option maxRecDepth 8000
section
variable {E : sB} (hE : mX E) (wb : Nat)
include hE
end
end Go.Proofs.YtamjlkdanllgjaaGreatDoor
