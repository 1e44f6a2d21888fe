/-
  The program: subset.Font.
-/
import Derived.Test.YtjjpkibjffmceaaGreatM23
import Derived.Test.YtjjpkibjffmceaaGreatM19
import Derived.Test.YtjjpkibjffmceaaGreatM22
import Derived.Test.YtjjpkibjffmceaaGreatM06
import Derived.Test.YtjjpkibjffmceaaGreatM20
import Derived.Test.YtjjpkibjffmceaaGreatM18
namespace Go.Proofs.YtjjpkibjffmceaaGreat
open Go.RowKit
attribute [local irreducible] AT bV AX AO Av Kt bC eH DA dl
open Go.MapKept
theorem sm.few {g : bo} (h : sm g) : El g := ⟨by have := h.pts.1; omega, by have := h.ends.1; omega, by have := h.parts.1; omega, by have := h.anchors.1; omega, by have := h.deltas.1; omega, by have := h.hint.1; omega⟩
theorem oD.few {l : List (List Int)} (h : oD l) : l.length ≤ 1000000 ∧ ∀ q ∈ l, q.length ≤ 1000000 := ⟨by have := h.1; omega, fun q hq => by have := (h.2 q hq).1; omega⟩
theorem o8.few {r : bX} (h : o8 r) : vv r := ⟨h.back.few, h.ins.few, h.ahead.few, by have := h.out.1; omega, by have := h.calls.1; omega⟩
theorem AP.few {l : ba} (h : AP l) : Em l := ⟨by have := h.rules.1; omega, fun r hr => (h.rules.2 r hr).few⟩
set_option maxHeartbeats 2000000 in
theorem x4 (f : aI) (hf : mE f) (mg ml : Nat) (G K : List Int) (hG : co f.Glyphs.length G) (n : Int) (hn : n ∈ G) : AC Tryz.prog 26 [aM n, .iptr (cK f mg ml), .iptr (ce f)] (kL mg ml G K) fun c L => (∃ y b, c = .tup [.agg (bA y), cO b] ∧ f.Glyphs[n.toNat]?.map (ij G) = if b = true then some y else none) ∧ L = kL mg ml G K := by
 refine aQ Tryz.func26 rfl Tryz.ntmps26 rfl fun B => ?_
 have hd := hG.dom n hn
 obtain ⟨g, hg⟩ : ∃ x, f.Glyphs[n.toNat]? = some x := ⟨_, Ee (by omega)⟩
 have hgg := bn (c := bA) hg
 have hc := sO f mg ml G K g (hf.glyphs.2 g (Gx hg)).few
 repeat' (first|refine ae ?_|refine a6 ?_|refine a7 ?_|refine a8 ?_|refine aa a2 rfl rfl ?_|refine b7 a2 fun _=>?_|fail)
 rename_i b
 refine bt 6 [(0, .v), (1, .v), (2, .v), (3, .v), (4, .v), (5, .v)] none ?_ trivial rfl (by kernel_rfl) (by kernel_rfl) (by kernel_rfl) mixed (by kernel_rfl) rfl
 repeat' (first|refine aC ?_|refine aZ a2 ?_|(apply ca;refine ck a2 ?_)|fail)
 refine bq [4, 6, 11] rfl rfl ?_
 repeat' (first|fail)
 refine bb (kL mg ml G K) [(b, _)] hc rfl rfl (List.perm_append_singleton _ _).symm rfl fun c L1 ⟨hc, hL⟩ => ?_
 subst hc; subst hL
 repeat' (first|refine aq ?_|refine a7 ?_|refine a8 ?_|refine aa a2 rfl rfl ?_|(apply aG; first|refine ai a2 0 rfl rfl rfl rfl rfl rfl rfl ?_|refine ai a2 1 rfl rfl rfl rfl rfl rfl rfl ?_|refine ai a2 2 rfl rfl rfl rfl rfl rfl rfl ?_|refine ai a2 3 rfl rfl rfl rfl rfl rfl rfl ?_|fail))
 exact eP (cs := [.agg (bA (ij G g)), cO true]) (kL mg ml G K) ⟨⟨_, 2, _, _, rfl, rfl, .inr ⟨dm a2 rfl, rfl⟩⟩, rfl, trivial⟩ (List.sublist_append_left (kL mg ml G K) [_]) ⟨⟨ij G g, true, rfl, by rw [hg]; rfl⟩, rfl⟩
set_option maxHeartbeats 2000000 in
theorem zw (f : aI) (hf : mE f) (mg ml : Nat) (G K : List Int) (hG : co f.Glyphs.length G) (n : Int) (hn : 0 ≤ n ∧ n < f.Lookups.length) : AC Tryz.prog 30 [aM n, .iptr (cK f mg ml), .iptr (ce f)] (kL mg ml G K) fun c L => (∃ y b, c = .tup [.agg (bj y), cO b] ∧ f.Lookups[n.toNat]?.map (gr f G K) = if b = true then some y else none) ∧ L = kL mg ml G K := by
 refine aQ Tryz.func30 rfl Tryz.ntmps30 rfl fun B => ?_
 obtain ⟨g, hg⟩ : ∃ x, f.Lookups[n.toNat]? = some x := ⟨_, Ee (by omega)⟩
 have hgg := bn (c := bj) hg
 have hc := BY f mg ml G K hG g (hf.looks.2 g (Gx hg)).few
 repeat' (first|refine ae ?_|refine a6 ?_|refine a7 ?_|refine a8 ?_|refine aa a2 rfl rfl ?_|refine b7 a2 fun _=>?_|fail)
 rename_i b
 refine bt 6 [(0, .v), (1, .v), (2, .v), (3, .v), (4, .v), (5, .v)] none ?_ trivial rfl (by kernel_rfl) (by kernel_rfl) (by kernel_rfl) mixed (by kernel_rfl) rfl
 repeat' (first|refine aC ?_|refine aZ a2 ?_|(apply ca;refine ck a2 ?_)|fail)
 refine bq [4, 6, 11] rfl rfl ?_
 repeat' (first|fail)
 refine bb (kL mg ml G K) [(b, _)] hc rfl rfl (List.perm_append_singleton _ _).symm rfl fun c L1 ⟨hc, hL⟩ => ?_
 subst hc; subst hL
 repeat' (first|refine aq ?_|refine a7 ?_|refine a8 ?_|refine aa a2 rfl rfl ?_|(apply aG; first|refine ai a2 0 rfl rfl rfl rfl rfl rfl rfl ?_|refine ai a2 1 rfl rfl rfl rfl rfl rfl rfl ?_|refine ai a2 2 rfl rfl rfl rfl rfl rfl rfl ?_|refine ai a2 3 rfl rfl rfl rfl rfl rfl rfl ?_|fail))
 exact eP (cs := [.agg (bj (gr f G K g)), cO true]) (kL mg ml G K) ⟨⟨_, 2, _, _, rfl, rfl, .inr ⟨dm a2 rfl, rfl⟩⟩, rfl, trivial⟩ (List.sublist_append_left (kL mg ml G K) [_]) ⟨⟨gr f G K g, true, rfl, by rw [hg]; rfl⟩, rfl⟩
theorem xD (r : List ea) (hr : r.length ≤ 1000000) : AC Tryz.prog 34 [.agg (bk r)] [] fun c L => (∃ y b, c = .tup [.agg (bk y), cO b] ∧ some r = if b = true then some y else none) ∧ L = [] := by
 refine aQ Tryz.func34 rfl Tryz.ntmps34 rfl fun B => ?_
 haveI := AD.mk (Bg r hr)
 repeat' (first|refine ae ?_|refine a6 ?_|refine aq ?_|refine a7 ?_|refine a8 ?_|refine aa a2 rfl rfl ?_|(apply aG; first|refine ai a2 0 rfl rfl rfl rfl rfl rfl rfl ?_|refine ai a2 1 rfl rfl rfl rfl rfl rfl rfl ?_|refine ai a2 2 rfl rfl rfl rfl rfl rfl rfl ?_|refine ai a2 3 rfl rfl rfl rfl rfl rfl rfl ?_|fail)|refine bg ?_|refine b7 a2 fun _=>?_|(apply bh;refine bc ?_)|fail)
 exact eP (cs := [.agg (bk r), cO true]) [] ⟨⟨_, 0, _, _, rfl, rfl, .inr ⟨dm a2 rfl, rfl⟩⟩, rfl, trivial⟩ (List.nil_sublist _) ⟨⟨r, true, rfl, rfl⟩, rfl⟩
theorem Bk (r : List ew) (hr : r.length ≤ 1000000) : AC Tryz.prog 37 [.imm 2 (r.map dS)] [] fun c L => (∃ y b, c = .tup [.imm 2 (y.map dS), cO b] ∧ some r = if b = true then some y else none) ∧ L = [] := by
 refine aQ Tryz.func37 rfl Tryz.ntmps37 rfl fun B => ?_
 haveI := AD.mk (vG r hr)
 repeat' (first|refine ae ?_|refine a6 ?_|refine aq ?_|refine a7 ?_|refine a8 ?_|refine aa a2 rfl rfl ?_|(apply bh;refine bc ?_)|fail)
 exact b9 rfl rfl rfl ⟨⟨r, true, rfl, rfl⟩, rfl⟩
theorem mr (f : aI) (fs : List ByteArray) : (reachN f fs).Nodup := by
 unfold reachN
 refine List.Nodup.sublist List.filter_sublist ?_
 unfold List.Nodup
 rw [List.pairwise_map]
 exact List.nodup_range.imp fun h => fun e => h (Int.ofNat_inj.1 e)
theorem va {f : aI} {fs : List ByteArray} {z : Int} (h : z ∈ reachN f fs) : 0 ≤ z ∧ z < f.Lookups.length := by
 unfold reachN at h
 obtain ⟨k, hk, e⟩ := List.mem_map.1 (List.mem_filter.1 h).1
 have := List.mem_range.1 hk
 subst e
 exact ⟨Int.natCast_nonneg k, Int.ofNat_lt.2 this⟩
set_option maxHeartbeats 8000000 in
theorem pY (f : aI) (hf : mE f) (hs : er f) (rs : List Int) (fs : List ByteArray) (G : List Int) (hG : co f.Glyphs.length G) (hg : bQ Tryz.prog 12 [ct f, o9 rs fs] (.tup [.imm 1 (aT G), aM 0])) : bQ Tryz.prog 11 [ct f, o9 rs fs] (.tup [ct (oY f rs fs G (reachN f fs)), .imm 1 (aT G), aM 0]) := by
 refine aQ Tryz.func11 rfl Tryz.ntmps11 rfl fun B => ?_
 haveI := AD.mk hg
 haveI a1 : AD Tryz.prog 13 [ct f, .imm 1 (ey fs)] (.imm 1 (aT (reachN f fs))) := ⟨mc f fs hs⟩
 unfold ct o9 at *
 repeat' (first|refine ae ?_|refine a6 ?_|refine ar ?_|refine a7 ?_|refine a8 ?_|refine aa a2 rfl rfl ?_|refine bg ?_|refine b7 a2 fun _=>?_|(apply bh;refine bc ?_)|refine bN rfl ?_)
 rename_i b
 refine bt 7 [(0, .v), (1, .v), (3, .v), (2, .e), (4, .e), (5, .v)] (some (6, .box _ 102)) ?_ ⟨_, rfl, rfl, fun _ _ _ => ii (f9 a2 rfl) rfl⟩ rfl (by kernel_rfl) (by kernel_rfl) (by kernel_rfl) mixed (by kernel_rfl) rfl
 repeat' (first|refine aC ?_|refine aZ a2 ?_|fail)
 refine f7 [] [(b, _)] (nT G hG.nodup) rfl rfl (Gm _) (by first | trivial | rfl) fun c L1 ⟨mg, hc, hL⟩ => ?_
 subst hc; subst hL
 repeat' (first|refine aC ?_|fail)
 refine f7 [] [(mg, _), (b, _)] (nT (reachN f fs) (mr f fs)) rfl rfl (Gm _) (by first | trivial | rfl) fun c L1 ⟨ml, hc, hL⟩ => ?_
 subst hc; subst hL
 repeat' (first|refine aC ?_|refine aZ a2 ?_|fail)
 refine lQ [2, 3, 4, 7, 9, 10, 31] (fun _ => _) (fun _ => rfl) rfl fun _ => ?_
 repeat' (first|refine ae ?_|refine a7 ?_|refine a8 ?_|(apply aG; first|refine ai a2 0 rfl rfl rfl rfl rfl rfl rfl ?_|refine ai a2 1 rfl rfl rfl rfl rfl rfl rfl ?_|refine ai a2 2 rfl rfl rfl rfl rfl rfl rfl ?_|refine ai a2 3 rfl rfl rfl rfl rfl rfl rfl ?_|fail))
 refine bI (mC (t := 10) 3 rfl rfl rfl) ?_
 refine bI (aK (L' := (mg, cq KJ (kr G)) :: (ml, cq KJ (kr (reachN f fs))) :: [(b, _)]) (List.Perm.swap _ _ _)) ?_
 generalize hK : reachN f fs = K
 have hKd : ∀ z ∈ K, 0 ≤ z ∧ z < f.Lookups.length := fun z hz => va (by rw [hK]; exact hz)
 have hKl : K.length ≤ 1000000 := by
  have := gK (by rw [← hK]; exact mr f fs) hKd
  have := hf.looks.1
  omega
 have hGl : G.length ≤ 1000000 := by
  have := hG.len
  have := hf.glyphs.1
  omega
 have e1 := Dq (u := .fn 26 [.iptr (cK f mg ml), .iptr (ce f)]) rfl G hGl (fun n => f.Glyphs[n.toNat]?.map (ij G)) (kL mg ml G K) fun n hn => .fn (x4 f hf mg ml G K hG n hn)
 have e2 := yI f (by have := hf.chars.1; omega) mg ml G K rs
 have e3 := Dr (u := .fn 30 [.iptr (cK f mg ml), .iptr (ce f)]) rfl K hKl (fun n => f.Lookups[n.toNat]?.map (gr f G K)) (kL mg ml G K) fun n hn => .fn (zw f hf mg ml G K hG n (hKd n hn))
 have e4 := Be f.Axes (by have := hf.axes.1; omega)
 have e5 := Ds (u := .sc (.func (.func 34) #[] #[])) rfl f.Regions (by have := hf.regs.1; omega) some [] fun r hr => .fn0 (xD r (by have := (hf.regs.2 r hr).1; omega))
 have e6 := Dt (u := .sc (.func (.func 37) #[] #[])) rfl f.Funcs (by have := hf.funcs.1; omega) some [] fun r hr => .fn0 (Bk r (by have := (hf.funcs.2 r hr).1; omega))
 have e7 := vH f.Cvt (by have := hf.cvt.1; omega)
 have e8 := sX f (by have := hf.feats.1; omega) (fun t ht => by have := (hf.feats.2 t ht).2.1; omega) mg ml G K fs
 rw [List.filterMap_some] at e5 e6
 haveI := AD.mk e4
 haveI : AD Tryz.prog 39 [.imm 1 (aT f.Cvt)] (.imm 1 (aT f.Cvt)) := AD.mk e7
 repeat' (first|fail)
 refine bt 26 [(0, .v), (1, .v), (2, .v), (3, .v), (5, .v), (6, .v), (7, .v), (9, .v), (10, .v), (12, .v), (13, .v), (15, .v), (16, .v), (18, .v), (19, .v), (21, .v), (22, .v), (4, .e), (8, .e), (11, .e), (14, .v), (17, .e), (20, .e), (23, .v), (24, .v)] (some (25, .box _ 36)) ?_ ⟨_, rfl, rfl, fun _ _ _ => ii (f9 a2 rfl) rfl⟩ rfl (by kernel_rfl) (by kernel_rfl) (by kernel_rfl) mixed (by kernel_rfl) rfl
 repeat' (first|refine aC ?_|refine aZ a2 ?_|fail)
 refine f7 (kL mg ml G K) [(b, _)] e1 rfl rfl (Gm _) (by first | trivial | rfl) fun c L1 ⟨hc, hL⟩ => ?_
 subst hc; subst hL
 repeat' (first|refine aC ?_|fail)
 refine f7 (kL mg ml G K) [(b, _)] e2 rfl rfl (Gm _) (by first | trivial | rfl) fun c L1 ⟨hc, hL⟩ => ?_
 subst hc; subst hL
 repeat' (first|refine aC ?_|fail)
 refine f7 (kL mg ml G K) [(b, _)] e3 rfl rfl (Gm _) (by first | trivial | rfl) fun c L1 ⟨hc, hL⟩ => ?_
 subst hc; subst hL
 repeat' (first|refine aC ?_|(apply bB;refine bP ?_)|fail)
 refine f7 [] (kL mg ml G K ++ [(b, _)]) e5 rfl rfl (Gm _) (by first | trivial | rfl) fun c L1 ⟨hc, hL⟩ => ?_
 subst hc; subst hL
 repeat' (first|refine aC ?_|fail)
 refine f7 [] (kL mg ml G K ++ [(b, _)]) e6 rfl rfl (Gm _) (by first | trivial | rfl) fun c L1 ⟨hc, hL⟩ => ?_
 subst hc; subst hL
 repeat' (first|refine aC ?_|refine aZ a2 ?_|(apply bB;refine bP ?_)|fail)
 refine lQ [3, 4, 7, 10, 11, 56] (fun _ => _) (fun _ => rfl) rfl fun _ => ?_
 repeat' (first|refine ae ?_|refine a6 ?_|refine a7 ?_|refine a8 ?_|refine aa a2 rfl rfl ?_|(apply aG; first|refine ai a2 0 rfl rfl rfl rfl rfl rfl rfl ?_|refine ai a2 1 rfl rfl rfl rfl rfl rfl rfl ?_|refine ai a2 2 rfl rfl rfl rfl rfl rfl rfl ?_|refine ai a2 3 rfl rfl rfl rfl rfl rfl rfl ?_|fail))
 rename_i bs
 refine bb (kL mg ml G K) [(b, _), (bs, _)] e8 rfl rfl (Gm _) rfl fun c L1 ⟨hc, hL⟩ => ?_
 subst hc; subst hL
 repeat' (first|refine ae ?_|refine a6 ?_|refine a7 ?_|refine a8 ?_|refine aa a2 rfl rfl ?_|(apply aG; first|refine ai a2 0 rfl rfl rfl rfl rfl rfl rfl ?_|refine ai a2 1 rfl rfl rfl rfl rfl rfl rfl ?_|refine ai a2 2 rfl rfl rfl rfl rfl rfl rfl ?_|refine ai a2 3 rfl rfl rfl rfl rfl rfl rfl ?_|fail))
 refine aD a2 3 rfl rfl rfl rfl rfl ?_
 repeat' (first|refine aq ?_|refine a7 ?_|refine a8 ?_|refine aa a2 rfl rfl ?_|(apply aG; first|refine ai a2 0 rfl rfl rfl rfl rfl rfl rfl ?_|refine ai a2 1 rfl rfl rfl rfl rfl rfl rfl ?_|refine ai a2 2 rfl rfl rfl rfl rfl rfl rfl ?_|refine ai a2 3 rfl rfl rfl rfl rfl rfl rfl ?_|fail))
 exact eP (cs := [ct (oY f rs fs G K), .imm 1 (aT G), aM 0]) [] ⟨⟨_, 2, _, _, rfl, rfl, .inr ⟨dm a2 rfl, rfl⟩⟩, rfl, rfl, trivial⟩ (List.nil_sublist _) rfl
end Go.Proofs.YtjjpkibjffmceaaGreat
namespace Go.Proofs.YtjjpkibjffmceaaGreat
open Go.RowKit
attribute [local irreducible] AT bV AX AO Av Kt bC eH DA dl
def DT : ByteArray := ⟨#[108, 105, 103, 97]⟩
def zQ : ByteArray := ⟨#[99, 97, 108, 116]⟩
def FC : ByteArray := ⟨#[110, 111, 110, 101]⟩
def zn (fs : List ByteArray) : List Int := (if fE fs DT || fE fs zQ then [0] else []) ++ (if fE fs zQ then [1] else [])
def Fe (rs : List Int) (fs : List ByteArray) : List Int := gH rH 6 (dQ rH rs) (eF rH (da 2 [] (nk (zn fs) 2)))
def FD : aI := ⟨0, [], [], [], [], [], [], [], []⟩
theorem rE {n : Nat} {l : List Int} {z : Int} : CK n l z = true ↔ (0 ≤ z ∧ z < n) ∧ z ∈ l := by
 unfold CK
 rw [Bool.and_eq_true, decide_eq_true_iff, List.contains_iff_mem]
theorem lr {f : aI} {S T : List Int} (h : ∀ z ∈ S, z ∈ T) {ign : Bool} {z : Int} (hs : iK f S ign z = true) : iK f T ign z = true := by
 unfold iK at hs ⊢
 rw [Bool.and_eq_true] at hs ⊢
 exact ⟨rE.2 ⟨(rE.1 hs.1).1, h _ (rE.1 hs.1).2⟩, hs.2⟩
theorem vq {h : iN} {p q : Int → Bool} (hpq : ∀ z, p z = true → q z = true) {z : Int} (hz : z ∈ kA h p) : z ∈ kA h q := by
 unfold kA at hz ⊢
 split
 ·rename_i hk
  rw [if_pos hk] at hz
  obtain ⟨x, hx, rfl⟩ := List.mem_map.1 hz
  rw [List.mem_filter] at hx
  exact List.mem_map.2 ⟨x, List.mem_filter.2 ⟨hx.1, hpq _ hx.2⟩, rfl⟩
 ·rename_i hk
  rw [if_neg hk] at hz
  exact hz
theorem kZ {f : aI} {S T : List Int} (h : ∀ z ∈ S, z ∈ T) {x : iN} {z : Int} (hz : z ∈ dR f S x) : z ∈ dR f T x := by
 unfold dR at hz ⊢
 split at hz
 ·rename_i hc
  rw [if_pos]
  ·exact vq (fun _ => lr h) hz
  ·rw [List.all_eq_true] at hc ⊢
   intro s hs
   have := hc s hs
   rw [List.any_eq_true] at this ⊢
   obtain ⟨y, hy, hp⟩ := this
   exact ⟨y, hy, lr h hp⟩
 ·cases hz
theorem rW {f : aI} {ks gs : List Int} {z : Int} : z ∈ fm f ks gs ↔ (z ∈ fp f (da f.Glyphs.length [] gs) ∨ ∃ h ∈ eF f (da f.Lookups.length [] ks), z ∈ dR f (da f.Glyphs.length [] gs) h) ∧ 0 ≤ z ∧ z < f.Glyphs.length := by
 unfold fm eJ
 rw [fV, List.mem_append, List.mem_flatMap]
 constructor
 ·rintro (h | h)
  ·cases h
  ·exact h
 ·exact Or.inr
theorem lG {n : Nat} {a b : List Int} (h : ∀ z ∈ a, z ∈ b) : ∀ z ∈ da n [] a, z ∈ da n [] b := by
 intro z hz
 rcases fV.1 hz with k | ⟨k, k2⟩
 ·cases k
 ·exact fV.2 (Or.inr ⟨h z k, k2⟩)
theorem kX {f : aI} {ks ks' gs gs' : List Int} (hk : ∀ z ∈ ks, z ∈ ks') (hg : ∀ z ∈ gs, z ∈ gs') : ∀ z ∈ fm f ks gs, z ∈ fm f ks' gs' := by
 intro z hz
 rw [rW] at hz ⊢
 refine ⟨?_, hz.2⟩
 rcases hz.1 with h | ⟨x, hx, h⟩
 ·refine Or.inl ?_
  unfold fp at h ⊢
  obtain ⟨y, hy, h⟩ := List.mem_flatMap.1 h
  exact List.mem_flatMap.2 ⟨y, lG hg y hy, h⟩
 ·refine Or.inr ⟨x, ?_, kZ (lG hg) h⟩
  unfold eF at hx ⊢
  obtain ⟨y, hy, h⟩ := List.mem_flatMap.1 hx
  exact List.mem_flatMap.2 ⟨y, lG hk y hy, h⟩
end Go.Proofs.YtjjpkibjffmceaaGreat
namespace Go.Proofs.YtjjpkibjffmceaaGreat
section
variable {f : aI}
theorem Aw {S T : List Int} (h : ∀ z ∈ S, z ∈ T) (x : iN) : dR f T (adv f S x) = dR f T x := by
 have hall : ∀ l : List (List Int), ((l.dropWhile fun s => s.any (iK f S x.ign)).all fun s => s.any (iK f T x.ign)) = l.all fun s => s.any (iK f T x.ign) := by
  intro l
  induction l with
  | nil => rfl
  | cons s l ih =>
   rw [List.dropWhile_cons]
   split
   ·rename_i hs
    have : (s.any (iK f T x.ign)) = true := by
     rw [List.any_eq_true] at hs ⊢
     obtain ⟨y, hy, hp⟩ := hs
     exact ⟨y, hy, lr h hp⟩
    rw [ih, List.all_cons, this, Bool.true_and]
   ·rfl
 unfold dR adv iN.rest
 dsimp only
 rw [hall]
 rfl
def kD (f : aI) (S : List Int) (hs hs' : List iN) : Prop := ∀ T, (∀ z ∈ S, z ∈ T) → hs.map (dR f T) = hs'.map (dR f T)
theorem kD.step {S : List Int} {hs hs' : List iN} (h : kD f S hs hs') {T : List Int} (hT : ∀ z ∈ S, z ∈ T) : eJ f T hs = eJ f T hs' := by
 unfold eJ
 rw [List.flatMap_def, List.flatMap_def, h T hT]
theorem kD.adv {S : List Int} {hs hs' : List iN} (h : kD f S hs hs') {T : List Int} (hT : ∀ z ∈ S, z ∈ T) : kD f T (hs.map (adv f S)) hs' := by
 intro U hU
 rw [← h U fun z hz => hU z (hT z hz), List.map_map]
 exact List.map_congr_left fun x _ => Aw (fun z hz => hU z (hT z hz)) x
theorem xY {S : List Int} {hs : List iN} {z : Int} : z ∈ eJ f S hs ↔ (z ∈ fp f S ∨ ∃ h ∈ hs, z ∈ dR f S h) ∧ 0 ≤ z ∧ z < f.Glyphs.length := by
 unfold eJ
 rw [fV, List.mem_append, List.mem_flatMap]
 exact ⟨fun h => h.elim (fun h => by cases h) id, .inr⟩
theorem lu {S T : List Int} (h : ∀ z ∈ S, z ∈ T) {hs : List iN} {z : Int} (hz : z ∈ eJ f S hs) : z ∈ eJ f T hs := by
 rw [xY] at hz ⊢
 refine ⟨?_, hz.2⟩
 rcases hz.1 with k | ⟨x, hx, k⟩
 ·refine .inl ?_
  unfold fp at k ⊢
  obtain ⟨y, hy, k⟩ := List.mem_flatMap.1 k
  exact List.mem_flatMap.2 ⟨y, h y hy, k⟩
 ·exact .inr ⟨x, hx, kZ h k⟩
theorem Am {S T : List Int} (hS : S.Nodup) (hT : T.Nodup) (h : ∀ z ∈ S, z ∈ T) (hl : T.length = S.length) : ∀ z ∈ T, z ∈ S := by
 intro z hz
 refine Classical.byContradiction fun hn => ?_
 have := rQ (S := z :: S) (T := T) (List.nodup_cons.2 ⟨hn, hS⟩) fun y hy => by
  rcases List.mem_cons.1 hy with rfl | hy
  ·exact hz
  ·exact h y hy
 rw [List.length_cons] at this
 omega
theorem tO (hs0 : List iN) : ∀ (k : Nat) (S : List Int) (hs : List iN), co f.Glyphs.length S → f.Glyphs.length < S.length + k → kD f S hs hs0 → ∀ K, gH f k S hs = K → co f.Glyphs.length K ∧ (∀ z ∈ S, z ∈ K) ∧ (∀ z ∈ eJ f K hs0, z ∈ K) ∧ ∀ C, (∀ z ∈ S, z ∈ C) → (∀ z ∈ eJ f C hs0, z ∈ C) → ∀ z ∈ K, z ∈ C
 | 0, S, hs, hS, hl, _, K, _ => by have := hS.len; omega
 | k + 1, S, hs, hS, hl, hh, K, hK => by
  have he : eJ f S hs = eJ f S hs0 := hh.step fun _ h => h
  have hsub := r6 (hs := hs) hS
  have hok := pU f S hs
  rw [gH] at hK
  split at hK
  ·rename_i heq
   subst hK
   refine ⟨hS, fun _ h => h, fun z hz => ?_, fun C hC _ => hC⟩
   rw [← he] at hz
   exact Am hS.nodup hok.nodup hsub heq z hz
  ·rename_i hne
   have hlen := rQ hS.nodup hsub
   obtain ⟨h1, h2, h3, h4⟩ := tO hs0 k (eJ f S hs) (hs.map (Go.Proofs.YtjjpkibjffmceaaGreat.adv f S)) hok (by omega) (hh.adv hsub) K hK
   refine ⟨h1, fun z hz => h2 z (hsub z hz), h3, fun C hC hcl => h4 C (fun z hz => ?_) hcl⟩
   rw [he] at hz
   exact hcl z (lu hC hz)
theorem co.start {n : Nat} {l : List Int} : co n (da n [] l) := co.nil.add _
open Classical in
theorem tL {fs : List ByteArray} {z : Int} : z ∈ reachN f fs ↔ ic f fs z := by
 unfold reachN
 rw [List.mem_filter, decide_eq_true_iff, List.mem_map]
 refine ⟨fun h => h.2, fun h => ⟨?_, h⟩⟩
 have := h.in
 exact ⟨z.toNat, by rw [List.mem_range]; omega, by simp; omega⟩
structure D0 (f : aI) (rs : List Int) (fs : List ByteArray) (K : List Int) : Prop where
 ok : co f.Glyphs.length K
 start : ∀ z ∈ dQ f rs, z ∈ K
 closed : ∀ z ∈ fm f (reachN f fs) K, z ∈ K
 least : ∀ C, (∀ z ∈ dQ f rs, z ∈ C) → (∀ z ∈ fm f (reachN f fs) C, z ∈ C) → ∀ z ∈ K, z ∈ C
theorem pB {ks C : List Int} {z : Int} (hz : z ∈ fm f ks C) : z ∈ eJ f C (eF f (da f.Lookups.length [] ks)) := by
 unfold fm at hz
 refine lu (fun y hy => ?_) hz
 rcases fV.1 hy with k | k
 ·cases k
 ·exact k.1
theorem pV {ks C : List Int} {z : Int} (hC : ∀ z ∈ C, 0 ≤ z ∧ z < f.Glyphs.length) (hz : z ∈ eJ f C (eF f (da f.Lookups.length [] ks))) : z ∈ fm f ks C := by
 unfold fm
 exact lu (fun y hy => fV.2 (.inr ⟨hy, hC y hy⟩)) hz
theorem ou (rs : List Int) (fs : List ByteArray) : D0 f rs fs (gY f rs fs) := by
 have hS : co f.Glyphs.length (dQ f rs) := co.start
 obtain ⟨h1, h2, h3, h4⟩ := tO (f := f) (eF f (da f.Lookups.length [] (reachN f fs))) (f.Glyphs.length + 1) (dQ f rs) _ hS (by omega) (fun T _ => rfl) _ rfl
 refine ⟨h1, h2, fun z hz => h3 z (pB hz), fun C hC hcl z hz => ?_⟩
 have := h4 (C.filter fun z => decide (0 ≤ z ∧ z < f.Glyphs.length)) (fun z hz => List.mem_filter.2 ⟨hC z hz, decide_eq_true (hS.dom z hz)⟩) (fun z hz => ?_) z hz
 ·exact (List.mem_filter.1 this).1
 ·have hd := (pU f _ _).dom z hz
  refine List.mem_filter.2 ⟨hcl z ?_, decide_eq_true hd⟩
  refine kX (fun _ h => h) (fun y hy => (List.mem_filter.1 hy).1) z (pV (fun y hy => ?_) hz)
  exact Gz (List.mem_filter.1 hy).2
theorem vc {fs fs' : List ByteArray} (h : ∀ s, fE fs s = true → fE fs' s = true) {z : Int} (hz : ic f fs z) : ic f fs' z := by
 induction hz with
 | base ht hn hm h0 h1 => exact .base ht (h _ hn) hm h0 h1
 | call _ hl hk hr hc hn ih => exact .call ih hl hk hr hc hn
theorem yw {rs rs' : List Int} (h : ∀ z ∈ rs, z ∈ rs') {z : Int} (hz : z ∈ dQ f rs) : z ∈ dQ f rs' := by
 unfold dQ at hz ⊢
 refine lG (fun y hy => ?_) z hz
 rcases List.mem_cons.1 hy with rfl | hy
 ·exact List.mem_cons_self ..
 ·refine Gt _ ?_
  unfold wx at hy ⊢
  obtain ⟨c, hc, rfl⟩ := List.mem_map.1 hy
  rw [List.mem_filter, decide_eq_true_iff] at hc
  exact List.mem_map.2 ⟨c, List.mem_filter.2 ⟨hc.1, decide_eq_true (h _ hc.2)⟩, rfl⟩
theorem xe {rs rs' : List Int} {fs fs' : List ByteArray} (hr : ∀ z ∈ rs, z ∈ rs') (hf : ∀ s, fE fs s = true → fE fs' s = true) : ∀ z ∈ gY f rs fs, z ∈ gY f rs' fs' := by
 have h := ou (f := f) rs fs
 have k := ou (f := f) rs' fs'
 refine h.least _ (fun z hz => k.start z (yw hr hz)) fun z hz => k.closed z ?_
 exact kX (fun y hy => tL.2 (vc hf (tL.1 hy))) (fun _ h => h) z hz
end
end Go.Proofs.YtjjpkibjffmceaaGreat
namespace Go.Proofs.YtjjpkibjffmceaaGreat
open Go.RowKit
attribute [local irreducible] AT bV AX AO Av Kt bC eH DA dl
structure f4 (f : aI) (rs rt : List Int) (fs ft : List ByteArray) : Prop where
 runes : ∀ c ∈ f.Chars, (c.Rune ∈ rs ↔ c.Rune ∈ rt)
 names : ∀ t ∈ f.Features, fE fs t.Name = fE ft t.Name
section
variable {f : aI} {rs rt : List Int} {fs ft : List ByteArray}
theorem f4.symm (h : f4 f rs rt fs ft) : f4 f rt rs ft fs := ⟨fun c hc => (h.runes c hc).symm, fun t ht => (h.names t ht).symm⟩
theorem f4.reach1 (h : f4 f rs rt fs ft) {z : Int} (hz : ic f fs z) : ic f ft z := by
 induction hz with
 | base ht hn hm h0 h1 => exact .base ht (by rw [← h.names _ ht]; exact hn) hm h0 h1
 | call _ hl hk hr hc hn ih => exact .call ih hl hk hr hc hn
theorem f4.reachN (h : f4 f rs rt fs ft) : reachN f fs = reachN f ft := by
 unfold Go.Proofs.YtjjpkibjffmceaaGreat.reachN
 refine List.filter_congr fun z _ => ?_
 exact decide_eq_decide.2 ⟨h.reach1, h.symm.reach1⟩
theorem f4.start (h : f4 f rs rt fs ft) : dQ f rs = dQ f rt := by
 unfold dQ wx
 rw [List.filter_congr fun c hc => decide_eq_decide.2 (h.runes c hc)]
theorem f4.kept (h : f4 f rs rt fs ft) : gY f rs fs = gY f rt ft := by
 unfold gY
 rw [h.reachN, h.start]
end
end Go.Proofs.YtjjpkibjffmceaaGreat
namespace Go.Proofs.YtjjpkibjffmceaaGreat
section
variable {α β : Type}
def bU (g : DM α) (P : α → Prop) : Prop := ∀ m, P (g m).1
theorem bU.ret {x : α} {P : α → Prop} (h : P x) : bU (cI x) P := fun _ => h
theorem bU.bnd {g : DM α} {k : α → DM β} {P : α → Prop} {Q : β → Prop} (h : bU g P) (hk : ∀ x, P x → bU (k x) Q) : bU (cf g k) Q := fun m => hk _ (h m) _
theorem bU.mono {g : DM α} {P Q : α → Prop} (h : bU g P) (hq : ∀ x, P x → Q x) : bU g Q := fun m => hq _ (h m)
theorem bU.any (g : DM α) : bU g fun _ => True := fun _ => trivial
theorem bU.runs {g : Nat → β → DM β} (I : Nat → β → Prop) {b : β} : ∀ (k : Nat), I 0 b → (∀ i l, i < k → I i l → bU (g i l) (I (i + 1))) → bU (gN g b k) (I k)
 | 0, h0, _ => bU.ret h0
 | k + 1, h0, hs => bU.bnd (bU.runs I k h0 fun i l hi hl => hs i l (by omega) hl) fun l hl => hs k l (by omega) hl
theorem bU.ite {c : Prop} [Decidable c] {g k : DM α} {P : α → Prop} (h : c → bU g P) (h' : ¬ c → bU k P) : bU (if c then g else k) P := by
 split
 ·exact h ‹_›
 ·exact h' ‹_›
end
variable (s : List Int)
theorem Bp (a : Nat) {n : Int} (hn : 0 < n) : 0 ≤ rx s a n ∧ rx s a n < n := by
 unfold rx
 split
 ·rename_i x _
  exact ⟨Int.emod_nonneg x (by omega), Int.emod_lt_of_pos x hn⟩
 ·omega
theorem cW {n : Int} (hn : 0 < n) : bU (dr s n) fun z => 0 ≤ z ∧ z < n := fun m => Bp s m.a hn
def tK (p : eB) : Prop := -100 ≤ p.X ∧ p.X ≤ 900 ∧ -200 ≤ p.Y ∧ p.Y ≤ 800
theorem E2 (p : Nat) : bU (CU s p) tK := by
 refine (cW s (by omega)).bnd fun x hx => (cW s (by omega)).bnd fun y hy => bU.ite (fun _ => bU.ret ?_) fun _ => (bU.any _).bnd fun z _ => bU.ret ?_
 all_goals (unfold tK; dsimp only; omega)
theorem w8 (l : List eB) (hl : ∀ p ∈ l, tK p) (k : Nat) : bU (nh s l k) fun q => q.length = l.length + k ∧ ∀ p ∈ q, tK p := by
 refine bU.runs (fun i (q : List eB) => q.length = l.length + i ∧ ∀ p ∈ q, tK p) k ⟨rfl, hl⟩ fun i q _ ⟨h1, h2⟩ => (E2 s i).bnd fun t ht => bU.ret ⟨by simp; omega, fun p hp => ?_⟩
 rcases Gl hp with hp | hp
 ·exact h2 p hp
 ·rw [Gk hp]; exact ht
theorem qJ {n m : Int} (h : n + 2 ≤ m) : ∀ (l : List Int) (last : Int), fg n last l = true → fg m last (l ++ [m - 1]) = true
 | [], last, hl => by
  have : last = n - 1 := Gz hl
  rw [Gq, fg, if_neg (by omega), fg]
  simp
 | e :: l, last, hl => by
  rw [fg] at hl
  split at hl
  ·cases hl
  ·rw [Gr, fg, if_neg (by omega)]
   exact qJ h l e hl
structure sn (n : Nat) (o : List eB × List Int) : Prop where
 pts : ∀ p ∈ o.1, tK p
 len : o.1.length ≤ 5 * n
 ends : fg o.1.length (-1) o.2 = true
 endl : o.2.length = n
theorem tF (n : Nat) : bU (hQ s n) (sn n) := by
 refine bU.runs (fun i o => sn i o) n ⟨fun p hp => (by cases hp), Nat.le_refl _, rfl, rfl⟩ fun i o _ h => (cW s (by omega)).bnd fun k hk => (w8 s o.1 h.pts _).bnd fun l hl => bU.ret ?_
 refine ⟨hl.2, by have := h.len; dsimp only; omega, ?_, by simp [h.endl]⟩
 dsimp only
 exact qJ (by omega) _ _ h.ends
theorem nU : bU (jb s) fun o => ∃ n, n ≤ 2 ∧ sn n o := by
 refine (cW s (by omega)).bnd fun n hn => (tF s _).mono fun o ho => ⟨_, by omega, ho⟩
def iI (i : ew) : Prop := 1 ≤ i.Op ∧ i.Op ≤ 39 ∧ -100000 ≤ i.A ∧ i.A ≤ 100000
def gq (k : Nat) (l : List ew) : Prop := l.length ≤ k ∧ ∀ i ∈ l, iI i
theorem qW {n funcs : Int} (hn : 0 ≤ n ∧ n ≤ 1000) (hf : funcs ≤ 1000) : bU (cP s n funcs) (gq 9) := by
 have hsz : ∀ q, 0 ≤ q → q < n + 1 → bU (gy q) (gq 9) := fun q h0 h1 => bU.ret ⟨by simp, by simp only [List.mem_cons, List.not_mem_nil, or_false, forall_eq_or_imp, forall_eq, iI]; omega⟩
 unfold cP
 refine (cW s (by omega)).bnd fun p hp => (cW s (by omega)).bnd fun q hq => (cW s (by omega)).bnd fun a ha => (cW s (by omega)).bnd fun k hk => ?_
 refine bU.ite (fun _ => bU.ret ?_) fun _ => ?_
 ·exact ⟨by simp, by simp only [List.mem_cons, List.not_mem_nil, or_false, forall_eq_or_imp, forall_eq, iI]; omega⟩
 refine bU.ite (fun _ => (cW s (by omega)).bnd fun z hz => bU.ret ?_) fun _ => ?_
 ·exact ⟨by simp, by simp only [List.mem_cons, List.not_mem_nil, or_false, forall_eq_or_imp, forall_eq, iI]; omega⟩
 refine bU.ite (fun _ => bU.ret ?_) fun _ => ?_
 ·exact ⟨by simp, by simp only [List.mem_cons, List.not_mem_nil, or_false, forall_eq_or_imp, forall_eq, iI]; omega⟩
 refine bU.ite (fun _ => (cW s (by omega)).bnd fun z hz => bU.ret ?_) fun _ => ?_
 ·exact ⟨by simp, by simp only [List.mem_cons, List.not_mem_nil, or_false, forall_eq_or_imp, forall_eq, iI]; omega⟩
 refine bU.ite (fun _ => bU.ret ?_) fun _ => ?_
 ·exact ⟨by simp, by simp only [List.mem_cons, List.not_mem_nil, or_false, forall_eq_or_imp, forall_eq, iI]; omega⟩
 refine bU.ite (fun _ => bU.ret ?_) fun _ => ?_
 ·exact ⟨by simp, by simp only [List.mem_cons, List.not_mem_nil, or_false, forall_eq_or_imp, forall_eq, iI]; omega⟩
 refine bU.ite (fun _ => bU.ret ?_) fun _ => ?_
 ·exact ⟨by simp, by simp only [List.mem_cons, List.not_mem_nil, or_false, forall_eq_or_imp, forall_eq, iI]; omega⟩
 refine bU.ite (fun _ => bU.ite (fun _ => (cW s (by omega)).bnd fun z hz => bU.ret ?_) fun _ => hsz q hq.1 hq.2) fun _ => ?_
 ·exact ⟨by simp, by simp only [List.mem_cons, List.not_mem_nil, or_false, forall_eq_or_imp, forall_eq, iI]; omega⟩
 refine bU.ite (fun _ => bU.ite (fun _ => (bU.any _).bnd fun lo _ => bU.ite (fun _ => (bU.any _).bnd fun _ _ => (cW s (by omega)).bnd fun y hy => (cW s (by omega)).bnd fun z hz => bU.ret ?_) fun _ => hsz q hq.1 hq.2) fun _ => hsz q hq.1 hq.2) fun _ => ?_
 ·exact ⟨by simp, by simp only [List.mem_cons, List.not_mem_nil, or_false, forall_eq_or_imp, forall_eq, iI]; omega⟩
 refine bU.ite (fun _ => bU.ret ?_) fun _ => hsz q hq.1 hq.2
 exact ⟨by simp, by simp only [List.mem_cons, List.not_mem_nil, or_false, forall_eq_or_imp, forall_eq, iI]; omega⟩
theorem te {n funcs most : Int} (hn : 0 ≤ n ∧ n ≤ 1000) (hf : funcs ≤ 1000) (hm : 0 < most ∧ most ≤ 6) : bU (m7 s n funcs most) (gq 45) := by
 refine (cW s hm.1).bnd fun k hk => ?_
 refine (bU.runs (fun i l => gq (9 * i) l) k.toNat ⟨Nat.le_refl _, fun i hi => by cases hi⟩ fun i l _ h => (qW s hn hf).bnd fun p hp => bU.ret ⟨by rw [List.length_append]; have := h.1; have := hp.1; omega, fun x hx => ?_⟩).mono fun l h => ⟨by have := h.1; omega, h.2⟩
 rcases Gl hx with hx | hx
 ·exact h.2 x hx
 ·exact hp.2 x hx
structure rd (n : Int) (l : List Int) : Prop where
  ne : l ≠ []
  few : l.length ≤ 4
  up : l.Pairwise (· < ·)
  dom : ∀ z ∈ l, 0 ≤ z ∧ z < n
theorem oy {n : Int} (hn : 0 < n) : bU (mx s n) (rd n) := by
  refine (cW s hn).bnd fun a ha => ?_
  refine (bU.runs (fun i (l : List Int) => (l ≠ [] ∧ l.length ≤ 4 ∧ l.Pairwise (· < ·)) ∧ ∀ z ∈ l, 0 ≤ z ∧ z ≤ a + i) (n - (a + 1)).toNat ⟨⟨by simp, by simp, by simp⟩, fun z hz => ?_⟩ fun i l hi ⟨⟨h1, h2, h3⟩, h4⟩ => ?_).mono fun l ⟨⟨h1, h2, h3⟩, h4⟩ => ⟨h1, h2, h3, fun z hz => by have := h4 z hz; omega⟩
  · rw [Gk hz]; omega
  · refine bU.ite (fun h5 => (bU.any _).bnd fun z _ => bU.ret ?_) fun _ => bU.ret ⟨⟨h1, h2, h3⟩, fun z hz => by have := h4 z hz; omega⟩
    split
    · refine ⟨⟨by simp, by simp; omega, ?_⟩, fun z hz => ?_⟩
      · rw [List.pairwise_append]
        exact ⟨h3, List.pairwise_singleton .., fun x hx y hy => by rw [Gk hy]; have := h4 x hx; omega⟩
      · rcases Gl hz with hz | hz
        · have := h4 z hz; omega
        · rw [Gk hz]; omega
    · exact ⟨⟨h1, h2, h3⟩, fun z hz => by have := h4 z hz; omega⟩
def eO (n : Int) (k : Nat) (l : List (List Int)) : Prop := l.length ≤ k ∧ ∀ q ∈ l, rd n q
theorem mt {n : Int} (hn : 0 < n) : bU (og s n 2) (eO n 2) := by
 refine (cW s (by omega)).bnd fun k hk => ?_
 refine (bU.runs (fun i l => eO n i l) k.toNat ⟨Nat.le_refl _, fun i hi => by cases hi⟩ fun i l _ h => (oy s hn).bnd fun p hp => bU.ret ⟨by rw [List.length_append]; have := h.1; simp; omega, fun x hx => ?_⟩).mono fun l h => ⟨by have := h.1; omega, h.2⟩
 rcases Gl hx with hx | hx
 ·exact h.2 x hx
 ·rw [Gk hx]; exact hp
theorem w4 {n : Int} (hn : 0 < n) (k : Nat) : bU (fR s n k) fun l => l.length = k ∧ ∀ z ∈ l, 0 ≤ z ∧ z < n := by
 refine bU.runs (fun i (l : List Int) => l.length = i ∧ ∀ z ∈ l, 0 ≤ z ∧ z < n) k ⟨rfl, fun z hz => by cases hz⟩ fun i l _ ⟨h1, h2⟩ => (cW s hn).bnd fun x hx => bU.ret ⟨by simp [h1], fun z hz => ?_⟩
 rcases Gl hz with hz | hz
 ·exact h2 z hz
 ·rw [Gk hz]; exact hx
structure lE (n kind : Int) (calls : List Int) (r : bX) : Prop where
 back : eO n 2 r.Back
 ahead : eO n 2 r.Ahead
 ins : eO n 3 r.In
 rows : f0 kind r = false
 out : oe kind r = true
 outs : r.Out.length ≤ 4 ∧ ∀ z ∈ r.Out, 0 ≤ z ∧ z < n
 callsN : r.Calls.length ≤ 2
 callsK : kind ≠ 4 → r.Calls = []
 callsIn : ∀ c ∈ r.Calls, (0 ≤ c.At ∧ c.At < r.In.length) ∧ c.Lookup ∈ calls
 x : -200 ≤ r.X ∧ r.X ≤ 200
 x0 : kind ≠ 6 → r.X = 0
theorem eO.nil (n : Int) (k : Nat) : eO n k [] := ⟨Nat.zero_le _, fun q hq => by cases hq⟩
theorem eO.one {n : Int} {a : List Int} (h : rd n a) : eO n 3 [a] := ⟨by simp, fun q hq => by rw [Gk hq]; exact h⟩
theorem eO.cons {n : Int} {a : List Int} (h : rd n a) {l : List (List Int)} (hl : eO n 2 l) : eO n 3 (a :: l) := ⟨by have := hl.1; simp; omega, fun q hq => by
 rcases List.mem_cons.1 hq with rfl | hq
 ·exact h
 ·exact hl.2 q hq⟩
theorem wE {n : Int} (hn : 0 < n) (calls : List Int) (k : Nat) : bU (fc s n calls (if calls.length = 0 then 0 else k)) fun c => c.length ≤ k ∧ ∀ x ∈ c, (0 ≤ x.At ∧ x.At < n) ∧ x.Lookup ∈ calls := by
 by_cases h0 : calls.length = 0
 ·rw [if_pos h0]
  exact bU.ret ⟨Nat.zero_le _, fun x hx => by cases hx⟩
 rw [if_neg h0]
 refine (bU.runs (fun i (l : List fT) => l.length = i ∧ ∀ x ∈ l, (0 ≤ x.At ∧ x.At < n) ∧ x.Lookup ∈ calls) k ⟨rfl, fun z hz => by cases hz⟩ fun i l _ ⟨h1, h2⟩ => (cW s hn).bnd fun a ha => (cW s (by omega)).bnd fun z hz => bU.ret ⟨by simp [h1], fun x hx => ?_⟩).mono fun l h => ⟨Nat.le_of_eq h.1, h.2⟩
 rcases Gl hx with hx | hx
 ·exact h2 x hx
 ·rw [Gk hx]
  refine ⟨ha, ?_⟩
  have hlt : z.toNat < calls.length := by omega
  rw [List.getD_eq_getElem?_getD, Ee hlt]
  exact List.getElem_mem hlt
theorem Ah {n kind : Int} (hn : 0 < n) (hk : 1 ≤ kind ∧ kind ≤ 6) (calls : List Int) : bU (gm s n kind calls) (lE n kind calls) := by
 have hsides : bU (iS s n) fun e => eO n 2 e.1 ∧ eO n 2 e.2 := by
  refine (bU.any _).bnd fun z _ => bU.ite (fun _ => (mt s hn).bnd fun b hb => (mt s hn).bnd fun c hc => bU.ret ⟨hb, hc⟩) fun _ => bU.ret ⟨eO.nil .., eO.nil ..⟩
 refine (oy s hn).bnd fun a ha => bU.ite (fun hk6 => (oy s hn).bnd fun b hb => (cW s (by omega)).bnd fun x hx => bU.ret ?_) fun hk6 => hsides.bnd fun e he => ?_
 ·subst hk6
  exact ⟨eO.nil .., eO.nil .., ⟨by simp, by simp [ha, hb]⟩, by simp [f0], by simp [oe], ⟨by simp, by simp⟩, by simp, fun _ => rfl, by simp, by dsimp only; omega, fun h => absurd rfl h⟩
 refine bU.ite (fun h15 => (w4 s hn _).bnd fun o ho => bU.ret ?_) fun h15 => ?_
 ·refine ⟨he.1, he.2, eO.one ha, ?_, ?_, ⟨by rw [ho.1]; exact ha.few, ho.2⟩, by simp, fun _ => rfl, by simp, by simp, fun _ => rfl⟩
  ·unfold f0; rw [if_pos (by omega)]; simp
  ·unfold oe; rw [if_pos h15]; simp [ho.1]
 refine bU.ite (fun h2 => (cW s (by omega)).bnd fun k hk => (w4 s hn _).bnd fun o ho => bU.ret ?_) fun h2 => ?_
 ·subst h2
  exact ⟨he.1, he.2, eO.one ha, by simp [f0], by simp only [oe]; simp; omega, ⟨by dsimp only; omega, ho.2⟩, by simp, fun _ => rfl, by simp, by simp, fun _ => rfl⟩
 refine bU.ite (fun h3 => (mt s hn).bnd fun m hm => (cW s hn).bnd fun o ho => bU.ret ?_) fun h3 => ?_
 ·subst h3
  exact ⟨he.1, he.2, eO.cons ha hm, by simp [f0]; omega, by simp [oe], ⟨by simp, fun z hz => by rw [Gk hz]; exact ho⟩, by simp, fun _ => rfl, by simp, by simp, fun _ => rfl⟩
 have h4 : kind = 4 := by omega
 subst h4
 refine (mt s hn).bnd fun m hm => (cW s (by omega)).bnd fun k hk => (wE s (by simp) calls _).bnd fun c hc => bU.ret ?_
 exact ⟨he.1, he.2, eO.cons ha hm, by simp [f0]; omega, by simp [oe], ⟨by simp, by simp⟩, by have := hc.1; dsimp only; omega, fun h => absurd rfl h, fun x hx => hc.2 x hx, by simp, fun _ => rfl⟩
theorem zl {z : Int} (h : 0 ≤ z ∧ z < 10) : 1 ≤ fF.getD z.toNat 0 ∧ fF.getD z.toNat 0 ≤ 8 := by
 have : ∀ k < 10, 1 ≤ fF.getD k 0 ∧ fF.getD k 0 ≤ 8 := by decide
 exact this _ (by omega)
structure CB (k : Nat) (o : List ba × List Int) : Prop where
 len : o.1.length = k
 kinds : ∀ l ∈ o.1, 1 ≤ l.Kind ∧ l.Kind ≤ 8
 none : ∀ l ∈ o.1, l.Rules = []
 calls : ∀ c ∈ o.2, ∃ (i : Nat) (l : ba), c = i ∧ o.1[i]? = some l ∧ l.Kind ≤ 4
theorem qR (k : Nat) : bU (eE s k) (CB k) := by
 refine bU.runs (fun i o => CB i o) k ⟨rfl, fun l hl => (by cases hl), fun l hl => (by cases hl), fun c hc => (by cases hc)⟩ fun i o hi h => (cW s (by omega)).bnd fun z hz => (bU.any _).bnd fun y _ => bU.ret ?_
 have hkz := zl hz
 have hold : ∀ c ∈ o.2, ∃ (i : Nat) (l : ba), c = i ∧ (o.1 ++ [⟨fF.getD z.toNat 0, decide (y = 0), []⟩])[i]? = some l ∧ l.Kind ≤ 4 := fun c hc => by
  obtain ⟨j, l, h1, h2, h3⟩ := h.calls c hc
  exact ⟨j, l, h1, by rw [List.getElem?_append_left (Gn h2).1]; exact h2, h3⟩
 refine ⟨by simp [h.len], fun l hl => ?_, fun l hl => ?_, fun c hc => ?_⟩
 ·rcases Gl hl with hl | hl
  ·exact h.kinds l hl
  ·rw [Gk hl]; exact hkz
 ·rcases Gl hl with hl | hl
  ·exact h.none l hl
  ·rw [Gk hl]
 ·dsimp only at hc ⊢
  split at hc
  ·rename_i h4
   rcases Gl hc with hc | hc
   ·exact hold c hc
   ·exact ⟨i, _, Gk hc, by rw [← h.len, List.getElem?_append_right (Nat.le_refl _), Nat.sub_self]; rfl, h4⟩
  ·exact hold c hc
structure y9 (n : Int) (calls : List Int) (kinds : List Int) (l : List ba) : Prop where
 kind : l.map ba.Kind = kinds
 few : ∀ q ∈ l, q.Rules.length ≤ 3
 none : ∀ q ∈ l, 7 ≤ q.Kind → q.Rules = []
 rule : ∀ q ∈ l, ∀ r ∈ q.Rules, lE n q.Kind calls r
theorem yW {n : Int} (hn : 0 < n) (calls kinds : List Int) (hkd : ∀ z ∈ kinds, 1 ≤ z ∧ z ≤ 8) {l : List ba} (hl : y9 n calls kinds l) (hno : ∀ q ∈ l, q.Rules = []) (k : Nat) : bU (fh s n calls l k) (y9 n calls kinds) := by
 refine (bU.runs (fun i q => y9 n calls kinds q ∧ ∀ (j : Nat) x, i ≤ j → q[j]? = some x → x.Rules = []) k ⟨hl, fun j x _ hx => hno x (Gx hx)⟩ fun i q hi ⟨h, h0⟩ => ?_).mono fun _ h => h.1
 cases hq : q[i]? with
 | none => exact bU.ret ⟨h, fun j x hj hx => h0 j x (by omega) hx⟩
 | some x =>
  dsimp only
  refine bU.ite (fun h7 => bU.ret ⟨h, fun j x hj hx => h0 j x (by omega) hx⟩) fun h7 => (cW s (by omega)).bnd fun c hc => ?_
  have hxm := Gx hq
  have hxk : x.Kind ∈ kinds := by rw [← h.kind]; exact List.mem_map_of_mem hxm
  have hxk := hkd _ hxk
  have hr : bU (f3 s n x.Kind calls (1 + c).toNat) fun rs => rs.length ≤ 3 ∧ ∀ r ∈ rs, lE n x.Kind calls r := by
   refine (bU.runs (fun i rs => rs.length = i ∧ ∀ r ∈ rs, lE n x.Kind calls r) (1 + c).toNat ⟨rfl, fun r hr => by cases hr⟩ fun i rs _ ⟨h1, h2⟩ => (Ah s hn (by omega) calls).bnd fun r hr => bU.ret ⟨by simp [h1], fun y hy => ?_⟩).mono fun rs ⟨h1, h2⟩ => ⟨by omega, h2⟩
   rcases Gl hy with hy | hy
   ·exact h2 y hy
   ·rw [Gk hy]; exact hr
  refine hr.bnd fun rs ⟨hr1, hr2⟩ => bU.ret ⟨⟨?_, fun y hy => ?_, fun y hy h7' => ?_, fun y hy r hr => ?_⟩, fun j y hj hy => ?_⟩
  ·rw [← h.kind]
   apply List.ext_getElem?
   intro j
   rw [List.getElem?_map, List.getElem?_map]
   by_cases e : i = j
   ·subst e
    rw [List.getElem?_set_self (Gn hq).1, hq]
    rfl
   ·rw [List.getElem?_set_ne e]
  ·rcases List.mem_or_eq_of_mem_set hy with hy | hy
   ·exact h.few y hy
   ·rw [hy]; exact hr1
  ·rcases List.mem_or_eq_of_mem_set hy with hy | hy
   ·exact h.none y hy h7'
   ·rw [hy] at h7'; exact absurd h7' h7
  ·rcases List.mem_or_eq_of_mem_set hy with hy | hy
   ·exact h.rule y hy r hr
   ·rw [hy] at hr ⊢; exact hr2 r hr
  ·rw [List.getElem?_set_ne (by omega)] at hy
   exact h0 j y (by omega) hy
structure ya (n : Int) (l : List ba) : Prop where
 len : l.length ≤ 6
 kinds : ∀ q ∈ l, 1 ≤ q.Kind ∧ q.Kind ≤ 8
 few : ∀ q ∈ l, q.Rules.length ≤ 3
 none : ∀ q ∈ l, 7 ≤ q.Kind → q.Rules = []
 rule : ∀ q ∈ l, ∀ r ∈ q.Rules, ∃ calls, lE n q.Kind calls r ∧ ∀ c ∈ calls, ∃ (i : Nat) (x : ba), c = i ∧ l[i]? = some x ∧ x.Kind ≤ 4
theorem nS {n : Int} (hn : 0 < n) : bU (iw s n) (ya n) := by
 refine (cW s (by omega)).bnd fun k hk => (qR s k.toNat).bnd fun o ho => ?_
 refine (yW s hn o.2 (o.1.map ba.Kind) (fun z hz => ?_) (l := o.1) ⟨rfl, fun q hq => by rw [ho.none q hq]; exact Nat.zero_le _, fun q hq _ => ho.none q hq, fun q hq r hr => by rw [ho.none q hq] at hr; cases hr⟩ ho.none k.toNat).mono fun l hl => ?_
 ·obtain ⟨q, hq, rfl⟩ := List.mem_map.1 hz
  exact ho.kinds q hq
 have hlen : l.length = o.1.length := by have := congrArg List.length hl.kind; simpa using this
 have hat : ∀ (i : Nat) (y : ba), o.1[i]? = some y → ∃ x, l[i]? = some x ∧ x.Kind = y.Kind := fun i y hy => by
  have hi : i < l.length := by rw [hlen]; exact (Gn hy).1
  refine ⟨_, Ee hi, ?_⟩
  have := congrArg (fun q : List Int => q[i]?) hl.kind
  simp only [List.getElem?_map, hy, Ee hi, Option.map_some] at this
  exact Option.some.inj this
 refine ⟨by rw [hlen, ho.len]; omega, fun q hq => ?_, hl.few, hl.none, fun q hq r hr => ⟨o.2, hl.rule q hq r hr, fun c hc => ?_⟩⟩
 ·have : q.Kind ∈ o.1.map ba.Kind := by rw [← hl.kind]; exact List.mem_map_of_mem hq
  obtain ⟨y, hy, he⟩ := List.mem_map.1 this
  rw [← he]
  exact ho.kinds y hy
 ·obtain ⟨i, y, h1, h2, h3⟩ := ho.calls c hc
  obtain ⟨x, h4, h5⟩ := hat i y h2
  exact ⟨i, x, h1, h4, by omega⟩
end Go.Proofs.YtjjpkibjffmceaaGreat
