/-
  The program: subset.Font.
-/
import Derived.Test.YtjjpkibjffmceaaGreatM23
import Derived.Test.YtjjpkibjffmceaaGreatM19
import Derived.Test.YtjjpkibjffmceaaGreatM22
import Derived.Test.YtjjpkibjffmceaaGreatM06
import Derived.Test.YtjjpkibjffmceaaGreatM20
import Derived.Test.YtjjpkibjffmceaaGreatM18
namespace Go.Proofs.YtjjpkibjffmceaaGreat
open Go.RowKit
attribute [local irreducible] AT bT AX AO Av Kt bk ej DA cX
open Go.MapKept
theorem rE.few {g : bf} (h : rE g) : Dz g := ⟨by have := h.pts.1; omega, by have := h.ends.1; omega, by have := h.parts.1; omega, by have := h.anchors.1; omega, by have := h.deltas.1; omega, by have := h.hint.1; omega⟩
theorem qF.few {l : List (List Int)} (h : qF l) : l.length ≤ 1000000 ∧ ∀ q ∈ l, q.length ≤ 1000000 := ⟨by have := h.1; omega, fun q hq => by have := (h.2 q hq).1; omega⟩
theorem vH.few {r : bV} (h : vH r) : uO r := ⟨h.back.few, h.ins.few, h.ahead.few, by have := h.out.1; omega, by have := h.calls.1; omega⟩
theorem EA.few {l : b9} (h : EA l) : DB l := ⟨by have := h.rules.1; omega, fun r hr => (h.rules.2 r hr).few⟩
set_option maxHeartbeats 2000000 in
theorem wo (f : aJ) (hf : zN f) (mg ml : Nat) (G K : List Int) (hG : ce f.Glyphs.length G) (n : Int) (hn : n ∈ G) : AC Tryz.prog 26 [aM n, .iptr (cK f mg ml), .iptr (bZ f)] (kL mg ml G K) fun c L => (∃ y b, c = .tup [.agg (bb y), cF b] ∧ f.Glyphs[n.toNat]?.map (dC G) = if b = true then some y else none) ∧ L = kL mg ml G K := by
 refine aP Tryz.func26 rfl Tryz.ntmps26 rfl fun B => ?_
 have hd := hG.dom n hn
 obtain ⟨g, hg⟩ : ∃ x, f.Glyphs[n.toNat]? = some x := ⟨_, Ds (by omega)⟩
 have hgg := bj (c := bb) hg
 have hc := s9 f mg ml G K g (hf.glyphs.2 g (Gx hg)).few
 repeat' (first|refine ah ?_|refine a7 ?_|refine a8 ?_|refine aa ?_|refine ae a6 rfl rfl ?_|refine b5 a6 fun _=>?_|fail)
 rename_i b
 refine bt 6 [(0, .v), (1, .v), (2, .v), (3, .v), (4, .v), (5, .v)] none ?_ trivial rfl (by kernel_rfl) (by kernel_rfl) (by kernel_rfl) mixed (by kernel_rfl) rfl
 repeat' (first|refine aE ?_|refine aZ a6 ?_|(apply bP;refine c8 a6 ?_)|fail)
 refine br [4, 6, 11] rfl rfl ?_
 repeat' (first|fail)
 refine b7 (kL mg ml G K) [(b, _)] hc rfl rfl (List.perm_append_singleton _ _).symm rfl fun c L1 ⟨hc, hL⟩ => ?_
 subst hc; subst hL
 repeat' (first|refine ar ?_|refine a8 ?_|refine aa ?_|refine ae a6 rfl rfl ?_|(apply aH; first|refine aj a6 0 rfl rfl rfl rfl rfl rfl rfl ?_|refine aj a6 1 rfl rfl rfl rfl rfl rfl rfl ?_|refine aj a6 2 rfl rfl rfl rfl rfl rfl rfl ?_|refine aj a6 3 rfl rfl rfl rfl rfl rfl rfl ?_|fail))
 exact eC (cs := [.agg (bb (dC G g)), cF true]) (kL mg ml G K) ⟨⟨_, 2, _, _, rfl, rfl, .inr ⟨cY a6 rfl, rfl⟩⟩, rfl, trivial⟩ (List.sublist_append_left (kL mg ml G K) [_]) ⟨⟨dC G g, true, rfl, by rw [hg]; rfl⟩, rfl⟩
set_option maxHeartbeats 2000000 in
theorem yC (f : aJ) (hf : zN f) (mg ml : Nat) (G K : List Int) (hG : ce f.Glyphs.length G) (n : Int) (hn : 0 ≤ n ∧ n < f.Lookups.length) : AC Tryz.prog 30 [aM n, .iptr (cK f mg ml), .iptr (bZ f)] (kL mg ml G K) fun c L => (∃ y b, c = .tup [.agg (bn y), cF b] ∧ f.Lookups[n.toNat]?.map (g8 f G K) = if b = true then some y else none) ∧ L = kL mg ml G K := by
 refine aP Tryz.func30 rfl Tryz.ntmps30 rfl fun B => ?_
 obtain ⟨g, hg⟩ : ∃ x, f.Lookups[n.toNat]? = some x := ⟨_, Ds (by omega)⟩
 have hgg := bj (c := bn) hg
 have hc := B8 f mg ml G K hG g (hf.looks.2 g (Gx hg)).few
 repeat' (first|refine ah ?_|refine a7 ?_|refine a8 ?_|refine aa ?_|refine ae a6 rfl rfl ?_|refine b5 a6 fun _=>?_|fail)
 rename_i b
 refine bt 6 [(0, .v), (1, .v), (2, .v), (3, .v), (4, .v), (5, .v)] none ?_ trivial rfl (by kernel_rfl) (by kernel_rfl) (by kernel_rfl) mixed (by kernel_rfl) rfl
 repeat' (first|refine aE ?_|refine aZ a6 ?_|(apply bP;refine c8 a6 ?_)|fail)
 refine br [4, 6, 11] rfl rfl ?_
 repeat' (first|fail)
 refine b7 (kL mg ml G K) [(b, _)] hc rfl rfl (List.perm_append_singleton _ _).symm rfl fun c L1 ⟨hc, hL⟩ => ?_
 subst hc; subst hL
 repeat' (first|refine ar ?_|refine a8 ?_|refine aa ?_|refine ae a6 rfl rfl ?_|(apply aH; first|refine aj a6 0 rfl rfl rfl rfl rfl rfl rfl ?_|refine aj a6 1 rfl rfl rfl rfl rfl rfl rfl ?_|refine aj a6 2 rfl rfl rfl rfl rfl rfl rfl ?_|refine aj a6 3 rfl rfl rfl rfl rfl rfl rfl ?_|fail))
 exact eC (cs := [.agg (bn (g8 f G K g)), cF true]) (kL mg ml G K) ⟨⟨_, 2, _, _, rfl, rfl, .inr ⟨cY a6 rfl, rfl⟩⟩, rfl, trivial⟩ (List.sublist_append_left (kL mg ml G K) [_]) ⟨⟨g8 f G K g, true, rfl, by rw [hg]; rfl⟩, rfl⟩
theorem wU (r : List dS) (hr : r.length ≤ 1000000) : AC Tryz.prog 34 [.agg (bo r)] [] fun c L => (∃ y b, c = .tup [.agg (bo y), cF b] ∧ some r = if b = true then some y else none) ∧ L = [] := by
 refine aP Tryz.func34 rfl Tryz.ntmps34 rfl fun B => ?_
 haveI := AD.mk (Ai r hr)
 repeat' (first|refine ah ?_|refine a7 ?_|refine ar ?_|refine a8 ?_|refine aa ?_|refine ae a6 rfl rfl ?_|(apply aH; first|refine aj a6 0 rfl rfl rfl rfl rfl rfl rfl ?_|refine aj a6 1 rfl rfl rfl rfl rfl rfl rfl ?_|refine aj a6 2 rfl rfl rfl rfl rfl rfl rfl ?_|refine aj a6 3 rfl rfl rfl rfl rfl rfl rfl ?_|fail)|refine be ?_|refine b5 a6 fun _=>?_|(apply bA;refine bh ?_)|fail)
 exact eC (cs := [.agg (bo r), cF true]) [] ⟨⟨_, 0, _, _, rfl, rfl, .inr ⟨cY a6 rfl, rfl⟩⟩, rfl, trivial⟩ (List.nil_sublist _) ⟨⟨r, true, rfl, rfl⟩, rfl⟩
theorem An (r : List eb) (hr : r.length ≤ 1000000) : AC Tryz.prog 37 [.imm 2 (r.map dH)] [] fun c L => (∃ y b, c = .tup [.imm 2 (y.map dH), cF b] ∧ some r = if b = true then some y else none) ∧ L = [] := by
 refine aP Tryz.func37 rfl Tryz.ntmps37 rfl fun B => ?_
 haveI := AD.mk (uY r hr)
 repeat' (first|refine ah ?_|refine a7 ?_|refine ar ?_|refine a8 ?_|refine aa ?_|refine ae a6 rfl rfl ?_|(apply bA;refine bh ?_)|fail)
 exact b6 rfl rfl rfl ⟨⟨r, true, rfl, rfl⟩, rfl⟩
theorem m6 (f : aJ) (fs : List ByteArray) : (dx f fs).Nodup := by
 unfold dx
 refine List.Nodup.sublist List.filter_sublist ?_
 unfold List.Nodup
 rw [List.pairwise_map]
 exact List.nodup_range.imp fun h => fun e => h (Int.ofNat_inj.1 e)
theorem uy {f : aJ} {fs : List ByteArray} {z : Int} (h : z ∈ dx f fs) : 0 ≤ z ∧ z < f.Lookups.length := by
 unfold dx at h
 obtain ⟨k, hk, e⟩ := List.mem_map.1 (List.mem_filter.1 h).1
 have := List.mem_range.1 hk
 subst e
 exact ⟨Int.natCast_nonneg k, Int.ofNat_lt.2 this⟩
set_option maxHeartbeats 8000000 in
theorem po (f : aJ) (hf : zN f) (hs : dZ f) (rs : List Int) (fs : List ByteArray) (G : List Int) (hG : ce f.Glyphs.length G) (hg : bO Tryz.prog 12 [cr f, nD rs fs] (.tup [.imm 1 (aU G), aM 0])) : bO Tryz.prog 11 [cr f, nD rs fs] (.tup [cr (pC f rs fs G (dx f fs)), .imm 1 (aU G), aM 0]) := by
 refine aP Tryz.func11 rfl Tryz.ntmps11 rfl fun B => ?_
 haveI := AD.mk hg
 haveI a1 : AD Tryz.prog 13 [cr f, .imm 1 (gi fs)] (.imm 1 (aU (dx f fs))) := ⟨lP f fs hs⟩
 unfold cr nD at *
 repeat' (first|refine ah ?_|refine a7 ?_|refine au ?_|refine a8 ?_|refine aa ?_|refine ae a6 rfl rfl ?_|refine be ?_|refine b5 a6 fun _=>?_|(apply bA;refine bh ?_)|refine bv rfl ?_)
 rename_i b
 refine bt 7 [(0, .v), (1, .v), (3, .v), (2, .e), (4, .e), (5, .v)] (some (6, .box _ 102)) ?_ ⟨_, rfl, rfl, fun _ _ _ => gX (eV a6 rfl) rfl⟩ rfl (by kernel_rfl) (by kernel_rfl) (by kernel_rfl) mixed (by kernel_rfl) rfl
 repeat' (first|refine aE ?_|refine aZ a6 ?_|fail)
 refine eT [] [(b, _)] (nl G hG.nodup) rfl rfl (Gm _) (by first | trivial | rfl) fun c L1 ⟨mg, hc, hL⟩ => ?_
 subst hc; subst hL
 repeat' (first|refine aE ?_|fail)
 refine eT [] [(mg, _), (b, _)] (nl (dx f fs) (m6 f fs)) rfl rfl (Gm _) (by first | trivial | rfl) fun c L1 ⟨ml, hc, hL⟩ => ?_
 subst hc; subst hL
 repeat' (first|refine aE ?_|refine aZ a6 ?_|fail)
 refine kj [2, 3, 4, 7, 9, 10, 31] (fun _ => _) (fun _ => rfl) rfl fun _ => ?_
 repeat' (first|refine ah ?_|refine a8 ?_|refine aa ?_|(apply aH; first|refine aj a6 0 rfl rfl rfl rfl rfl rfl rfl ?_|refine aj a6 1 rfl rfl rfl rfl rfl rfl rfl ?_|refine aj a6 2 rfl rfl rfl rfl rfl rfl rfl ?_|refine aj a6 3 rfl rfl rfl rfl rfl rfl rfl ?_|fail))
 refine bK (tg (t := 10) 3 rfl rfl rfl) ?_
 refine bK (aK (L' := (mg, cj KJ (jW G)) :: (ml, cj KJ (jW (dx f fs))) :: [(b, _)]) (List.Perm.swap _ _ _)) ?_
 generalize hK : dx f fs = K
 have hKd : ∀ z ∈ K, 0 ≤ z ∧ z < f.Lookups.length := fun z hz => uy (by rw [hK]; exact hz)
 have hKl : K.length ≤ 1000000 := by
  have := gw (by rw [← hK]; exact m6 f fs) hKd
  have := hf.looks.1
  omega
 have hGl : G.length ≤ 1000000 := by
  have := hG.len
  have := hf.glyphs.1
  omega
 have e1 := CA (u := .fn 26 [.iptr (cK f mg ml), .iptr (bZ f)]) rfl G hGl (fun n => f.Glyphs[n.toNat]?.map (dC G)) (kL mg ml G K) fun n hn => .fn (wo f hf mg ml G K hG n hn)
 have e2 := xU f (by have := hf.chars.1; omega) mg ml G K rs
 have e3 := CB (u := .fn 30 [.iptr (cK f mg ml), .iptr (bZ f)]) rfl K hKl (fun n => f.Lookups[n.toNat]?.map (g8 f G K)) (kL mg ml G K) fun n hn => .fn (yC f hf mg ml G K hG n (hKd n hn))
 have e4 := Ah f.Axes (by have := hf.axes.1; omega)
 have e5 := CC (u := .sc (.func (.func 34) #[] #[])) rfl f.Regions (by have := hf.regs.1; omega) some [] fun r hr => .fn0 (wU r (by have := (hf.regs.2 r hr).1; omega))
 have e6 := CD (u := .sc (.func (.func 37) #[] #[])) rfl f.Funcs (by have := hf.funcs.1; omega) some [] fun r hr => .fn0 (An r (by have := (hf.funcs.2 r hr).1; omega))
 have e7 := uZ f.Cvt (by have := hf.cvt.1; omega)
 have e8 := sj f (by have := hf.feats.1; omega) (fun t ht => by have := (hf.feats.2 t ht).2.1; omega) mg ml G K fs
 rw [List.filterMap_some] at e5 e6
 haveI := AD.mk e4
 haveI : AD Tryz.prog 39 [.imm 1 (aU f.Cvt)] (.imm 1 (aU f.Cvt)) := AD.mk e7
 repeat' (first|fail)
 refine bt 26 [(0, .v), (1, .v), (2, .v), (3, .v), (5, .v), (6, .v), (7, .v), (9, .v), (10, .v), (12, .v), (13, .v), (15, .v), (16, .v), (18, .v), (19, .v), (21, .v), (22, .v), (4, .e), (8, .e), (11, .e), (14, .v), (17, .e), (20, .e), (23, .v), (24, .v)] (some (25, .box _ 36)) ?_ ⟨_, rfl, rfl, fun _ _ _ => gX (eV a6 rfl) rfl⟩ rfl (by kernel_rfl) (by kernel_rfl) (by kernel_rfl) mixed (by kernel_rfl) rfl
 repeat' (first|refine aE ?_|refine aZ a6 ?_|fail)
 refine eT (kL mg ml G K) [(b, _)] e1 rfl rfl (Gm _) (by first | trivial | rfl) fun c L1 ⟨hc, hL⟩ => ?_
 subst hc; subst hL
 repeat' (first|refine aE ?_|fail)
 refine eT (kL mg ml G K) [(b, _)] e2 rfl rfl (Gm _) (by first | trivial | rfl) fun c L1 ⟨hc, hL⟩ => ?_
 subst hc; subst hL
 repeat' (first|refine aE ?_|fail)
 refine eT (kL mg ml G K) [(b, _)] e3 rfl rfl (Gm _) (by first | trivial | rfl) fun c L1 ⟨hc, hL⟩ => ?_
 subst hc; subst hL
 repeat' (first|refine aE ?_|(apply bX;refine cm ?_)|fail)
 refine eT [] (kL mg ml G K ++ [(b, _)]) e5 rfl rfl (Gm _) (by first | trivial | rfl) fun c L1 ⟨hc, hL⟩ => ?_
 subst hc; subst hL
 repeat' (first|refine aE ?_|fail)
 refine eT [] (kL mg ml G K ++ [(b, _)]) e6 rfl rfl (Gm _) (by first | trivial | rfl) fun c L1 ⟨hc, hL⟩ => ?_
 subst hc; subst hL
 repeat' (first|refine aE ?_|refine aZ a6 ?_|(apply bX;refine cm ?_)|fail)
 refine kj [3, 4, 7, 10, 11, 56] (fun _ => _) (fun _ => rfl) rfl fun _ => ?_
 repeat' (first|refine ah ?_|refine a7 ?_|refine a8 ?_|refine aa ?_|refine ae a6 rfl rfl ?_|(apply aH; first|refine aj a6 0 rfl rfl rfl rfl rfl rfl rfl ?_|refine aj a6 1 rfl rfl rfl rfl rfl rfl rfl ?_|refine aj a6 2 rfl rfl rfl rfl rfl rfl rfl ?_|refine aj a6 3 rfl rfl rfl rfl rfl rfl rfl ?_|fail))
 rename_i bs
 refine b7 (kL mg ml G K) [(b, _), (bs, _)] e8 rfl rfl (Gm _) rfl fun c L1 ⟨hc, hL⟩ => ?_
 subst hc; subst hL
 repeat' (first|refine ah ?_|refine a7 ?_|refine a8 ?_|refine aa ?_|refine ae a6 rfl rfl ?_|(apply aH; first|refine aj a6 0 rfl rfl rfl rfl rfl rfl rfl ?_|refine aj a6 1 rfl rfl rfl rfl rfl rfl rfl ?_|refine aj a6 2 rfl rfl rfl rfl rfl rfl rfl ?_|refine aj a6 3 rfl rfl rfl rfl rfl rfl rfl ?_|fail))
 refine aD a6 3 rfl rfl rfl rfl rfl ?_
 repeat' (first|refine ar ?_|refine a8 ?_|refine aa ?_|refine ae a6 rfl rfl ?_|(apply aH; first|refine aj a6 0 rfl rfl rfl rfl rfl rfl rfl ?_|refine aj a6 1 rfl rfl rfl rfl rfl rfl rfl ?_|refine aj a6 2 rfl rfl rfl rfl rfl rfl rfl ?_|refine aj a6 3 rfl rfl rfl rfl rfl rfl rfl ?_|fail))
 exact eC (cs := [cr (pC f rs fs G K), .imm 1 (aU G), aM 0]) [] ⟨⟨_, 2, _, _, rfl, rfl, .inr ⟨cY a6 rfl, rfl⟩⟩, rfl, rfl, trivial⟩ (List.nil_sublist _) rfl
end Go.Proofs.YtjjpkibjffmceaaGreat
namespace Go.Proofs.YtjjpkibjffmceaaGreat
open Go.RowKit
attribute [local irreducible] AT bT AX AO Av Kt bk ej DA cX
def D0 : ByteArray := ⟨#[108, 105, 103, 97]⟩
def yU : ByteArray := ⟨#[99, 97, 108, 116]⟩
def EW : ByteArray := ⟨#[110, 111, 110, 101]⟩
def yt (fs : List ByteArray) : List Int := (if gc fs D0 || gc fs yU then [0] else []) ++ (if gc fs yU then [1] else [])
def ED (rs : List Int) (fs : List ByteArray) : List Int := gr r6 6 (eu r6 rs) (er r6 (cS 2 [] (lb (yt fs) 2)))
def EX : aJ := ⟨0, [], [], [], [], [], [], [], []⟩
theorem r3 {n : Nat} {l : List Int} {z : Int} : BS n l z = true ↔ (0 ≤ z ∧ z < n) ∧ z ∈ l := by
 unfold BS
 rw [Bool.and_eq_true, decide_eq_true_iff, List.contains_iff_mem]
theorem la {f : aJ} {S T : List Int} (h : ∀ z ∈ S, z ∈ T) {ign : Bool} {z : Int} (hs : iv f S ign z = true) : iv f T ign z = true := by
 unfold iv at hs ⊢
 rw [Bool.and_eq_true] at hs ⊢
 exact ⟨r3.2 ⟨(r3.1 hs.1).1, h _ (r3.1 hs.1).2⟩, hs.2⟩
theorem uK {h : ix} {p q : Int → Bool} (hpq : ∀ z, p z = true → q z = true) {z : Int} (hz : z ∈ k8 h p) : z ∈ k8 h q := by
 unfold k8 at hz ⊢
 split
 ·rename_i hk
  rw [if_pos hk] at hz
  obtain ⟨x, hx, rfl⟩ := List.mem_map.1 hz
  rw [List.mem_filter] at hx
  exact List.mem_map.2 ⟨x, List.mem_filter.2 ⟨hx.1, hpq _ hx.2⟩, rfl⟩
 ·rename_i hk
  rw [if_neg hk] at hz
  exact hz
theorem kK {f : aJ} {S T : List Int} (h : ∀ z ∈ S, z ∈ T) {x : ix} {z : Int} (hz : z ∈ dE f S x) : z ∈ dE f T x := by
 unfold dE at hz ⊢
 split at hz
 ·rename_i hc
  rw [if_pos]
  ·exact uK (fun _ => la h) hz
  ·rw [List.all_eq_true] at hc ⊢
   intro s hs
   have := hc s hs
   rw [List.any_eq_true] at this ⊢
   obtain ⟨y, hy, hp⟩ := this
   exact ⟨y, hy, la h hp⟩
 ·cases hz
theorem ro {f : aJ} {ks gs : List Int} {z : Int} : z ∈ eK f ks gs ↔ (z ∈ eL f (cS f.Glyphs.length [] gs) ∨ ∃ h ∈ er f (cS f.Lookups.length [] ks), z ∈ dE f (cS f.Glyphs.length [] gs) h) ∧ 0 ≤ z ∧ z < f.Glyphs.length := by
 unfold eK ew
 rw [eX, List.mem_append, List.mem_flatMap]
 constructor
 ·rintro (h | h)
  ·cases h
  ·exact h
 ·exact Or.inr
theorem o0 {n : Nat} {a b : List Int} (h : ∀ z ∈ a, z ∈ b) : ∀ z ∈ cS n [] a, z ∈ cS n [] b := by
 intro z hz
 rcases eX.1 hz with k | ⟨k, k2⟩
 ·cases k
 ·exact eX.2 (Or.inr ⟨h z k, k2⟩)
theorem pI {f : aJ} {ks ks' gs gs' : List Int} (hk : ∀ z ∈ ks, z ∈ ks') (hg : ∀ z ∈ gs, z ∈ gs') : ∀ z ∈ eK f ks gs, z ∈ eK f ks' gs' := by
 intro z hz
 rw [ro] at hz ⊢
 refine ⟨?_, hz.2⟩
 rcases hz.1 with h | ⟨x, hx, h⟩
 ·refine Or.inl ?_
  unfold eL at h ⊢
  obtain ⟨y, hy, h⟩ := List.mem_flatMap.1 h
  exact List.mem_flatMap.2 ⟨y, o0 hg y hy, h⟩
 ·refine Or.inr ⟨x, ?_, kK (o0 hg) h⟩
  unfold er at hx ⊢
  obtain ⟨y, hy, h⟩ := List.mem_flatMap.1 hx
  exact List.mem_flatMap.2 ⟨y, o0 hk y hy, h⟩
end Go.Proofs.YtjjpkibjffmceaaGreat
namespace Go.Proofs.YtjjpkibjffmceaaGreat
section
variable {f : aJ}
theorem zE {S T : List Int} (h : ∀ z ∈ S, z ∈ T) (x : ix) : dE f T (adv f S x) = dE f T x := by
 have hall : ∀ l : List (List Int), ((l.dropWhile fun s => s.any (iv f S x.ign)).all fun s => s.any (iv f T x.ign)) = l.all fun s => s.any (iv f T x.ign) := by
  intro l
  induction l with
  | nil => rfl
  | cons s l ih =>
   rw [List.dropWhile_cons]
   split
   ·rename_i hs
    have : (s.any (iv f T x.ign)) = true := by
     rw [List.any_eq_true] at hs ⊢
     obtain ⟨y, hy, hp⟩ := hs
     exact ⟨y, hy, la h hp⟩
    rw [ih, List.all_cons, this, Bool.true_and]
   ·rfl
 unfold dE adv ix.rest
 dsimp only
 rw [hall]
 rfl
def kc (f : aJ) (S : List Int) (hs hs' : List ix) : Prop := ∀ T, (∀ z ∈ S, z ∈ T) → hs.map (dE f T) = hs'.map (dE f T)
theorem kc.step {S : List Int} {hs hs' : List ix} (h : kc f S hs hs') {T : List Int} (hT : ∀ z ∈ S, z ∈ T) : ew f T hs = ew f T hs' := by
 unfold ew
 rw [List.flatMap_def, List.flatMap_def, h T hT]
theorem kc.adv {S : List Int} {hs hs' : List ix} (h : kc f S hs hs') {T : List Int} (hT : ∀ z ∈ S, z ∈ T) : kc f T (hs.map (adv f S)) hs' := by
 intro U hU
 rw [← h U fun z hz => hU z (hT z hz), List.map_map]
 exact List.map_congr_left fun x _ => zE (fun z hz => hU z (hT z hz)) x
theorem qy {S : List Int} {hs : List ix} {z : Int} : z ∈ ew f S hs ↔ (z ∈ eL f S ∨ ∃ h ∈ hs, z ∈ dE f S h) ∧ 0 ≤ z ∧ z < f.Glyphs.length := by
 unfold ew
 rw [eX, List.mem_append, List.mem_flatMap]
 exact ⟨fun h => h.elim (fun h => by cases h) id, .inr⟩
theorem ld {S T : List Int} (h : ∀ z ∈ S, z ∈ T) {hs : List ix} {z : Int} (hz : z ∈ ew f S hs) : z ∈ ew f T hs := by
 rw [qy] at hz ⊢
 refine ⟨?_, hz.2⟩
 rcases hz.1 with k | ⟨x, hx, k⟩
 ·refine .inl ?_
  unfold eL at k ⊢
  obtain ⟨y, hy, k⟩ := List.mem_flatMap.1 k
  exact List.mem_flatMap.2 ⟨y, h y hy, k⟩
 ·exact .inr ⟨x, hx, kK h k⟩
theorem zw {S T : List Int} (hS : S.Nodup) (hT : T.Nodup) (h : ∀ z ∈ S, z ∈ T) (hl : T.length = S.length) : ∀ z ∈ T, z ∈ S := by
 intro z hz
 refine Classical.byContradiction fun hn => ?_
 have := rh (S := z :: S) (T := T) (List.nodup_cons.2 ⟨hn, hS⟩) fun y hy => by
  rcases List.mem_cons.1 hy with rfl | hy
  ·exact hz
  ·exact h y hy
 rw [List.length_cons] at this
 omega
theorem sY (hs0 : List ix) : ∀ (k : Nat) (S : List Int) (hs : List ix), ce f.Glyphs.length S → f.Glyphs.length < S.length + k → kc f S hs hs0 → ∀ K, gr f k S hs = K → ce f.Glyphs.length K ∧ (∀ z ∈ S, z ∈ K) ∧ (∀ z ∈ ew f K hs0, z ∈ K) ∧ ∀ C, (∀ z ∈ S, z ∈ C) → (∀ z ∈ ew f C hs0, z ∈ C) → ∀ z ∈ K, z ∈ C
 | 0, S, hs, hS, hl, _, K, _ => by have := hS.len; omega
 | k + 1, S, hs, hS, hl, hh, K, hK => by
  have he : ew f S hs = ew f S hs0 := hh.step fun _ h => h
  have hsub := qz (hs := hs) hS
  have hok := pk f S hs
  rw [gr] at hK
  split at hK
  ·rename_i heq
   subst hK
   refine ⟨hS, fun _ h => h, fun z hz => ?_, fun C hC _ => hC⟩
   rw [← he] at hz
   exact zw hS.nodup hok.nodup hsub heq z hz
  ·rename_i hne
   have hlen := rh hS.nodup hsub
   obtain ⟨h1, h2, h3, h4⟩ := sY hs0 k (ew f S hs) (hs.map (Go.Proofs.YtjjpkibjffmceaaGreat.adv f S)) hok (by omega) (hh.adv hsub) K hK
   refine ⟨h1, fun z hz => h2 z (hsub z hz), h3, fun C hC hcl => h4 C (fun z hz => ?_) hcl⟩
   rw [he] at hz
   exact hcl z (ld hC hz)
theorem ce.start {n : Nat} {l : List Int} : ce n (cS n [] l) := ce.nil.add _
structure C7 (f : aJ) (rs : List Int) (fs : List ByteArray) (K : List Int) : Prop where
 ok : ce f.Glyphs.length K
 start : ∀ z ∈ eu f rs, z ∈ K
 closed : ∀ z ∈ eK f (dx f fs) K, z ∈ K
 least : ∀ C, (∀ z ∈ eu f rs, z ∈ C) → (∀ z ∈ eK f (dx f fs) C, z ∈ C) → ∀ z ∈ K, z ∈ C
theorem oX {ks C : List Int} {z : Int} (hz : z ∈ eK f ks C) : z ∈ ew f C (er f (cS f.Lookups.length [] ks)) := by
 unfold eK at hz
 refine ld (fun y hy => ?_) hz
 rcases eX.1 hy with k | k
 ·cases k
 ·exact k.1
theorem pm {ks C : List Int} {z : Int} (hC : ∀ z ∈ C, 0 ≤ z ∧ z < f.Glyphs.length) (hz : z ∈ ew f C (er f (cS f.Lookups.length [] ks))) : z ∈ eK f ks C := by
 unfold eK
 exact ld (fun y hy => eX.2 (.inr ⟨hy, hC y hy⟩)) hz
theorem lM (rs : List Int) (fs : List ByteArray) : C7 f rs fs (oG f rs fs) := by
 have hS : ce f.Glyphs.length (eu f rs) := ce.start
 obtain ⟨h1, h2, h3, h4⟩ := sY (f := f) (er f (cS f.Lookups.length [] (dx f fs))) (f.Glyphs.length + 1) (eu f rs) _ hS (by omega) (fun T _ => rfl) _ rfl
 refine ⟨h1, h2, fun z hz => h3 z (oX hz), fun C hC hcl z hz => ?_⟩
 have := h4 (C.filter fun z => decide (0 ≤ z ∧ z < f.Glyphs.length)) (fun z hz => List.mem_filter.2 ⟨hC z hz, decide_eq_true (hS.dom z hz)⟩) (fun z hz => ?_) z hz
 ·exact (List.mem_filter.1 this).1
 ·have hd := (pk f _ _).dom z hz
  refine List.mem_filter.2 ⟨hcl z ?_, decide_eq_true hd⟩
  refine pI (fun _ h => h) (fun y hy => (List.mem_filter.1 hy).1) z (pm (fun y hy => ?_) hz)
  exact Gz (List.mem_filter.1 hy).2
end
end Go.Proofs.YtjjpkibjffmceaaGreat
namespace Go.Proofs.YtjjpkibjffmceaaGreat
open Go.RowKit
attribute [local irreducible] AT bT AX AO Av Kt bk ej DA cX
structure Ez (f : aJ) (rs rt : List Int) (fs ft : List ByteArray) : Prop where
 runes : ∀ c ∈ f.Chars, (c.Rune ∈ rs ↔ c.Rune ∈ rt)
 names : ∀ t ∈ f.Features, gc fs t.Name = gc ft t.Name
end Go.Proofs.YtjjpkibjffmceaaGreat
namespace Go.Proofs.YtjjpkibjffmceaaGreat
section
variable {α β : Type}
def bS (g : DM α) (P : α → Prop) : Prop := ∀ m, P (g m).1
theorem bS.ret {x : α} {P : α → Prop} (h : P x) : bS (cA x) P := fun _ => h
theorem bS.bnd {g : DM α} {k : α → DM β} {P : α → Prop} {Q : β → Prop} (h : bS g P) (hk : ∀ x, P x → bS (k x) Q) : bS (c9 g k) Q := fun m => hk _ (h m) _
theorem bS.mono {g : DM α} {P Q : α → Prop} (h : bS g P) (hq : ∀ x, P x → Q x) : bS g Q := fun m => hq _ (h m)
theorem bS.any (g : DM α) : bS g fun _ => True := fun _ => trivial
theorem bS.runs {g : Nat → β → DM β} (I : Nat → β → Prop) {b : β} : ∀ (k : Nat), I 0 b → (∀ i l, i < k → I i l → bS (g i l) (I (i + 1))) → bS (gz g b k) (I k)
 | 0, h0, _ => bS.ret h0
 | k + 1, h0, hs => bS.bnd (bS.runs I k h0 fun i l hi hl => hs i l (by omega) hl) fun l hl => hs k l (by omega) hl
theorem bS.ite {c : Prop} [Decidable c] {g k : DM α} {P : α → Prop} (h : c → bS g P) (h' : ¬ c → bS k P) : bS (if c then g else k) P := by
 split
 ·exact h ‹_›
 ·exact h' ‹_›
end
variable (s : List Int)
theorem Au (a : Nat) {n : Int} (hn : 0 < n) : 0 ≤ qU s a n ∧ qU s a n < n := by
 unfold qU
 split
 ·rename_i x _
  exact ⟨Int.emod_nonneg x (by omega), Int.emod_lt_of_pos x hn⟩
 ·omega
theorem cN {n : Int} (hn : 0 < n) : bS (dr s n) fun z => 0 ≤ z ∧ z < n := fun m => Au s m.a hn
def sT (p : ei) : Prop := -100 ≤ p.X ∧ p.X ≤ 900 ∧ -200 ≤ p.Y ∧ p.Y ≤ 800
theorem D7 (p : Nat) : bS (C2 s p) sT := by
 refine (cN s (by omega)).bnd fun x hx => (cN s (by omega)).bnd fun y hy => bS.ite (fun _ => bS.ret ?_) fun _ => (bS.any _).bnd fun z _ => bS.ret ?_
 all_goals (unfold sT; dsimp only; omega)
theorem vp (l : List ei) (hl : ∀ p ∈ l, sT p) (k : Nat) : bS (mO s l k) fun q => q.length = l.length + k ∧ ∀ p ∈ q, sT p := by
 refine bS.runs (fun i (q : List ei) => q.length = l.length + i ∧ ∀ p ∈ q, sT p) k ⟨rfl, hl⟩ fun i q _ ⟨h1, h2⟩ => (D7 s i).bnd fun t ht => bS.ret ⟨by simp; omega, fun p hp => ?_⟩
 rcases Gl hp with hp | hp
 ·exact h2 p hp
 ·rw [Gk hp]; exact ht
theorem qa {n m : Int} (h : n + 2 ≤ m) : ∀ (l : List Int) (last : Int), f3 n last l = true → f3 m last (l ++ [m - 1]) = true
 | [], last, hl => by
  have : last = n - 1 := Gz hl
  rw [Gq, f3, if_neg (by omega), f3]
  simp
 | e :: l, last, hl => by
  rw [f3] at hl
  split at hl
  ·cases hl
  ·rw [Gr, f3, if_neg (by omega)]
   exact qa h l e hl
structure rG (n : Nat) (o : List ei × List Int) : Prop where
 pts : ∀ p ∈ o.1, sT p
 len : o.1.length ≤ 5 * n
 ends : f3 o.1.length (-1) o.2 = true
 endl : o.2.length = n
theorem sO (n : Nat) : bS (gK s n) (rG n) := by
 refine bS.runs (fun i o => rG i o) n ⟨fun p hp => (by cases hp), Nat.le_refl _, rfl, rfl⟩ fun i o _ h => (cN s (by omega)).bnd fun k hk => (vp s o.1 h.pts _).bnd fun l hl => bS.ret ?_
 refine ⟨hl.2, by have := h.len; dsimp only; omega, ?_, by simp [h.endl]⟩
 dsimp only
 exact qa (by omega) _ _ h.ends
theorem nq : bS (iQ s) fun o => ∃ n, n ≤ 2 ∧ rG n o := by
 refine (cN s (by omega)).bnd fun n hn => (sO s _).mono fun o ho => ⟨_, by omega, ho⟩
def ir (i : eb) : Prop := 1 ≤ i.Op ∧ i.Op ≤ 39 ∧ -100000 ≤ i.A ∧ i.A ≤ 100000
def fZ (k : Nat) (l : List eb) : Prop := l.length ≤ k ∧ ∀ i ∈ l, ir i
theorem qn {n funcs : Int} (hn : 0 ≤ n ∧ n ≤ 1000) (hf : funcs ≤ 1000) : bS (cG s n funcs) (fZ 9) := by
 have hsz : ∀ q, 0 ≤ q → q < n + 1 → bS (gh q) (fZ 9) := fun q h0 h1 => bS.ret ⟨by simp, by simp only [List.mem_cons, List.not_mem_nil, or_false, forall_eq_or_imp, forall_eq, ir]; omega⟩
 unfold cG
 refine (cN s (by omega)).bnd fun p hp => (cN s (by omega)).bnd fun q hq => (cN s (by omega)).bnd fun a ha => (cN s (by omega)).bnd fun k hk => ?_
 refine bS.ite (fun _ => bS.ret ?_) fun _ => ?_
 ·exact ⟨by simp, by simp only [List.mem_cons, List.not_mem_nil, or_false, forall_eq_or_imp, forall_eq, ir]; omega⟩
 refine bS.ite (fun _ => (cN s (by omega)).bnd fun z hz => bS.ret ?_) fun _ => ?_
 ·exact ⟨by simp, by simp only [List.mem_cons, List.not_mem_nil, or_false, forall_eq_or_imp, forall_eq, ir]; omega⟩
 refine bS.ite (fun _ => bS.ret ?_) fun _ => ?_
 ·exact ⟨by simp, by simp only [List.mem_cons, List.not_mem_nil, or_false, forall_eq_or_imp, forall_eq, ir]; omega⟩
 refine bS.ite (fun _ => (cN s (by omega)).bnd fun z hz => bS.ret ?_) fun _ => ?_
 ·exact ⟨by simp, by simp only [List.mem_cons, List.not_mem_nil, or_false, forall_eq_or_imp, forall_eq, ir]; omega⟩
 refine bS.ite (fun _ => bS.ret ?_) fun _ => ?_
 ·exact ⟨by simp, by simp only [List.mem_cons, List.not_mem_nil, or_false, forall_eq_or_imp, forall_eq, ir]; omega⟩
 refine bS.ite (fun _ => bS.ret ?_) fun _ => ?_
 ·exact ⟨by simp, by simp only [List.mem_cons, List.not_mem_nil, or_false, forall_eq_or_imp, forall_eq, ir]; omega⟩
 refine bS.ite (fun _ => bS.ret ?_) fun _ => ?_
 ·exact ⟨by simp, by simp only [List.mem_cons, List.not_mem_nil, or_false, forall_eq_or_imp, forall_eq, ir]; omega⟩
 refine bS.ite (fun _ => bS.ite (fun _ => (cN s (by omega)).bnd fun z hz => bS.ret ?_) fun _ => hsz q hq.1 hq.2) fun _ => ?_
 ·exact ⟨by simp, by simp only [List.mem_cons, List.not_mem_nil, or_false, forall_eq_or_imp, forall_eq, ir]; omega⟩
 refine bS.ite (fun _ => bS.ite (fun _ => (bS.any _).bnd fun lo _ => bS.ite (fun _ => (bS.any _).bnd fun _ _ => (cN s (by omega)).bnd fun y hy => (cN s (by omega)).bnd fun z hz => bS.ret ?_) fun _ => hsz q hq.1 hq.2) fun _ => hsz q hq.1 hq.2) fun _ => ?_
 ·exact ⟨by simp, by simp only [List.mem_cons, List.not_mem_nil, or_false, forall_eq_or_imp, forall_eq, ir]; omega⟩
 refine bS.ite (fun _ => bS.ret ?_) fun _ => hsz q hq.1 hq.2
 exact ⟨by simp, by simp only [List.mem_cons, List.not_mem_nil, or_false, forall_eq_or_imp, forall_eq, ir]; omega⟩
theorem ss {n funcs most : Int} (hn : 0 ≤ n ∧ n ≤ 1000) (hf : funcs ≤ 1000) (hm : 0 < most ∧ most ≤ 6) : bS (lL s n funcs most) (fZ 45) := by
 refine (cN s hm.1).bnd fun k hk => ?_
 refine (bS.runs (fun i l => fZ (9 * i) l) k.toNat ⟨Nat.le_refl _, fun i hi => by cases hi⟩ fun i l _ h => (qn s hn hf).bnd fun p hp => bS.ret ⟨by rw [List.length_append]; have := h.1; have := hp.1; omega, fun x hx => ?_⟩).mono fun l h => ⟨by have := h.1; omega, h.2⟩
 rcases Gl hx with hx | hx
 ·exact h.2 x hx
 ·exact hp.2 x hx
structure qG (n : Int) (l : List Int) : Prop where
  ne : l ≠ []
  few : l.length ≤ 4
  up : l.Pairwise (· < ·)
  dom : ∀ z ∈ l, 0 ≤ z ∧ z < n
theorem nT {n : Int} (hn : 0 < n) : bS (m9 s n) (qG n) := by
  refine (cN s hn).bnd fun a ha => ?_
  refine (bS.runs (fun i (l : List Int) => (l ≠ [] ∧ l.length ≤ 4 ∧ l.Pairwise (· < ·)) ∧ ∀ z ∈ l, 0 ≤ z ∧ z ≤ a + i) (n - (a + 1)).toNat ⟨⟨by simp, by simp, by simp⟩, fun z hz => ?_⟩ fun i l hi ⟨⟨h1, h2, h3⟩, h4⟩ => ?_).mono fun l ⟨⟨h1, h2, h3⟩, h4⟩ => ⟨h1, h2, h3, fun z hz => by have := h4 z hz; omega⟩
  · rw [Gk hz]; omega
  · refine bS.ite (fun h5 => (bS.any _).bnd fun z _ => bS.ret ?_) fun _ => bS.ret ⟨⟨h1, h2, h3⟩, fun z hz => by have := h4 z hz; omega⟩
    split
    · refine ⟨⟨by simp, by simp; omega, ?_⟩, fun z hz => ?_⟩
      · rw [List.pairwise_append]
        exact ⟨h3, List.pairwise_singleton .., fun x hx y hy => by rw [Gk hy]; have := h4 x hx; omega⟩
      · rcases Gl hz with hz | hz
        · have := h4 z hz; omega
        · rw [Gk hz]; omega
    · exact ⟨⟨h1, h2, h3⟩, fun z hz => by have := h4 z hz; omega⟩
def eB (n : Int) (k : Nat) (l : List (List Int)) : Prop := l.length ≤ k ∧ ∀ q ∈ l, qG n q
theorem m7 {n : Int} (hn : 0 < n) : bS (nH s n 2) (eB n 2) := by
 refine (cN s (by omega)).bnd fun k hk => ?_
 refine (bS.runs (fun i l => eB n i l) k.toNat ⟨Nat.le_refl _, fun i hi => by cases hi⟩ fun i l _ h => (nT s hn).bnd fun p hp => bS.ret ⟨by rw [List.length_append]; have := h.1; simp; omega, fun x hx => ?_⟩).mono fun l h => ⟨by have := h.1; omega, h.2⟩
 rcases Gl hx with hx | hx
 ·exact h.2 x hx
 ·rw [Gk hx]; exact hp
theorem vl {n : Int} (hn : 0 < n) (k : Nat) : bS (fD s n k) fun l => l.length = k ∧ ∀ z ∈ l, 0 ≤ z ∧ z < n := by
 refine bS.runs (fun i (l : List Int) => l.length = i ∧ ∀ z ∈ l, 0 ≤ z ∧ z < n) k ⟨rfl, fun z hz => by cases hz⟩ fun i l _ ⟨h1, h2⟩ => (cN s hn).bnd fun x hx => bS.ret ⟨by simp [h1], fun z hz => ?_⟩
 rcases Gl hz with hz | hz
 ·exact h2 z hz
 ·rw [Gk hz]; exact hx
structure lq (n kind : Int) (calls : List Int) (r : bV) : Prop where
 back : eB n 2 r.Back
 ahead : eB n 2 r.Ahead
 ins : eB n 3 r.In
 rows : eO kind r = false
 out : nG kind r = true
 outs : r.Out.length ≤ 4 ∧ ∀ z ∈ r.Out, 0 ≤ z ∧ z < n
 callsN : r.Calls.length ≤ 2
 callsK : kind ≠ 4 → r.Calls = []
 callsIn : ∀ c ∈ r.Calls, (0 ≤ c.At ∧ c.At < r.In.length) ∧ c.Lookup ∈ calls
 x : -200 ≤ r.X ∧ r.X ≤ 200
 x0 : kind ≠ 6 → r.X = 0
theorem eB.nil (n : Int) (k : Nat) : eB n k [] := ⟨Nat.zero_le _, fun q hq => by cases hq⟩
theorem eB.one {n : Int} {a : List Int} (h : qG n a) : eB n 3 [a] := ⟨by simp, fun q hq => by rw [Gk hq]; exact h⟩
theorem eB.cons {n : Int} {a : List Int} (h : qG n a) {l : List (List Int)} (hl : eB n 2 l) : eB n 3 (a :: l) := ⟨by have := hl.1; simp; omega, fun q hq => by
 rcases List.mem_cons.1 hq with rfl | hq
 ·exact h
 ·exact hl.2 q hq⟩
theorem vX {n : Int} (hn : 0 < n) (calls : List Int) (k : Nat) : bS (eZ s n calls (if calls.length = 0 then 0 else k)) fun c => c.length ≤ k ∧ ∀ x ∈ c, (0 ≤ x.At ∧ x.At < n) ∧ x.Lookup ∈ calls := by
 by_cases h0 : calls.length = 0
 ·rw [if_pos h0]
  exact bS.ret ⟨Nat.zero_le _, fun x hx => by cases hx⟩
 rw [if_neg h0]
 refine (bS.runs (fun i (l : List fF) => l.length = i ∧ ∀ x ∈ l, (0 ≤ x.At ∧ x.At < n) ∧ x.Lookup ∈ calls) k ⟨rfl, fun z hz => by cases hz⟩ fun i l _ ⟨h1, h2⟩ => (cN s hn).bnd fun a ha => (cN s (by omega)).bnd fun z hz => bS.ret ⟨by simp [h1], fun x hx => ?_⟩).mono fun l h => ⟨Nat.le_of_eq h.1, h.2⟩
 rcases Gl hx with hx | hx
 ·exact h2 x hx
 ·rw [Gk hx]
  refine ⟨ha, ?_⟩
  have hlt : z.toNat < calls.length := by omega
  rw [List.getD_eq_getElem?_getD, Ds hlt]
  exact List.getElem_mem hlt
theorem zq {n kind : Int} (hn : 0 < n) (hk : 1 ≤ kind ∧ kind ≤ 6) (calls : List Int) : bS (fW s n kind calls) (lq n kind calls) := by
 have hsides : bS (iB s n) fun e => eB n 2 e.1 ∧ eB n 2 e.2 := by
  refine (bS.any _).bnd fun z _ => bS.ite (fun _ => (m7 s hn).bnd fun b hb => (m7 s hn).bnd fun c hc => bS.ret ⟨hb, hc⟩) fun _ => bS.ret ⟨eB.nil .., eB.nil ..⟩
 refine (nT s hn).bnd fun a ha => bS.ite (fun hk6 => (nT s hn).bnd fun b hb => (cN s (by omega)).bnd fun x hx => bS.ret ?_) fun hk6 => hsides.bnd fun e he => ?_
 ·subst hk6
  exact ⟨eB.nil .., eB.nil .., ⟨by simp, by simp [ha, hb]⟩, by simp [eO], by simp [nG], ⟨by simp, by simp⟩, by simp, fun _ => rfl, by simp, by dsimp only; omega, fun h => absurd rfl h⟩
 refine bS.ite (fun h15 => (vl s hn _).bnd fun o ho => bS.ret ?_) fun h15 => ?_
 ·refine ⟨he.1, he.2, eB.one ha, ?_, ?_, ⟨by rw [ho.1]; exact ha.few, ho.2⟩, by simp, fun _ => rfl, by simp, by simp, fun _ => rfl⟩
  ·unfold eO; rw [if_pos (by omega)]; simp
  ·unfold nG; rw [if_pos h15]; simp [ho.1]
 refine bS.ite (fun h2 => (cN s (by omega)).bnd fun k hk => (vl s hn _).bnd fun o ho => bS.ret ?_) fun h2 => ?_
 ·subst h2
  exact ⟨he.1, he.2, eB.one ha, by simp [eO], by simp only [nG]; simp; omega, ⟨by dsimp only; omega, ho.2⟩, by simp, fun _ => rfl, by simp, by simp, fun _ => rfl⟩
 refine bS.ite (fun h3 => (m7 s hn).bnd fun m hm => (cN s hn).bnd fun o ho => bS.ret ?_) fun h3 => ?_
 ·subst h3
  exact ⟨he.1, he.2, eB.cons ha hm, by simp [eO]; omega, by simp [nG], ⟨by simp, fun z hz => by rw [Gk hz]; exact ho⟩, by simp, fun _ => rfl, by simp, by simp, fun _ => rfl⟩
 have h4 : kind = 4 := by omega
 subst h4
 refine (m7 s hn).bnd fun m hm => (cN s (by omega)).bnd fun k hk => (vX s (by simp) calls _).bnd fun c hc => bS.ret ?_
 exact ⟨he.1, he.2, eB.cons ha hm, by simp [eO]; omega, by simp [nG], ⟨by simp, by simp⟩, by have := hc.1; dsimp only; omega, fun h => absurd rfl h, fun x hx => hc.2 x hx, by simp, fun _ => rfl⟩
theorem yq {z : Int} (h : 0 ≤ z ∧ z < 10) : 1 ≤ fj.getD z.toNat 0 ∧ fj.getD z.toNat 0 ≤ 8 := by
 have : ∀ k < 10, 1 ≤ fj.getD k 0 ∧ fj.getD k 0 ≤ 8 := by decide
 exact this _ (by omega)
structure BL (k : Nat) (o : List b9 × List Int) : Prop where
 len : o.1.length = k
 kinds : ∀ l ∈ o.1, 1 ≤ l.Kind ∧ l.Kind ≤ 8
 none : ∀ l ∈ o.1, l.Rules = []
 calls : ∀ c ∈ o.2, ∃ (i : Nat) (l : b9), c = i ∧ o.1[i]? = some l ∧ l.Kind ≤ 4
theorem qi (k : Nat) : bS (ep s k) (BL k) := by
 refine bS.runs (fun i o => BL i o) k ⟨rfl, fun l hl => (by cases hl), fun l hl => (by cases hl), fun c hc => (by cases hc)⟩ fun i o hi h => (cN s (by omega)).bnd fun z hz => (bS.any _).bnd fun y _ => bS.ret ?_
 have hkz := yq hz
 have hold : ∀ c ∈ o.2, ∃ (i : Nat) (l : b9), c = i ∧ (o.1 ++ [⟨fj.getD z.toNat 0, decide (y = 0), []⟩])[i]? = some l ∧ l.Kind ≤ 4 := fun c hc => by
  obtain ⟨j, l, h1, h2, h3⟩ := h.calls c hc
  exact ⟨j, l, h1, by rw [List.getElem?_append_left (Gn h2).1]; exact h2, h3⟩
 refine ⟨by simp [h.len], fun l hl => ?_, fun l hl => ?_, fun c hc => ?_⟩
 ·rcases Gl hl with hl | hl
  ·exact h.kinds l hl
  ·rw [Gk hl]; exact hkz
 ·rcases Gl hl with hl | hl
  ·exact h.none l hl
  ·rw [Gk hl]
 ·dsimp only at hc ⊢
  split at hc
  ·rename_i h4
   rcases Gl hc with hc | hc
   ·exact hold c hc
   ·exact ⟨i, _, Gk hc, by rw [← h.len, List.getElem?_append_right (Nat.le_refl _), Nat.sub_self]; rfl, h4⟩
  ·exact hold c hc
structure xn (n : Int) (calls : List Int) (kinds : List Int) (l : List b9) : Prop where
 kind : l.map b9.Kind = kinds
 few : ∀ q ∈ l, q.Rules.length ≤ 3
 none : ∀ q ∈ l, 7 ≤ q.Kind → q.Rules = []
 rule : ∀ q ∈ l, ∀ r ∈ q.Rules, lq n q.Kind calls r
theorem y9 {n : Int} (hn : 0 < n) (calls kinds : List Int) (hkd : ∀ z ∈ kinds, 1 ≤ z ∧ z ≤ 8) {l : List b9} (hl : xn n calls kinds l) (hno : ∀ q ∈ l, q.Rules = []) (k : Nat) : bS (f5 s n calls l k) (xn n calls kinds) := by
 refine (bS.runs (fun i q => xn n calls kinds q ∧ ∀ (j : Nat) x, i ≤ j → q[j]? = some x → x.Rules = []) k ⟨hl, fun j x _ hx => hno x (Gx hx)⟩ fun i q hi ⟨h, h0⟩ => ?_).mono fun _ h => h.1
 cases hq : q[i]? with
 | none => exact bS.ret ⟨h, fun j x hj hx => h0 j x (by omega) hx⟩
 | some x =>
  dsimp only
  refine bS.ite (fun h7 => bS.ret ⟨h, fun j x hj hx => h0 j x (by omega) hx⟩) fun h7 => (cN s (by omega)).bnd fun c hc => ?_
  have hxm := Gx hq
  have hxk : x.Kind ∈ kinds := by rw [← h.kind]; exact List.mem_map_of_mem hxm
  have hxk := hkd _ hxk
  have hr : bS (eQ s n x.Kind calls (1 + c).toNat) fun rs => rs.length ≤ 3 ∧ ∀ r ∈ rs, lq n x.Kind calls r := by
   refine (bS.runs (fun i rs => rs.length = i ∧ ∀ r ∈ rs, lq n x.Kind calls r) (1 + c).toNat ⟨rfl, fun r hr => by cases hr⟩ fun i rs _ ⟨h1, h2⟩ => (zq s hn (by omega) calls).bnd fun r hr => bS.ret ⟨by simp [h1], fun y hy => ?_⟩).mono fun rs ⟨h1, h2⟩ => ⟨by omega, h2⟩
   rcases Gl hy with hy | hy
   ·exact h2 y hy
   ·rw [Gk hy]; exact hr
  refine hr.bnd fun rs ⟨hr1, hr2⟩ => bS.ret ⟨⟨?_, fun y hy => ?_, fun y hy h7' => ?_, fun y hy r hr => ?_⟩, fun j y hj hy => ?_⟩
  ·rw [← h.kind]
   apply List.ext_getElem?
   intro j
   rw [List.getElem?_map, List.getElem?_map]
   by_cases e : i = j
   ·subst e
    rw [List.getElem?_set_self (Gn hq).1, hq]
    rfl
   ·rw [List.getElem?_set_ne e]
  ·rcases List.mem_or_eq_of_mem_set hy with hy | hy
   ·exact h.few y hy
   ·rw [hy]; exact hr1
  ·rcases List.mem_or_eq_of_mem_set hy with hy | hy
   ·exact h.none y hy h7'
   ·rw [hy] at h7'; exact absurd h7' h7
  ·rcases List.mem_or_eq_of_mem_set hy with hy | hy
   ·exact h.rule y hy r hr
   ·rw [hy] at hr ⊢; exact hr2 r hr
  ·rw [List.getElem?_set_ne (by omega)] at hy
   exact h0 j y (by omega) hy
structure xo (n : Int) (l : List b9) : Prop where
 len : l.length ≤ 6
 kinds : ∀ q ∈ l, 1 ≤ q.Kind ∧ q.Kind ≤ 8
 few : ∀ q ∈ l, q.Rules.length ≤ 3
 none : ∀ q ∈ l, 7 ≤ q.Kind → q.Rules = []
 rule : ∀ q ∈ l, ∀ r ∈ q.Rules, ∃ calls, lq n q.Kind calls r ∧ ∀ c ∈ calls, ∃ (i : Nat) (x : b9), c = i ∧ l[i]? = some x ∧ x.Kind ≤ 4
theorem nk {n : Int} (hn : 0 < n) : bS (i8 s n) (xo n) := by
 refine (cN s (by omega)).bnd fun k hk => (qi s k.toNat).bnd fun o ho => ?_
 refine (y9 s hn o.2 (o.1.map b9.Kind) (fun z hz => ?_) (l := o.1) ⟨rfl, fun q hq => by rw [ho.none q hq]; exact Nat.zero_le _, fun q hq _ => ho.none q hq, fun q hq r hr => by rw [ho.none q hq] at hr; cases hr⟩ ho.none k.toNat).mono fun l hl => ?_
 ·obtain ⟨q, hq, rfl⟩ := List.mem_map.1 hz
  exact ho.kinds q hq
 have hlen : l.length = o.1.length := by have := congrArg List.length hl.kind; simpa using this
 have hat : ∀ (i : Nat) (y : b9), o.1[i]? = some y → ∃ x, l[i]? = some x ∧ x.Kind = y.Kind := fun i y hy => by
  have hi : i < l.length := by rw [hlen]; exact (Gn hy).1
  refine ⟨_, Ds hi, ?_⟩
  have := congrArg (fun q : List Int => q[i]?) hl.kind
  simp only [List.getElem?_map, hy, Ds hi, Option.map_some] at this
  exact Option.some.inj this
 refine ⟨by rw [hlen, ho.len]; omega, fun q hq => ?_, hl.few, hl.none, fun q hq r hr => ⟨o.2, hl.rule q hq r hr, fun c hc => ?_⟩⟩
 ·have : q.Kind ∈ o.1.map b9.Kind := by rw [← hl.kind]; exact List.mem_map_of_mem hq
  obtain ⟨y, hy, he⟩ := List.mem_map.1 this
  rw [← he]
  exact ho.kinds y hy
 ·obtain ⟨i, y, h1, h2, h3⟩ := ho.calls c hc
  obtain ⟨x, h4, h5⟩ := hat i y h2
  exact ⟨i, x, h1, h4, by omega⟩
end Go.Proofs.YtjjpkibjffmceaaGreat
namespace Go.Proofs.YtjjpkibjffmceaaGreat
variable (s : List Int)
def jx (a : dt) : Int × Int := (a.Kind, a.Class)
structure zQ (cl : Int) (mark : Bool) (l : List dt) : Prop where
 sub : (l.map jx).Sublist (eS cl)
 at' : ∀ a ∈ l, (0 ≤ a.X ∧ a.X ≤ 1000) ∧ (-200 ≤ a.Y ∧ a.Y ≤ 800) ∧ (a.Kind = 2 → mark = true)
theorem rL {cl : Int} {i : Nat} (h : i < 5) : (eS cl)[i]? = some ((eS cl).getD i (0, 0)) := by
 rw [List.getD_eq_getElem?_getD, Ds (show i < (eS cl).length from h)]
 rfl
theorem rM (mark : Bool) (cl : Int) : bS (eJ s mark cl 5) (zQ cl mark) := by
 refine (bS.runs (b := []) (fun i (l : List dt) => (l.map jx).Sublist ((eS cl).take i) ∧ ∀ a ∈ l, (0 ≤ a.X ∧ a.X ≤ 1000) ∧ (-200 ≤ a.Y ∧ a.Y ≤ 800) ∧ (a.Kind = 2 → mark = true)) 5 ⟨List.nil_sublist _, fun a ha => by cases ha⟩ fun i l hi ⟨h1, h2⟩ => (bS.any _).bnd fun z _ => bS.ite (fun h3 => (cN s (by omega)).bnd fun x hx => (cN s (by omega)).bnd fun y hy => bS.ret ⟨?_, fun a ha => ?_⟩) fun _ => bS.ret ⟨?_, h2⟩).mono fun l ⟨h1, h2⟩ => ⟨h1, h2⟩
 ·rw [List.take_add_one, rL hi, List.map_append]
  exact h1.append (List.Sublist.refl _)
 ·rcases Gl ha with ha | ha
  ·exact h2 a ha
  ·rw [Gk ha]
   refine ⟨by dsimp only; omega, by dsimp only; omega, fun hk => ?_⟩
   rcases h3.2 with h4 | h4
   ·exact absurd hk h4
   ·exact h4
 ·rw [List.take_add_one]
  exact h1.trans (List.sublist_append_left _ _)
def EG (a b : dB) : Prop := a.Region < b.Region ∨ (a.Region = b.Region ∧ a.Point < b.Point)
structure zT (R pts : Nat) (l : List dB) : Prop where
 up : l.Pairwise EG
 len : l.length ≤ R * (pts + 1)
 dom : ∀ d ∈ l, (0 ≤ d.Region ∧ d.Region < R) ∧ (-1 ≤ d.Point ∧ d.Point < pts) ∧ (-20 ≤ d.X ∧ d.X ≤ 20) ∧ (-20 ≤ d.Y ∧ d.Y ≤ 20) ∧ (d.Point = -1 → d.Y = 0)
structure rF (r p pts : Nat) (l : List dB) : Prop where
 up : l.Pairwise EG
 len : l.length ≤ r * (pts + 1) + p
 dom : ∀ d ∈ l, (0 ≤ d.Region ∧ (d.Region < r ∨ (d.Region = r ∧ d.Point < (p : Int) - 1))) ∧ (-1 ≤ d.Point ∧ d.Point < pts) ∧ (-20 ≤ d.X ∧ d.X ≤ 20) ∧ (-20 ≤ d.Y ∧ d.Y ≤ 20) ∧ (d.Point = -1 → d.Y = 0)
theorem rF.more {r p pts : Nat} {l : List dB} (h : rF r p pts l) : rF r (p + 1) pts l := ⟨h.up, by have := h.len; omega, fun d hd => by have := h.dom d hd; omega⟩
theorem rF.add {r p pts : Nat} {l : List dB} (h : rF r p pts l) {x y : Int} (hp : p ≤ pts) (hx : -20 ≤ x ∧ x ≤ 20) (hy : -20 ≤ y ∧ y ≤ 20) (h0 : p = 0 → y = 0) : rF r (p + 1) pts (l ++ [⟨r, (p : Int) - 1, x, y⟩]) := by
 refine ⟨?_, by have := h.len; simp; omega, fun d hd => ?_⟩
 ·rw [List.pairwise_append]
  refine ⟨h.up, List.pairwise_singleton .., fun a ha b hb => ?_⟩
  rw [Gk hb]
  have := h.dom a ha
  unfold EG
  dsimp only
  omega
 ·rcases Gl hd with hd | hd
  ·have := h.dom d hd; omega
  ·rw [Gk hd]
   dsimp only
   refine ⟨by omega, by omega, hx, hy, fun hq => h0 (by omega)⟩
theorem ov (pts R : Nat) : bS (fK s pts R) (zT R pts) := by
 refine (bS.runs (fun r l => rF r 0 pts l) R ⟨.nil, by simp, fun d hd => by cases hd⟩ fun r l _ h => ?_).mono fun l h => ⟨h.up, h.len, fun d hd => by have := h.dom d hd; omega⟩
 refine (bS.runs (fun p l => rF r p pts l) (pts + 1) h fun p l hp h => (bS.any _).bnd fun z _ => bS.ite (fun _ => (cN s (by omega)).bnd fun x hx => bS.ite (fun h0 => bS.ret ?_) fun h0 => (cN s (by omega)).bnd fun y hy => bS.ret ?_) fun _ => bS.ret h.more).mono fun l h => ⟨h.up, by have := h.len; rw [Nat.add_mul]; omega, fun d hd => by have := h.dom d hd; omega⟩
 ·subst h0
  exact h.add (by omega) (by omega) (by omega) fun _ => rfl
 ·exact h.add (by omega) (by omega) (by omega) fun e => absurd e h0
structure vF (R n : Nat) (g : bf) : Prop where
 name : g.Name = cE n
 adv : 100 ≤ g.Advance ∧ g.Advance ≤ 1000
 out : ∃ k, k ≤ 2 ∧ rG k (g.Points, g.Ends)
 parts : g.Parts = [] ∨ (1 < n ∧ ∃ x y : Int, g.Parts = [⟨1, x, y⟩] ∧ (-200 ≤ x ∧ x ≤ 200) ∧ 0 ≤ y ∧ y ≤ 200)
 anch : ∃ cl, (0 ≤ cl ∧ cl < 2) ∧ zQ cl g.Mark g.Anchors
 dels : zT R g.Points.length g.Deltas
 hint : fZ 45 g.Hint
theorem wn {R fn n : Nat} (hf : fn ≤ 1000) : bS (jj s R fn n) (vF R n) := by
 have hparts : bS (ie s n) fun ps => ps = [] ∨ (1 < n ∧ ∃ x y : Int, ps = [⟨1, x, y⟩] ∧ (-200 ≤ x ∧ x ≤ 200) ∧ 0 ≤ y ∧ y ≤ 200) := by
  refine bS.ite (fun h1 => (bS.any _).bnd fun z _ => bS.ite (fun _ => (cN s (by omega)).bnd fun x hx => (cN s (by omega)).bnd fun y hy => bS.ret (.inr ⟨h1, _, _, rfl, by omega, by omega⟩)) fun _ => bS.ret (.inl rfl)) fun _ => bS.ret (.inl rfl)
 refine (cN s (by omega)).bnd fun ad had => (bS.any _).bnd fun mk _ => (nq s).bnd fun o ho => hparts.bnd fun ps hps => (cN s (by omega)).bnd fun cl hcl => (rM s _ cl).bnd fun an han => (ov s _ R).bnd fun de hde => (bS.any _).bnd fun _ _ => ?_
 have hl : o.1.length ≤ 10 := by obtain ⟨k, h1, h2⟩ := ho; have := h2.len; omega
 exact (ss s (n := o.1.length) (funcs := fn) (most := 6) (by omega) (by omega) (by omega)).bnd fun h hh => bS.ret ⟨rfl, by dsimp only; omega, ho, hps, ⟨cl, hcl, han⟩, hde, hh⟩
def lh (t : dS) : Prop := pq 0 t = 0
structure eH (f : aJ) : Prop where
  unit : 16 ≤ f.Unit ∧ f.Unit ≤ 4096
  glyN : 2 ≤ f.Glyphs.length ∧ f.Glyphs.length ≤ 10
  gly : ∀ (i : Nat) g, f.Glyphs[i]? = some g → vF f.Regions.length i g
  chars : f.Chars.length ≤ 16
  charR : (f.Chars.map dO.Rune).Sublist eR
  charG : ∀ c ∈ f.Chars, 0 ≤ c.Glyph ∧ c.Glyph < f.Glyphs.length
  looks : xo f.Glyphs.length f.Lookups
  featN : (f.Features.map bL.Name).Sublist dW
  featL : ∀ t ∈ f.Features, t.Lookups.Pairwise (· < ·) ∧ t.Lookups.length ≤ 6 ∧ ∀ z ∈ t.Lookups, 0 ≤ z ∧ z < f.Lookups.length
  axes : f.Axes.length ≤ 2
  axisN : f.Axes.map dY.Name = (List.range f.Axes.length).map (i7 qM)
  axis : ∀ a ∈ f.Axes, (-200 ≤ a.Min ∧ a.Min ≤ 0) ∧ a.Def = 0 ∧ 0 ≤ a.Max ∧ a.Max ≤ 300
  regs : f.Regions.length ≤ 3
  reg : ∀ r ∈ f.Regions, r.length = f.Axes.length ∧ ∀ t ∈ r, lh t
  funcs : f.Funcs.length ≤ 2
  func : ∀ c ∈ f.Funcs, fZ 45 c
  cvt : f.Cvt.length ≤ 3
  cvtM : ∀ z ∈ f.Cvt, -100 ≤ z ∧ z < 400
theorem sn {α : Type} {l : List α} {i : Nat} (h : i < l.length) (d : α) : l.getD i d ∈ l := by
 rw [List.getD_eq_getElem?_getD, Ds h]
 exact List.getElem_mem h
theorem km {α : Type} {l : List α} {i : Nat} (h : i < l.length) (d : α) : l[i]? = some (l.getD i d) := by
 rw [List.getD_eq_getElem?_getD, Ds h]
 rfl
theorem yF : bS (yE s) eH := by
  have hax : ∀ k : Nat, bS (jE s k) fun l => l.length = k ∧ l.map dY.Name = (List.range k).map (i7 qM) ∧ ∀ a ∈ l, (-200 ≤ a.Min ∧ a.Min ≤ 0) ∧ a.Def = 0 ∧ 0 ≤ a.Max ∧ a.Max ≤ 300 := fun k => by
    refine bS.runs (fun i (l : List dY) => l.length = i ∧ l.map dY.Name = (List.range i).map (i7 qM) ∧ ∀ a ∈ l, (-200 ≤ a.Min ∧ a.Min ≤ 0) ∧ a.Def = 0 ∧ 0 ≤ a.Max ∧ a.Max ≤ 300) k ⟨rfl, rfl, fun a ha => by cases ha⟩ fun i l _ ⟨h1, h2, h3⟩ => (cN s (by omega)).bnd fun a ha => (cN s (by omega)).bnd fun b hb => bS.ret ⟨by simp [h1], by simp [h2, List.range_succ], fun x hx => ?_⟩
    rcases Gl hx with hx | hx
    · exact h3 x hx
    · rw [Gk hx]; dsimp only; omega
  have hrg : ∀ k : Nat, bS (fm s k) fun l => l.length ≤ 3 ∧ ∀ r ∈ l, r.length = k ∧ ∀ t ∈ r, lh t := fun k => by
    refine bS.ite (fun _ => bS.ret ⟨Nat.zero_le _, fun r hr => by cases hr⟩) fun _ => (cN s (by omega)).bnd fun n hn => ?_
    refine (bS.runs (fun i (l : List (List dS)) => l.length = i ∧ ∀ r ∈ l, r.length = k ∧ ∀ t ∈ r, lh t) n.toNat ⟨rfl, fun a ha => by cases ha⟩ fun i l _ ⟨h1, h2⟩ => ?_).mono fun l ⟨h1, h2⟩ => ⟨by omega, h2⟩
    refine (bS.runs (fun i (r : List dS) => r.length = i ∧ ∀ t ∈ r, lh t) k ⟨rfl, fun a ha => by cases ha⟩ fun i r _ ⟨h1, h2⟩ => (cN s (by omega)).bnd fun z hz => bS.ret ⟨by simp [h1], fun x hx => ?_⟩).bnd fun r hr => bS.ret ⟨by simp [h1], fun x hx => ?_⟩
    · rcases Gl hx with hx | hx
      · exact h2 x hx
      · rw [Gk hx]
        have : ∀ t ∈ jq, lh t := by unfold lh; decide
        exact this _ (sn (by simp only [jq, List.length_cons, List.length_nil]; omega) _)
    · rcases Gl hx with hx | hx
      · exact h2 x hx
      · rw [Gk hx]; exact hr
  have hfu : ∀ k : Nat, k ≤ 1000 → bS (i4 s k) fun l => l.length = k ∧ ∀ c ∈ l, fZ 45 c := fun k hk => by
    refine bS.runs (fun i (l : List (List eb)) => l.length = i ∧ ∀ c ∈ l, fZ 45 c) k ⟨rfl, fun a ha => by cases ha⟩ fun i l hi ⟨h1, h2⟩ => (bS.any _).bnd fun _ _ => (ss s (by omega) (by omega) (by omega)).bnd fun h hh => bS.ret ⟨by simp [h1], fun x hx => ?_⟩
    rcases Gl hx with hx | hx
    · exact h2 x hx
    · rw [Gk hx]; exact hh
  have hcv : ∀ k : Nat, bS (oo s k) fun l => l.length = k ∧ ∀ z ∈ l, -100 ≤ z ∧ z < 400 := fun k => by
    refine bS.runs (fun i (l : List Int) => l.length = i ∧ ∀ z ∈ l, -100 ≤ z ∧ z < 400) k ⟨rfl, fun a ha => by cases ha⟩ fun i l hi ⟨h1, h2⟩ => (cN s (by omega)).bnd fun z hz => bS.ret ⟨by simp [h1], fun x hx => ?_⟩
    rcases Gl hx with hx | hx
    · exact h2 x hx
    · rw [Gk hx]; omega
  have hgl : ∀ R fn k : Nat, fn ≤ 1000 → bS (fL s R fn k) fun l => l.length = k ∧ ∀ (i : Nat) g, l[i]? = some g → vF R i g := fun R fn k hf => by
    refine bS.runs (fun i (l : List bf) => l.length = i ∧ ∀ (j : Nat) g, l[j]? = some g → vF R j g) k ⟨rfl, fun j g h => by simp at h⟩ fun i l hi ⟨h1, h2⟩ => (wn s hf).bnd fun g hg => bS.ret ⟨by simp [h1], fun j x hx => ?_⟩
    rcases Nat.lt_or_ge j l.length with h | h
    · rw [List.getElem?_append_left h] at hx
      exact h2 j x hx
    · have hj := (Gn hx).1
      have : j = l.length := by simp at hj; omega
      subst this
      rw [List.getElem?_append_right (Nat.le_refl _), Nat.sub_self] at hx
      cases hx
      rw [h1]
      exact hg
  have hch : ∀ n : Int, 0 < n → bS (gC s n 16) fun l => (l.map dO.Rune).Sublist eR ∧ ∀ c ∈ l, 0 ≤ c.Glyph ∧ c.Glyph < n := fun n hn => by
    refine (bS.runs (b := []) (fun i (l : List dO) => (l.map dO.Rune).Sublist (eR.take i) ∧ ∀ c ∈ l, 0 ≤ c.Glyph ∧ c.Glyph < n) 16 ⟨List.nil_sublist _, fun a ha => by cases ha⟩ fun i l hi ⟨h1, h2⟩ => (bS.any _).bnd fun z _ => bS.ite (fun _ => (cN s hn).bnd fun g hg => bS.ret ⟨?_, fun x hx => ?_⟩) fun _ => bS.ret ⟨?_, h2⟩).mono fun l h => h
    · rw [List.take_add_one, km (l := eR) (i := i) hi 0, List.map_append]
      exact h1.append (List.Sublist.refl _)
    · rcases Gl hx with hx | hx
      · exact h2 x hx
      · rw [Gk hx]; exact hg
    · rw [List.take_add_one]
      exact h1.trans (List.sublist_append_left _ _)
  have hft : ∀ n : Nat, n ≤ 6 → bS (gF s n 8) fun l => (l.map bL.Name).Sublist dW ∧ ∀ t ∈ l, t.Lookups.Pairwise (· < ·) ∧ t.Lookups.length ≤ 6 ∧ ∀ z ∈ t.Lookups, 0 ≤ z ∧ z < n := fun n hn => by
    have hask : bS (mv s n) fun l => l.Pairwise (· < ·) ∧ l.length ≤ n ∧ ∀ z ∈ l, 0 ≤ z ∧ z < n := by
      refine bS.runs (fun i (l : List Int) => l.Pairwise (· < ·) ∧ l.length ≤ i ∧ ∀ z ∈ l, 0 ≤ z ∧ z < i) n ⟨.nil, Nat.le_refl _, fun a ha => by cases ha⟩ fun i l hi ⟨h1, h2, h3⟩ => (bS.any _).bnd fun z _ => bS.ret ?_
      split
      · refine ⟨?_, by simp; omega, fun x hx => ?_⟩
        · rw [List.pairwise_append]
          exact ⟨h1, List.pairwise_singleton .., fun a ha b hb => by rw [Gk hb]; have := h3 a ha; omega⟩
        · rcases Gl hx with hx | hx
          · have := h3 x hx; omega
          · rw [Gk hx]; omega
      · exact ⟨h1, by omega, fun x hx => by have := h3 x hx; omega⟩
    refine (bS.runs (b := []) (fun i (l : List bL) => (l.map bL.Name).Sublist (dW.take i) ∧ ∀ t ∈ l, t.Lookups.Pairwise (· < ·) ∧ t.Lookups.length ≤ 6 ∧ ∀ z ∈ t.Lookups, 0 ≤ z ∧ z < n) 8 ⟨List.nil_sublist _, fun a ha => by cases ha⟩ fun i l hi ⟨h1, h2⟩ => hask.bnd fun r hr => (bS.any _).bnd fun z _ => bS.ret ?_).mono fun l h => h
    split
    · refine ⟨?_, fun x hx => ?_⟩
      · rw [List.take_add_one, km (l := dW) (i := i) hi ByteArray.empty, List.map_append]
        exact h1.append (List.Sublist.refl _)
      · rcases Gl hx with hx | hx
        · exact h2 x hx
        · rw [Gk hx]; exact ⟨hr.1, by have := hr.2.1; dsimp only; omega, hr.2.2⟩
    · rw [List.take_add_one]
      exact ⟨h1.trans (List.sublist_append_left _ _), h2⟩
  refine (cN s (by omega)).bnd fun u hu => (cN s (by omega)).bnd fun k hk => (hax _).bnd fun ax ⟨ha1, ha2, ha3⟩ => (hrg _).bnd fun rg ⟨hr1, hr2⟩ => (cN s (by omega)).bnd fun k2 hk2 => (hfu _ (by omega)).bnd fun fu ⟨hf1, hf2⟩ => (cN s (by omega)).bnd fun k3 hk3 => (hcv _).bnd fun cv ⟨hc1, hc2⟩ => (cN s (by omega)).bnd fun k4 hk4 => (hgl _ _ _ (by omega)).bnd fun gl ⟨hg1, hg2⟩ => (hch gl.length (by omega)).bnd fun ch ⟨hh1, hh2⟩ => (nk s (n := gl.length) (by omega)).bnd fun lk hlk => (hft lk.length hlk.len).bnd fun ft ⟨ht1, ht2⟩ => bS.ret ?_
  refine ⟨?_, by dsimp only; omega, hg2, ?_, hh1, hh2, hlk, ht1, ht2, by dsimp only; omega, by dsimp only; rw [ha1]; exact ha2, ha3, hr1, fun r hr => ⟨by dsimp only; rw [ha1]; exact (hr2 r hr).1, (hr2 r hr).2⟩, by dsimp only; omega, hf2, by dsimp only; omega, hc2⟩
  · have : ∀ j < 4, 16 ≤ lj.getD j 0 ∧ lj.getD j 0 ≤ 4096 := by decide
    exact this _ (by omega)
  · have := hh1.length_le
    simpa [eR] using this
theorem B9 : eH (lQ s) := yF s ⟨0, 0⟩
end Go.Proofs.YtjjpkibjffmceaaGreat
