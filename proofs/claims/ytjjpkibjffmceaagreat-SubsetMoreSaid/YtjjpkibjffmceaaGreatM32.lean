/-
  What is kept of a glyph, and of characters.
-/
import Derived.Test.YtjjpkibjffmceaaGreatM30
import Derived.Test.YtjjpkibjffmceaaGreatM31
import Derived.Test.YtjjpkibjffmceaaGreatM24
import Derived.Test.YtjjpkibjffmceaaGreatM29
import Derived.Test.YtjjpkibjffmceaaGreatM22
import Derived.Test.YtjjpkibjffmceaaGreatM07
import Derived.Test.YtjjpkibjffmceaaGreatM20
namespace Go.Proofs.YtjjpkibjffmceaaGreat
open Go.RowKit
attribute [local irreducible] AT bV AX AO Av Kt bC eH DA dl
section
variable {f : aI} (h : eN f) {rs : List Int} {fs : List ByteArray}
include h
end
end Go.Proofs.YtjjpkibjffmceaaGreat
namespace Go.Proofs.YtjjpkibjffmceaaGreat
open Go.RowKit
attribute [local irreducible] AT bV AX AO Av Kt bC eH DA dl
theorem zf (l : List Int) (n : Int) : bQ Tryz.prog 19 [.imm 1 (aT l), .sc (.int .i64 n)] (.sc (.bool (l.contains n))) := by
 refine aQ Tryz.func19 rfl Tryz.ntmps19 rfl fun B => ?_
 refine cG 0 rfl rfl fun hlen => ?_
 rw [aR] at hlen
 repeat' (first|refine ae ?_|refine a6 ?_|refine ak ?_|refine a7 ?_|refine a8 ?_|refine aa a2 rfl rfl ?_)
 refine aJ [0, 1] (α := Nat) (fun i => [(5, .sc (.int .i64 i))]) (fun i => i ≤ l.length ∧ (l.take i).contains n = false) (fun _ => []) (fun i => l.length - i) 0 rfl ⟨rfl, trivial⟩ ⟨Nat.zero_le _, by simp⟩ (fun _ _ h => h) fun i hi => ?_
 try dsimp only [Gr, Gq, Gp, Gj]
 repeat' (first|refine ae ?_|refine a6 ?_|refine a7 ?_|refine a8 ?_|refine aa a2 rfl rfl ?_)
 refine aw rfl (fun h => ?_) (fun h => ?_)
 ·have hil : i < l.length := by have := Gz h; rw [aR] at this; omega
  obtain ⟨z, hz⟩ : ∃ z, l[i]? = some z := ⟨_, Ee hil⟩
  have hzg := bW hz
  repeat' (first|refine ae ?_|refine a6 ?_|refine ak ?_|refine ar ?_|refine a7 ?_|refine a8 ?_|refine aa a2 rfl rfl ?_|(apply aX; first|refine aW a2 ?_|refine aP a2 ?_)|fail)
  refine aw rfl (fun h2 => ?_) (fun h2 => ?_)
  ·have h2' := Gz h2
   repeat' (first|refine ae ?_|refine a6 ?_|refine aq ?_|refine a7 ?_|refine aE ?_|refine aS ?_|refine bJ ?_|refine a8 ?_|refine aa a2 rfl rfl ?_)
   refine aA rfl rfl ?_
   subst h2'
   rw [show l.contains z = true by simpa using Gx hz]
  ·have h2' := Gy h2
   repeat' (first|refine a6 ?_|refine ar ?_|refine a7 ?_|refine aH ?_|refine a8 ?_|refine aa a2 rfl rfl ?_|(apply aV; refine aU ?_)|fail)
   refine aB (i + 1) rfl ⟨by rw [Gw]; rfl, trivial⟩ ⟨by omega, ?_⟩ (by omega) (fun _ _ h => h)
   rw [List.take_add_one, hz]
   have := hi.2
   simp_all
   omega
 ·have hil : i = l.length := by have := Gy h; rw [aR] at this; omega
  subst hil
  rw [List.take_length] at hi
  repeat' (first|refine ae ?_|refine a6 ?_|refine aq ?_|refine aO ?_|refine a7 ?_|refine au ?_|refine ay ?_|refine av ?_|refine a8 ?_|refine aa a2 rfl rfl ?_)
  refine aA rfl rfl ?_
  rw [hi.2]
instance (l : List Int) (n : Int) : AD Tryz.prog 19 [.imm 1 (aT l), .sc (.int .i64 n)] (.sc (.bool (l.contains n))) := ⟨zf l n⟩
theorem r4 (l k : List Int) : bQ Tryz.prog 15 [.imm 1 (aT l), .imm 1 (aT k)] (.sc (.bool (l == k))) := by
 refine aQ Tryz.func15 rfl Tryz.ntmps15 rfl fun B => ?_
 refine cG 0 rfl rfl fun hlen => ?_
 rw [aR] at hlen
 repeat' (first|refine ae ?_|refine a6 ?_|refine a7 ?_|refine a8 ?_|refine aa a2 rfl rfl ?_)
 refine aw rfl (fun h => ?_) (fun h => ?_)
 ·have h' := Gz h
  simp only [aR] at h'
  repeat' (first|refine ae ?_|refine a6 ?_|refine aq ?_|refine a7 ?_|refine aE ?_|refine a8 ?_|refine aa a2 rfl rfl ?_)
  refine aA rfl rfl ?_
  rw [show (l == k) = false by rw [beq_eq_false_iff_ne]; intro e; subst e; simp at h']
 ·have h' := Gy h
  simp only [aR] at h'
  have hlk : l.length = k.length := by omega
  repeat' (first|refine ae ?_|refine a6 ?_|refine ak ?_|refine ar ?_|refine a7 ?_|refine a8 ?_|refine aa a2 rfl rfl ?_)
  refine aJ [0, 1] (α := Nat) (fun i => [(5, .sc (.int .i64 i))]) (fun i => i ≤ l.length ∧ l.take i = k.take i) (fun _ => []) (fun i => l.length - i) 0 rfl ⟨rfl, trivial⟩ ⟨Nat.zero_le _, by simp⟩ (fun _ _ h => h) fun i hi => ?_
  try dsimp only [Gr, Gq, Gp, Gj]
  repeat' (first|refine ae ?_|refine a6 ?_|refine a7 ?_|refine a8 ?_|refine aa a2 rfl rfl ?_)
  refine aw rfl (fun h => ?_) (fun h => ?_)
  ·have hil : i < l.length := by have := Gz h; rw [aR] at this; omega
   obtain ⟨z, hz⟩ : ∃ z, l[i]? = some z := ⟨_, Ee hil⟩
   obtain ⟨y, hy⟩ : ∃ z, k[i]? = some z := ⟨_, Ee (by omega)⟩
   have hzg := bW hz
   have hyg := bW hy
   repeat' (first|refine ae ?_|refine ak ?_|refine ar ?_|refine a7 ?_)
   refine bt 8 [(0, .v), (1, .v), (2, .v), (3, .v), (4, .v), (5, .v), (6, .v), (7, .v)] none ?_ trivial rfl (by kernel_rfl) (by kernel_rfl) (by kernel_rfl) mixed (by kernel_rfl) rfl
   repeat' (first|refine aC ?_|refine aZ a2 ?_|(apply ca;refine ck a2 ?_)|fail)
   refine bq [0, 1, 5, 20, 24] rfl rfl ?_
   repeat' (first|refine a7 ?_|refine a8 ?_|refine aa a2 rfl rfl ?_)
   refine aw rfl (fun h2 => ?_) (fun h2 => ?_)
   ·have h2' := Gz h2
    repeat' (first|refine ae ?_|refine a6 ?_|refine aq ?_|refine a7 ?_|refine aE ?_|refine aS ?_|refine bJ ?_|refine a8 ?_|refine aa a2 rfl rfl ?_)
    refine aA rfl rfl ?_
    rw [show (l == k) = false by rw [beq_eq_false_iff_ne]; intro e; subst e; rw [hz] at hy; injection hy with hy; exact h2' hy]
   ·have h2' := Gy h2
    repeat' (first|refine a6 ?_|refine ar ?_|refine a7 ?_|refine aH ?_|refine a8 ?_|refine aa a2 rfl rfl ?_|(apply aV; refine aU ?_)|fail)
    refine aB (i + 1) rfl ⟨by rw [Gw]; rfl, trivial⟩ ⟨by omega, ?_⟩ (by omega) (fun _ _ h => h)
    rw [List.take_add_one, List.take_add_one, hz, hy, hi.2, Decidable.not_not.1 h2']
  ·have hil : i = l.length := by have := Gy h; rw [aR] at this; omega
   subst hil
   rw [List.take_length, hlk, List.take_length] at hi
   repeat' (first|refine ae ?_|refine a6 ?_|refine aq ?_|refine aO ?_|refine a7 ?_|refine au ?_|refine ay ?_|refine av ?_|refine a8 ?_|refine aa a2 rfl rfl ?_)
   refine aA rfl rfl ?_
   rw [hi.2, beq_self_eq_true]
theorem DW : bQ Tryz.prog 94 [.imm 1 (aT [])] (.imm 1 (aT [])) := by
 refine aQ Tryz.func94 rfl Tryz.ntmps94 rfl fun B => ?_
 repeat' (first|refine ae ?_|refine a6 ?_|refine ak ?_|refine a7 ?_|refine a8 ?_|refine aa a2 rfl rfl ?_|refine iz (n := 0) a2 fun _=>?_|fail)
 refine bI (bi (t := 3) (c' := .imm 1 (aT [])) rfl fun σ v h => VR.im h) ?_
 refine bI (bY (L' := []) (List.nil_sublist _)) ?_
 refine aJ [0] (α := Unit) (fun _ => [(4, aM 0), (3, .imm 1 (aT []))]) (fun _ => True) (fun _ => []) (fun _ => 0) () rfl ⟨rfl, rfl, trivial⟩ trivial (fun _ _ h => h) ?_
 rintro ⟨⟩ -
 try dsimp only [Gr, Gq, Gp, Gj]
 repeat' (first|refine ae ?_|refine a6 ?_|refine aq ?_|refine aO ?_|refine a7 ?_|refine au ?_|refine ay ?_|refine av ?_|refine a8 ?_|refine aa a2 rfl rfl ?_|refine bN rfl ?_)
 exact aA rfl rfl rfl
instance : AD Tryz.prog 94 [.imm 1 (aT [])] (.imm 1 (aT [])) := ⟨DW⟩
theorem xn (l k : List Int) (h : ∀ z ∈ l, z ∈ k) : bQ Tryz.prog 62 [.imm 1 (aT l), .imm 1 (aT k)] (.imm 1 (aT [])) := by
 refine aQ Tryz.func62 rfl Tryz.ntmps62 rfl fun B => ?_
 have hil := aR l
 refine cG 0 rfl rfl fun hlen => ?_
 repeat' (first|refine ae ?_|refine a6 ?_|refine ak ?_|refine a7 ?_|refine a8 ?_|refine aa a2 rfl rfl ?_|refine iz (n := 0) a2 fun _=>?_|fail)
 refine bI (bi (t := 5) (c' := .imm 1 (aT [])) rfl fun σ v h => VR.im h) ?_
 refine bI (bY (L' := []) (List.nil_sublist _)) ?_
 refine aJ [0, 1] (α := Nat) (fun i => [(6, aM i), (5, .imm 1 (aT []))]) (fun i => i ≤ l.length) (fun _ => []) (fun i => l.length - i) 0 rfl ⟨rfl, rfl, trivial⟩ (Nat.zero_le _) (fun _ _ h => h) fun i hi => ?_
 try dsimp only [Gr, Gq, Gp, Gj]
 repeat' (first|refine ae ?_|refine a6 ?_|refine a7 ?_|refine a8 ?_|refine aa a2 rfl rfl ?_)
 refine aw rfl (fun h0 => ?_) (fun h0 => ?_)
 ·have hil : i < l.length := by have := Gz h0; omega
  obtain ⟨z, hz⟩ : ∃ z, l[i]? = some z := ⟨_, Ee hil⟩
  have hzg := bW hz
  have hc : k.contains z = true := by simpa using h z (Gx hz)
  repeat' (first|refine ae ?_|refine a6 ?_|refine ak ?_|refine ar ?_|refine a7 ?_|refine a8 ?_|refine aa a2 rfl rfl ?_|(apply aX; first|refine aW a2 ?_|refine aP a2 ?_)|(apply bh;refine bc ?_)|fail)
  rw [hc]
  repeat' (first|refine a6 ?_|refine ar ?_|refine a7 ?_|refine aH ?_|refine a8 ?_|refine aa a2 rfl rfl ?_|(apply aV; refine aU ?_)|refine bN rfl ?_)
  exact aB (i + 1) rfl ⟨by rw [Gw]; rfl, rfl, trivial⟩ (by omega) (by omega) (fun _ _ h => h)
 have hil : i = l.length := by have := Gy h0; omega
 subst hil
 repeat' (first|refine ae ?_|refine a6 ?_|refine aq ?_|refine aO ?_|refine a7 ?_|refine au ?_|refine ay ?_|refine av ?_|refine a8 ?_|refine aa a2 rfl rfl ?_|(apply bh;refine bc ?_)|fail)
 exact aA rfl rfl rfl
theorem Cv (l k : List Int) (h : ∀ z ∈ l, z ∈ k) : bQ Tryz.prog 20 [.imm 1 (aT l), .imm 1 (aT k)] (cO true) := by
 refine aQ Tryz.func20 rfl Tryz.ntmps20 rfl fun B => ?_
 haveI := AD.mk (xn l k h)
 repeat' (first|refine ae ?_|refine a6 ?_|refine aq ?_|refine a7 ?_|refine a8 ?_|refine aa a2 rfl rfl ?_|(apply bh;refine bc ?_)|fail)
 exact aA rfl rfl rfl
theorem xS (f g : aI) (hf : mE f) (hg : mE g) : bQ Tryz.prog 16 [ct f, ct g] (cO (decide (vO f = vO g))) := by
 refine aQ Tryz.func16 rfl Tryz.ntmps16 rfl fun B => ?_
 haveI : Fl f := ⟨hf⟩
 haveI : Fl g := ⟨hg⟩
 repeat' (first|refine ae ?_|refine a6 ?_|refine a7 ?_|refine a8 ?_|refine aa a2 rfl rfl ?_|refine bg ?_|fail)
 refine bt 3 [(0, .v), (1, .v), (2, .v)] none ?_ trivial rfl (by kernel_rfl) (by kernel_rfl) (by kernel_rfl) mixed (by kernel_rfl) rfl
 repeat' (first|refine aC ?_|refine aZ a2 ?_|(apply bB;refine bP ?_)|fail)
 refine bq [6, 7] rfl rfl ?_
 repeat' (first|refine aq ?_|refine a7 ?_|refine a8 ?_|refine aa a2 rfl rfl ?_|(apply bh;refine bc ?_)|fail)
 exact aA rfl rfl rfl
def E7 (c : UInt8) : bo := ⟨⟨#[c]⟩, 0, false, [], [], [], [], [], []⟩
def oz : aI := ⟨1000, [E7 97, E7 98, E7 99], [⟨97, 2⟩], [], [], [], [], [], []⟩
theorem we : er oz := by
 unfold er
 decide
theorem F6 (z : Int) : prt oz z = [] := by
 unfold prt oz
 dsimp only
 generalize z.toNat = n
 rcases n with _ | _ | _ | n <;> rfl
theorem Aq : jV oz.Glyphs.length (prt oz) := ⟨fun _ => 0, fun g _ _ p hp => by rw [F6] at hp; cases hp⟩
theorem tS : (cr 400 oz.Glyphs (ei oz)).1 = 0 := by decide
theorem E8 : lY oz = 0 := by decide
theorem Ce : (cr 1000 oz.Chars (i3 oz)).1 = 0 := by decide
theorem E6 : jl oz (fun _ => 0) (fun _ => 0) := by
 intro z h0 h1 gl hgl
 have h1 : z < 3 := h1
 have : z = 0 ∨ z = 1 ∨ z = 2 := by omega
 rcases this with rfl | rfl | rfl <;> (injection hgl with e; subst e; exact ⟨by decide, by decide⟩)
theorem Cf : (kR oz).1 = 0 := by
 refine dT.2 fun x hx => ?_
 have hc : (lO oz).1 = 0 := by
  rw [oV (iP tS) Aq E6]
  decide
 simp only [zb, List.mem_cons, List.not_mem_nil, or_false] at hx
 rcases hx with rfl | rfl | rfl | rfl | rfl | rfl | rfl | rfl | rfl | rfl
 ·exact E8
 ·exact tS
 ·exact hc
 ·exact Ce
 ·rfl
 ·rfl
 ·rfl
 ·rfl
 ·rfl
 ·rfl
theorem wd (fs : List ByteArray) : reachN oz fs = [] := rfl
theorem E9 : dY (gY oz [97] []) = [0, 2] := by
 rw [pP (ou (f := oz) [97] []).ok]
 unfold gY
 rw [wd]
 decide
theorem F5 : mE oz := by
 have hn : NB 0 := ⟨by decide, by decide⟩
 have hG : ∀ c, sm (E7 c) := fun c => ⟨by show 1 ≤ 50; decide, hn, ⟨Nat.zero_le _, fun p hp => by cases hp⟩, ⟨Nat.zero_le _, fun p hp => by cases hp⟩, ⟨Nat.zero_le _, fun p hp => by cases hp⟩, ⟨Nat.zero_le _, fun p hp => by cases hp⟩, ⟨Nat.zero_le _, fun p hp => by cases hp⟩, ⟨Nat.zero_le _, fun p hp => by cases hp⟩⟩
 refine ⟨⟨by decide, by decide⟩, ⟨by decide, fun g hg => ?_⟩, ⟨by decide, fun c hc => ?_⟩, ⟨Nat.zero_le _, fun p hp => by cases hp⟩, ⟨Nat.zero_le _, fun p hp => by cases hp⟩, ⟨Nat.zero_le _, fun p hp => by cases hp⟩, ⟨Nat.zero_le _, fun p hp => by cases hp⟩, ⟨Nat.zero_le _, fun p hp => by cases hp⟩, ⟨Nat.zero_le _, fun p hp => by cases hp⟩⟩
 ·simp only [oz, List.mem_cons, List.not_mem_nil, or_false] at hg
  rcases hg with rfl | rfl | rfl <;> exact hG _
 ·rw [Gk hc]
  exact ⟨⟨by decide, by decide⟩, ⟨by decide, by decide⟩⟩
def wc : aI := ⟨1000, [E7 97, E7 99], [⟨97, 1⟩], [], [], [], [], [], []⟩
theorem Ar : oY oz [97] [] [0, 2] (reachN oz []) = wc := by
 rw [wd]
 rfl
theorem Ea : bQ Tryz.prog 11 [ct oz, o9 [97] []] (.tup [ct wc, .imm 1 (aT [0, 2]), aM 0]) := by
 have hg := qr oz we (fun _ => Aq) [97] []
 unfold lX at hg
 rw [if_pos Cf, if_neg (by decide), E9] at hg
 have h := pY oz F5 we [97] [] [0, 2] ⟨by decide, by decide⟩ hg
 rw [Ar] at h
 exact h
theorem F9 : iU Tryz.prog 68 := ⟨⟨_, _, Tryz.underlying68, ⟨by decide, by decide⟩, ⟨rfl, rfl⟩, Tryz.underlying3, Tryz.underlying3⟩, by kernel_rfl⟩
set_option maxHeartbeats 2000000 in
theorem xV : bQ Tryz.prog 7 [] (cO true) := by
 refine aQ Tryz.func7 rfl Tryz.ntmps7 rfl fun B => ?_
 repeat' (first|refine ae ?_|refine a6 ?_|refine a7 ?_|refine a8 ?_|refine aa a2 rfl rfl ?_|(apply aG; first|refine ah 1 a2 0 rfl rfl rfl rfl rfl rfl rfl rfl ?_|refine ah 1 a2 1 rfl rfl rfl rfl rfl rfl rfl rfl ?_|refine ah 1 a2 2 rfl rfl rfl rfl rfl rfl rfl rfl ?_|refine ah 2 a2 0 rfl rfl rfl rfl rfl rfl rfl rfl ?_|refine ah 2 a2 1 rfl rfl rfl rfl rfl rfl rfl rfl ?_|refine ah 2 a2 2 rfl rfl rfl rfl rfl rfl rfl rfl ?_|refine ai a2 0 rfl rfl rfl rfl rfl rfl rfl ?_|refine ai a2 1 rfl rfl rfl rfl rfl rfl rfl ?_|refine ai a2 2 rfl rfl rfl rfl rfl rfl rfl ?_|refine ai a2 3 rfl rfl rfl rfl rfl rfl rfl ?_|fail)|refine b7 a2 fun _=>?_|refine bG a2 ?_|fail)
 refine aN (bi (t := 13) (c' := ct oz) rfl fun σ v h => ?_) ?_
 ·refine eb.agg ?_ σ v h
  repeat' first | exact eb.refl _ | exact eb.nil _ | exact True.intro | refine eb.agg ?_ | refine eb.imm ?_ | refine And.intro ?_ ?_
 refine aN (bi (t := 15) (c' := o9 [97] []) rfl fun σ v h => ?_) ?_
 ·refine eb.agg ?_ σ v h
  repeat' first | exact eb.refl _ | exact eb.nil _ | exact True.intro | refine eb.agg ?_ | refine eb.imm ?_ | refine And.intro ?_ ?_
 refine bc (hc := ⟨Ea⟩) ?_
 have g1 : (wc.Glyphs.map bA)[1]? = some (bA (E7 99)) := rfl
 have g2 : (wc.Chars.map cw)[0]? = some (cw ⟨97, 1⟩) := rfl
 repeat' (first|refine ae ?_|refine a6 ?_|refine a7 ?_|refine a8 ?_|refine aa a2 rfl rfl ?_|refine aF rfl rfl ?_|(apply aX; first|refine aW a2 ?_|refine aP a2 ?_)|(apply aG; first|refine ah 1 a2 0 rfl rfl rfl rfl rfl rfl rfl rfl ?_|refine ah 1 a2 1 rfl rfl rfl rfl rfl rfl rfl rfl ?_|refine ah 1 a2 2 rfl rfl rfl rfl rfl rfl rfl rfl ?_|refine ah 2 a2 0 rfl rfl rfl rfl rfl rfl rfl rfl ?_|refine ah 2 a2 1 rfl rfl rfl rfl rfl rfl rfl rfl ?_|refine ah 2 a2 2 rfl rfl rfl rfl rfl rfl rfl rfl ?_|refine ai a2 0 rfl rfl rfl rfl rfl rfl rfl ?_|refine ai a2 1 rfl rfl rfl rfl rfl rfl rfl ?_|refine ai a2 2 rfl rfl rfl rfl rfl rfl rfl ?_|refine ai a2 3 rfl rfl rfl rfl rfl rfl rfl ?_|fail)|refine b7 a2 fun _=>?_|fail)
 refine zN F9 (by kernel_rfl) rfl rfl rfl ?_
 repeat' (first|refine aa a2 rfl rfl ?_|refine aF rfl rfl ?_|refine bG a2 ?_|fail)
 refine bc (u := cO true) (hc := ⟨r4 [0, 2] [0, 2]⟩) ?_
 repeat' (first|refine aq ?_|refine a7 ?_|refine a8 ?_|refine aa a2 rfl rfl ?_)
 exact aA rfl rfl rfl
theorem kp {f : aI} (h : eN f) (rs : List Int) (fs : List ByteArray) (hr : rs.any qi = false) : bQ Tryz.prog 11 [ct f, o9 rs fs] (.tup [ct (oY f rs fs (gk f rs fs) (reachN f fs)), .imm 1 (aT (gk f rs fs)), aM 0]) := by
 have hg := qr f h.small (fun _ => h.acyc) rs fs
 unfold lX at hg
 rw [if_pos h.right, if_neg (by rw [hr]; exact fun e => by cases e)] at hg
 exact pY f h.fpr h.small rs fs (gk f rs fs) (n8 f rs fs) hg
theorem A7 {α : Type} {l : List α} {i : Nat} {x : α} (h : l[i]? = some x) : ((l.drop i).reverse.flatMap fun y => [y, y]) = ((l.drop (i + 1)).reverse.flatMap fun y => [y, y]) ++ [x, x] := by
 obtain ⟨hi, hx⟩ := Gn h
 rw [show l.drop i = x :: l.drop (i + 1) by rw [← hx, List.getElem_cons_drop]]
 simp
theorem vM {α : Type} (l : List α) : (l.flatMap fun y => [y, y]).length = 2 * l.length := by
 induction l with
 | nil => rfl
 | cons a r ih => rw [List.flatMap_cons, List.length_append, ih, List.length_cons]; simp; omega
set_option maxHeartbeats 4000000 in
theorem tU (a : AN) (b c : Int) (h1 : 0 ≤ a.Runes ∧ a.Runes < 4294967296) (h2 : 0 ≤ a.Features ∧ a.Features < 4294967296) (hb : 0 ≤ b ∧ b < 4294967296) (hc : 0 ≤ c ∧ c < 4294967296) : bQ Tryz.prog 5 [.agg (Bd a), CD b, CD c] (cO true) := by
 refine aQ Tryz.func5 rfl Tryz.ntmps5 rfl fun B => ?_
 haveI c1 : AD Tryz.prog 7 [] (cO true) := ⟨xV⟩
 haveI c2 : AD Tryz.prog 8 [.imm 1 (aT a.Font)] (ct (md (a.Font.take 300))) := ⟨xk _⟩
 have hG := BZ (a.Font.take 300)
 repeat' (first|refine ae ?_|refine a6 ?_|refine a7 ?_|refine a8 ?_|refine aa a2 rfl rfl ?_|(apply bK; first|refine aj a2 0 rfl rfl rfl rfl rfl ?_|refine aj a2 1 rfl rfl rfl rfl rfl ?_|refine aj a2 2 rfl rfl rfl rfl rfl ?_|refine aj a2 3 rfl rfl rfl rfl rfl ?_|refine aD a2 0 rfl rfl rfl rfl rfl ?_|refine aD a2 1 rfl rfl rfl rfl rfl ?_|refine aD a2 2 rfl rfl rfl rfl rfl ?_|refine aj a2 1 rfl rfl rfl (by assumption) rfl ?_|refine aj a2 0 rfl rfl rfl (by assumption) rfl ?_|fail)|(apply aG; first|refine ah 8 a2 0 rfl rfl rfl rfl rfl rfl rfl rfl ?_|refine ah 8 a2 1 rfl rfl rfl rfl rfl rfl rfl rfl ?_|refine ah 8 a2 2 rfl rfl rfl rfl rfl rfl rfl rfl ?_|refine ah 10 a2 0 rfl rfl rfl rfl rfl rfl rfl rfl ?_|refine ah 10 a2 1 rfl rfl rfl rfl rfl rfl rfl rfl ?_|refine ah 10 a2 2 rfl rfl rfl rfl rfl rfl rfl rfl ?_|refine ah 14 a2 0 rfl rfl rfl rfl rfl rfl rfl rfl ?_|refine ah 14 a2 1 rfl rfl rfl rfl rfl rfl rfl rfl ?_|refine ah 14 a2 2 rfl rfl rfl rfl rfl rfl rfl rfl ?_|refine ah 17 a2 0 rfl rfl rfl rfl rfl rfl rfl rfl ?_|refine ah 17 a2 1 rfl rfl rfl rfl rfl rfl rfl rfl ?_|refine ah 17 a2 2 rfl rfl rfl rfl rfl rfl rfl rfl ?_|refine ah 20 a2 0 rfl rfl rfl rfl rfl rfl rfl rfl ?_|refine ah 20 a2 1 rfl rfl rfl rfl rfl rfl rfl rfl ?_|refine ah 20 a2 2 rfl rfl rfl rfl rfl rfl rfl rfl ?_|refine ai a2 0 rfl rfl rfl rfl rfl rfl rfl ?_|refine ai a2 1 rfl rfl rfl rfl rfl rfl rfl ?_|refine ai a2 2 rfl rfl rfl rfl rfl rfl rfl ?_|refine ai a2 3 rfl rfl rfl rfl rfl rfl rfl ?_|fail)|refine bg ?_|refine b7 a2 fun _=>?_|(apply bh;refine bc ?_)|fail)
 generalize md (a.Font.take 300) = f at hG c2 ⊢
 refine vW rfl rfl rfl ?_
 repeat' (first|refine ae ?_|refine a6 ?_|refine a7 ?_|refine a8 ?_|refine aa a2 rfl rfl ?_|(apply bK; first|refine aj a2 0 rfl rfl rfl rfl rfl ?_|refine aj a2 1 rfl rfl rfl rfl rfl ?_|refine aj a2 2 rfl rfl rfl rfl rfl ?_|refine aj a2 3 rfl rfl rfl rfl rfl ?_|refine aD a2 0 rfl rfl rfl rfl rfl ?_|refine aD a2 1 rfl rfl rfl rfl rfl ?_|refine aD a2 2 rfl rfl rfl rfl rfl ?_|refine aj a2 1 rfl rfl rfl (by assumption) rfl ?_|refine aj a2 0 rfl rfl rfl (by assumption) rfl ?_|fail)|(apply aG; first|refine ah 8 a2 0 rfl rfl rfl rfl rfl rfl rfl rfl ?_|refine ah 8 a2 1 rfl rfl rfl rfl rfl rfl rfl rfl ?_|refine ah 8 a2 2 rfl rfl rfl rfl rfl rfl rfl rfl ?_|refine ah 10 a2 0 rfl rfl rfl rfl rfl rfl rfl rfl ?_|refine ah 10 a2 1 rfl rfl rfl rfl rfl rfl rfl rfl ?_|refine ah 10 a2 2 rfl rfl rfl rfl rfl rfl rfl rfl ?_|refine ah 14 a2 0 rfl rfl rfl rfl rfl rfl rfl rfl ?_|refine ah 14 a2 1 rfl rfl rfl rfl rfl rfl rfl rfl ?_|refine ah 14 a2 2 rfl rfl rfl rfl rfl rfl rfl rfl ?_|refine ah 17 a2 0 rfl rfl rfl rfl rfl rfl rfl rfl ?_|refine ah 17 a2 1 rfl rfl rfl rfl rfl rfl rfl rfl ?_|refine ah 17 a2 2 rfl rfl rfl rfl rfl rfl rfl rfl ?_|refine ah 20 a2 0 rfl rfl rfl rfl rfl rfl rfl rfl ?_|refine ah 20 a2 1 rfl rfl rfl rfl rfl rfl rfl rfl ?_|refine ah 20 a2 2 rfl rfl rfl rfl rfl rfl rfl rfl ?_|refine ai a2 0 rfl rfl rfl rfl rfl rfl rfl ?_|refine ai a2 1 rfl rfl rfl rfl rfl rfl rfl ?_|refine ai a2 2 rfl rfl rfl rfl rfl rfl rfl ?_|refine ai a2 3 rfl rfl rfl rfl rfl rfl rfl ?_|fail))
 refine vW rfl rfl rfl ?_
 repeat' (first|refine ae ?_|refine a6 ?_|refine a7 ?_|refine a8 ?_|refine aa a2 rfl rfl ?_|(apply aG; first|refine ah 8 a2 0 rfl rfl rfl rfl rfl rfl rfl rfl ?_|refine ah 8 a2 1 rfl rfl rfl rfl rfl rfl rfl rfl ?_|refine ah 8 a2 2 rfl rfl rfl rfl rfl rfl rfl rfl ?_|refine ah 10 a2 0 rfl rfl rfl rfl rfl rfl rfl rfl ?_|refine ah 10 a2 1 rfl rfl rfl rfl rfl rfl rfl rfl ?_|refine ah 10 a2 2 rfl rfl rfl rfl rfl rfl rfl rfl ?_|refine ah 14 a2 0 rfl rfl rfl rfl rfl rfl rfl rfl ?_|refine ah 14 a2 1 rfl rfl rfl rfl rfl rfl rfl rfl ?_|refine ah 14 a2 2 rfl rfl rfl rfl rfl rfl rfl rfl ?_|refine ah 17 a2 0 rfl rfl rfl rfl rfl rfl rfl rfl ?_|refine ah 17 a2 1 rfl rfl rfl rfl rfl rfl rfl rfl ?_|refine ah 17 a2 2 rfl rfl rfl rfl rfl rfl rfl rfl ?_|refine ah 20 a2 0 rfl rfl rfl rfl rfl rfl rfl rfl ?_|refine ah 20 a2 1 rfl rfl rfl rfl rfl rfl rfl rfl ?_|refine ah 20 a2 2 rfl rfl rfl rfl rfl rfl rfl rfl ?_|refine ai a2 0 rfl rfl rfl rfl rfl rfl rfl ?_|refine ai a2 1 rfl rfl rfl rfl rfl rfl rfl ?_|refine ai a2 2 rfl rfl rfl rfl rfl rfl rfl ?_|refine ai a2 3 rfl rfl rfl rfl rfl rfl rfl ?_|fail))
 refine bc (hc := ⟨nW a⟩) ?_
 have hrt : ∀ z ∈ oN a.Runes, z ∈ fI := fun z hz => qA hz
 have hmore := yx (f := f) h1 hb h2 hc
 have hrl : (oN a.Runes).length ≤ 17 := jd _ _ _
 have hfl : (sC a.Features).length ≤ 9 := jd _ _ _
 have hreq := nW { a with Runes := bits .or .u32 a.Runes b, Features := bits .or .u32 a.Features c }
 have hrt2 : ∀ z ∈ oN (bits .or .u32 a.Runes b), z ∈ fI := fun z hz => qA hz
 dsimp only at hreq
 generalize oN (bits .or .u32 a.Runes b) = rs2 at hmore hreq hrt2
 generalize sC (bits .or .u32 a.Features c) = fs2 at hmore hreq
 generalize oN a.Runes = rs at hrt hmore hrl ⊢
 generalize sC a.Features = fs at hmore hfl ⊢
 repeat' (first|refine ae ?_|refine a6 ?_|refine a7 ?_|refine a8 ?_|refine aa a2 rfl rfl ?_|(apply aG; first|refine ah 8 a2 0 rfl rfl rfl rfl rfl rfl rfl rfl ?_|refine ah 8 a2 1 rfl rfl rfl rfl rfl rfl rfl rfl ?_|refine ah 8 a2 2 rfl rfl rfl rfl rfl rfl rfl rfl ?_|refine ah 10 a2 0 rfl rfl rfl rfl rfl rfl rfl rfl ?_|refine ah 10 a2 1 rfl rfl rfl rfl rfl rfl rfl rfl ?_|refine ah 10 a2 2 rfl rfl rfl rfl rfl rfl rfl rfl ?_|refine ah 14 a2 0 rfl rfl rfl rfl rfl rfl rfl rfl ?_|refine ah 14 a2 1 rfl rfl rfl rfl rfl rfl rfl rfl ?_|refine ah 14 a2 2 rfl rfl rfl rfl rfl rfl rfl rfl ?_|refine ah 17 a2 0 rfl rfl rfl rfl rfl rfl rfl rfl ?_|refine ah 17 a2 1 rfl rfl rfl rfl rfl rfl rfl rfl ?_|refine ah 17 a2 2 rfl rfl rfl rfl rfl rfl rfl rfl ?_|refine ah 20 a2 0 rfl rfl rfl rfl rfl rfl rfl rfl ?_|refine ah 20 a2 1 rfl rfl rfl rfl rfl rfl rfl rfl ?_|refine ah 20 a2 2 rfl rfl rfl rfl rfl rfl rfl rfl ?_|refine ai a2 0 rfl rfl rfl rfl rfl rfl rfl ?_|refine ai a2 1 rfl rfl rfl rfl rfl rfl rfl ?_|refine ai a2 2 rfl rfl rfl rfl rfl rfl rfl ?_|refine ai a2 3 rfl rfl rfl rfl rfl rfl rfl ?_|fail)|refine b7 a2 fun _=>?_|refine iz (d := 40) a2 fun _=>?_|refine iz (d := 41) a2 fun _=>?_|fail)
 rename_i nf nb nr k40 k41 tb
 have hil := aR rs
 have hfs := fq fs
 refine aN (mC (t := 9) 3 rfl rfl rfl) ?_
 refine aN (aK (L' := (tb, .box [.vec (some (k40, 1)) 1 (aT [1114111]), .vec (some (k41, 1)) 1 (ey [dz])] 40) :: (k40, .vec 3 1 1 1) :: [(k41, .vec 9 1 1 1)]) (List.Perm.cons _ (List.Perm.swap _ _ _))) ?_
 repeat' (first|refine ak ?_|refine a7 ?_|refine a8 ?_|refine aa a2 rfl rfl ?_|(apply aV; refine aU ?_)|fail)
 have hT0 : (1114111 :: ((rs.drop rs.length).reverse.flatMap fun y => [y, y]) : List Int) = [1114111] := by rw [List.drop_length]; rfl
 refine aJ [7, 8, 9, 10, 11] (α := Nat × Option (Nat × Nat)) (fun x => [(12, aM ((x.1 : Int) - 1))]) (fun x => x.1 ≤ rs.length) (fun x => [(tb, .box [.vec x.2 1 (aT (1114111 :: ((rs.drop x.1).reverse.flatMap fun y => [y, y]))), .vec (some (k41, 1)) 1 (ey [dz])] 40)] ++ (tok x.2 3 1 (aT (1114111 :: ((rs.drop x.1).reverse.flatMap fun y => [y, y]))).length ++ [(k41, .vec 9 1 1 1)])) (fun x => x.1) (rs.length, some (k40, 1)) rfl ⟨by rw [← hil]; rfl, trivial⟩ (Nat.le_refl _) (fun _ _ h => by dsimp only; rw [hT0]; exact h) ?_
 rintro ⟨j, q⟩ hj
 dsimp only at hj ⊢
 have hTl : (aT (1114111 :: ((rs.drop j).reverse.flatMap fun y => [y, y]))).length ≤ 100 := by
  rw [aR, List.length_cons, vM, List.length_reverse, List.length_drop]
  omega
 try dsimp only [Gr, Gq, Gp, Gj]
 repeat' (first|refine ae ?_|refine a6 ?_|refine a7 ?_|refine a8 ?_|refine aa a2 rfl rfl ?_)
 refine aw rfl (fun h => ?_) (fun h => ?_)
 ·have hj0 : 0 < j := by have := Gz h; omega
  obtain ⟨z, hz⟩ : ∃ z, rs[((j : Int) - 1).toNat]? = some z := ⟨_, Ee (by omega)⟩
  have hzg := bW hz
  have hT : (1114111 :: ((rs.drop (j - 1)).reverse.flatMap fun y => [y, y]) : List Int) = (1114111 :: ((rs.drop j).reverse.flatMap fun y => [y, y])) ++ [z, z] := by
   have := A7 (l := rs) (i := j - 1) (x := z) (by rw [← hz]; congr 1; omega)
   rw [this, show j - 1 + 1 = j by omega]
   rfl
  clear h
  repeat' (first|refine ae ?_|refine ak ?_|refine ar ?_|refine a7 ?_)
  refine bt 13 [(0, .v), (1, .l), (2, .v), (3, .v), (4, .v), (5, .v), (6, .v), (7, .v), (8, .v), (9, .v), (10, .v), (11, .v), (12, .v)] none ?_ trivial rfl (by kernel_rfl) (by kernel_rfl) (by kernel_rfl) mixed (by kernel_rfl) rfl
  repeat' (first|refine aC ?_|refine aZ a2 ?_|(apply ca;refine ck a2 ?_)|refine eh a2 ?_|refine df a2 0 rfl rfl rfl rfl (by first|trivial|rfl) ?_)
  refine bq [7, 8, 9, 10, 11, 12, 52, 63] rfl rfl ?_
  repeat' (first|fail)
  refine bE a2 _ rfl rfl rfl rfl (List.perm_append_comm_assoc [_] _ _) (by simp only [List.length_cons, List.length_nil]; omega) (by simp only [List.length_cons, List.length_nil]; omega) rfl fun q' => ?_
  refine aN (aK (List.perm_append_comm_assoc _ [_] _)) ?_
  repeat' (first|refine a6 ?_|refine a7 ?_|refine aH ?_|refine a8 ?_|refine aa a2 rfl rfl ?_|(apply aV; refine aU ?_)|(apply aG; first|refine ah 8 a2 0 rfl rfl rfl rfl rfl rfl rfl rfl ?_|refine ah 8 a2 1 rfl rfl rfl rfl rfl rfl rfl rfl ?_|refine ah 8 a2 2 rfl rfl rfl rfl rfl rfl rfl rfl ?_|refine ah 10 a2 0 rfl rfl rfl rfl rfl rfl rfl rfl ?_|refine ah 10 a2 1 rfl rfl rfl rfl rfl rfl rfl rfl ?_|refine ah 10 a2 2 rfl rfl rfl rfl rfl rfl rfl rfl ?_|refine ah 14 a2 0 rfl rfl rfl rfl rfl rfl rfl rfl ?_|refine ah 14 a2 1 rfl rfl rfl rfl rfl rfl rfl rfl ?_|refine ah 14 a2 2 rfl rfl rfl rfl rfl rfl rfl rfl ?_|refine ah 17 a2 0 rfl rfl rfl rfl rfl rfl rfl rfl ?_|refine ah 17 a2 1 rfl rfl rfl rfl rfl rfl rfl rfl ?_|refine ah 17 a2 2 rfl rfl rfl rfl rfl rfl rfl rfl ?_|refine ah 20 a2 0 rfl rfl rfl rfl rfl rfl rfl rfl ?_|refine ah 20 a2 1 rfl rfl rfl rfl rfl rfl rfl rfl ?_|refine ah 20 a2 2 rfl rfl rfl rfl rfl rfl rfl rfl ?_|refine ai a2 0 rfl rfl rfl rfl rfl rfl rfl ?_|refine ai a2 1 rfl rfl rfl rfl rfl rfl rfl ?_|refine ai a2 2 rfl rfl rfl rfl rfl rfl rfl ?_|refine ai a2 3 rfl rfl rfl rfl rfl rfl rfl ?_|fail))
  exact aB (j - 1, q') rfl ⟨by dsimp only; rw [show ((j - 1 : Nat) : Int) - 1 = (j : Int) - 1 - 1 by omega]; rfl, trivial⟩ (by dsimp only; omega) (by dsimp only; omega) (fun _ _ h => by dsimp only; rw [hT, ← j3]; exact h)
 have hj0 : j = 0 := by have := Gy h; omega
 subst hj0
 rw [List.drop_zero, show (1114111 :: (rs.reverse.flatMap fun y => [y, y]) : List Int) = mB 1114111 rs from rfl]
 clear h hj hTl hT0
 have htm : ∀ z ∈ mB 1114111 rs, z ∈ fI ∨ z = 1114111 := fun z hz => (nw.1 hz).elim .inr fun h => .inl (hrt z h)
 have hsame := y6 hG rs fs
 generalize mB 1114111 rs = rt at htm hsame ⊢
 refine bI (br 0 (cs' := [.imm 1 (aT rt), .vec (some (k41, 1)) 1 (ey [dz])]) rfl fun σ vs h => nD.vrs (a := [.vec q 1 (aT rt), .vec (some (k41, 1)) 1 (ey [dz])]) (b := [.imm 1 (aT rt), .vec (some (k41, 1)) 1 (ey [dz])]) ⟨eb.im, eb.refl _, trivial⟩ h) ?_
 refine bI (bY (L' := [(tb, .box [.imm 1 (aT rt), .vec (some (k41, 1)) 1 (ey [dz])] 40), (k41, .vec 9 1 1 1)]) (List.Sublist.cons_cons _ (List.sublist_append_right ..))) ?_
 repeat' (first|refine ae ?_|refine a6 ?_|refine ak ?_|refine aO ?_|refine a7 ?_|refine au ?_|refine ay ?_|refine av ?_|refine a8 ?_|refine aa a2 rfl rfl ?_|(apply aV; refine aU ?_)|fail)
 have hT0 : (dz :: ((fs.drop fs.length).reverse.flatMap fun y => [y, y])) = [dz] := by rw [List.drop_length]; rfl
 refine aJ [7, 8, 9, 10, 11] (α := Nat × Option (Nat × Nat)) (fun x => [(13, aM ((x.1 : Int) - 1))]) (fun x => x.1 ≤ fs.length) (fun x => [(tb, .box [.imm 1 (aT rt), .vec x.2 1 (ey (dz :: ((fs.drop x.1).reverse.flatMap fun y => [y, y])))] 40)] ++ (tok x.2 9 1 (ey (dz :: ((fs.drop x.1).reverse.flatMap fun y => [y, y]))).length)) (fun x => x.1) (fs.length, some (k41, 1)) rfl ⟨by rw [← hfs]; rfl, trivial⟩ (Nat.le_refl _) (fun _ _ h => by dsimp only; rw [hT0]; exact h) ?_
 rintro ⟨j, q2⟩ hj
 dsimp only at hj ⊢
 have hTl : (ey (dz :: ((fs.drop j).reverse.flatMap fun y => [y, y]))).length ≤ 100 := by
  rw [fq, List.length_cons, vM, List.length_reverse, List.length_drop]
  omega
 try dsimp only [Gr, Gq, Gp, Gj]
 repeat' (first|refine ae ?_|refine a6 ?_|refine a7 ?_|refine a8 ?_|refine aa a2 rfl rfl ?_)
 refine aw rfl (fun h => ?_) (fun h => ?_)
 ·have hj0 : 0 < j := by have := Gz h; omega
  obtain ⟨z, hz⟩ : ∃ z, fs[((j : Int) - 1).toNat]? = some z := ⟨_, Ee (by omega)⟩
  have hzg : (ey fs)[((j : Int) - 1).toNat]? = some [gE z] := by unfold ey; rw [List.getElem?_map, hz]; rfl
  have hT : (dz :: ((fs.drop (j - 1)).reverse.flatMap fun y => [y, y])) = (dz :: ((fs.drop j).reverse.flatMap fun y => [y, y])) ++ [z, z] := by
   have := A7 (l := fs) (i := j - 1) (x := z) (by rw [← hz]; congr 1; omega)
   rw [this, show j - 1 + 1 = j by omega]
   rfl
  clear h
  repeat' (first|refine ae ?_|refine ak ?_|refine ar ?_|refine a7 ?_)
  refine bt 13 [(0, .v), (1, .l), (2, .v), (3, .v), (4, .v), (5, .v), (6, .v), (7, .v), (8, .v), (9, .v), (10, .v), (11, .v), (12, .v)] none ?_ trivial rfl (by kernel_rfl) (by kernel_rfl) (by kernel_rfl) mixed (by kernel_rfl) rfl
  repeat' (first|refine aC ?_|refine aZ a2 ?_|(apply ca;refine ck a2 ?_)|refine eh a2 ?_|refine df a2 0 rfl rfl rfl rfl (by first|trivial|rfl) ?_)
  refine bq [7, 8, 9, 10, 11, 13, 75, 86] rfl rfl ?_
  repeat' (first|fail)
  refine bE a2 _ rfl rfl rfl rfl (List.perm_append_comm (l₁ := [_])) (by simp only [List.length_cons, List.length_nil]; omega) (by simp only [List.length_cons, List.length_nil]; omega) rfl fun q' => ?_
  refine aN (aK (List.perm_append_comm (l₂ := [_]))) ?_
  repeat' (first|refine a6 ?_|refine a7 ?_|refine aH ?_|refine a8 ?_|refine aa a2 rfl rfl ?_|(apply aV; refine aU ?_)|(apply aG; first|refine ah 8 a2 0 rfl rfl rfl rfl rfl rfl rfl rfl ?_|refine ah 8 a2 1 rfl rfl rfl rfl rfl rfl rfl rfl ?_|refine ah 8 a2 2 rfl rfl rfl rfl rfl rfl rfl rfl ?_|refine ah 10 a2 0 rfl rfl rfl rfl rfl rfl rfl rfl ?_|refine ah 10 a2 1 rfl rfl rfl rfl rfl rfl rfl rfl ?_|refine ah 10 a2 2 rfl rfl rfl rfl rfl rfl rfl rfl ?_|refine ah 14 a2 0 rfl rfl rfl rfl rfl rfl rfl rfl ?_|refine ah 14 a2 1 rfl rfl rfl rfl rfl rfl rfl rfl ?_|refine ah 14 a2 2 rfl rfl rfl rfl rfl rfl rfl rfl ?_|refine ah 17 a2 0 rfl rfl rfl rfl rfl rfl rfl rfl ?_|refine ah 17 a2 1 rfl rfl rfl rfl rfl rfl rfl rfl ?_|refine ah 17 a2 2 rfl rfl rfl rfl rfl rfl rfl rfl ?_|refine ah 20 a2 0 rfl rfl rfl rfl rfl rfl rfl rfl ?_|refine ah 20 a2 1 rfl rfl rfl rfl rfl rfl rfl rfl ?_|refine ah 20 a2 2 rfl rfl rfl rfl rfl rfl rfl rfl ?_|refine ai a2 0 rfl rfl rfl rfl rfl rfl rfl ?_|refine ai a2 1 rfl rfl rfl rfl rfl rfl rfl ?_|refine ai a2 2 rfl rfl rfl rfl rfl rfl rfl ?_|refine ai a2 3 rfl rfl rfl rfl rfl rfl rfl ?_|fail))
  exact aB (j - 1, q') rfl ⟨by dsimp only; rw [show ((j - 1 : Nat) : Int) - 1 = (j : Int) - 1 - 1 by omega]; rfl, trivial⟩ (by dsimp only; omega) (by dsimp only; omega) (fun _ _ h => by dsimp only; rw [hT, ← xZ]; exact h)
 have hj0 : j = 0 := by have := Gy h; omega
 subst hj0
 rw [List.drop_zero, show (dz :: (fs.reverse.flatMap fun y => [y, y])) = mB dz fs from rfl]
 clear h hj hTl hT0
 generalize mB dz fs = ft at hsame ⊢
 refine bI (br 0 (cs' := [.imm 1 (aT rt), .imm 1 (ey ft)]) rfl fun σ vs h => nD.vrs (a := [.imm 1 (aT rt), .vec q2 1 (ey ft)]) (b := [.imm 1 (aT rt), .imm 1 (ey ft)]) ⟨eb.refl _, eb.im, trivial⟩ h) ?_
 refine bI (bY (L' := [(tb, .box [.imm 1 (aT rt), .imm 1 (ey ft)] 40)]) (List.Sublist.cons_cons _ (List.nil_sublist _))) ?_
 refine bI (mC (t := 11) 0 rfl rfl rfl) ?_
 have hK1 : gY f rs fs = gY f rt ft := hsame.kept
 have hb1 : rs.any qi = false := mR fun z hz => .inl (hrt z hz)
 have hb2 : rt.any qi = false := mR htm
 have hb3 : rs2.any qi = false := mR fun z hz => .inl (hrt2 z hz)
 have hd1 := kp hG rs fs hb1
 have hd2 := kp hG rt ft hb2
 have hd3 := kp hG rs2 fs2 hb3
 have hkS : gk f rt ft = gk f rs fs := by unfold gk; rw [hK1]
 rw [hkS, ← hsame.reachN, ← hsame.cut] at hd2
 have hsub : ∀ z ∈ gk f rs fs, z ∈ gk f rs2 fs2 := fun z hz => n7.2 (hmore z (n7.1 hz))
 have hpr : mE (oY f rs fs (gk f rs fs) (reachN f fs)) := Bm hG.fpr (xd f rs fs) (vb f fs)
 have e1 := xS _ _ hpr hpr
 have e2 := r4 (gk f rs fs) (gk f rs fs)
 have e3 := Cv _ _ hsub
 rw [decide_eq_true rfl] at e1
 rw [beq_self_eq_true] at e2
 generalize oY f rs2 fs2 (gk f rs2 fs2) (reachN f fs2) = g2 at hd3
 generalize oY f rs fs (gk f rs fs) (reachN f fs) = g1 at hd1 hd2 hpr e1
 generalize gk f rs2 fs2 = G2 at hd3 hsub e3
 generalize gk f rs fs = G1 at hd1 hd2 hsub e2 e3
 unfold ct at hd1 hd2 hd3 e1
 unfold o9 at hd1 hd2 hd3 hreq
 haveI := AD.mk hd1
 haveI := AD.mk hd2
 haveI := AD.mk hd3
 haveI := AD.mk e1
 haveI := AD.mk e2
 haveI := AD.mk e3
 repeat' (first|refine ae ?_|refine a6 ?_|refine aO ?_|refine a7 ?_|refine au ?_|refine ay ?_|refine av ?_|refine a8 ?_|refine aa a2 rfl rfl ?_|(apply aG; first|refine ah 8 a2 0 rfl rfl rfl rfl rfl rfl rfl rfl ?_|refine ah 8 a2 1 rfl rfl rfl rfl rfl rfl rfl rfl ?_|refine ah 8 a2 2 rfl rfl rfl rfl rfl rfl rfl rfl ?_|refine ah 10 a2 0 rfl rfl rfl rfl rfl rfl rfl rfl ?_|refine ah 10 a2 1 rfl rfl rfl rfl rfl rfl rfl rfl ?_|refine ah 10 a2 2 rfl rfl rfl rfl rfl rfl rfl rfl ?_|refine ah 14 a2 0 rfl rfl rfl rfl rfl rfl rfl rfl ?_|refine ah 14 a2 1 rfl rfl rfl rfl rfl rfl rfl rfl ?_|refine ah 14 a2 2 rfl rfl rfl rfl rfl rfl rfl rfl ?_|refine ah 17 a2 0 rfl rfl rfl rfl rfl rfl rfl rfl ?_|refine ah 17 a2 1 rfl rfl rfl rfl rfl rfl rfl rfl ?_|refine ah 17 a2 2 rfl rfl rfl rfl rfl rfl rfl rfl ?_|refine ah 20 a2 0 rfl rfl rfl rfl rfl rfl rfl rfl ?_|refine ah 20 a2 1 rfl rfl rfl rfl rfl rfl rfl rfl ?_|refine ah 20 a2 2 rfl rfl rfl rfl rfl rfl rfl rfl ?_|refine ai a2 0 rfl rfl rfl rfl rfl rfl rfl ?_|refine ai a2 1 rfl rfl rfl rfl rfl rfl rfl ?_|refine ai a2 2 rfl rfl rfl rfl rfl rfl rfl ?_|refine ai a2 3 rfl rfl rfl rfl rfl rfl rfl ?_|fail)|refine b7 a2 fun _=>?_|(apply bh;refine bc ?_)|fail)
 refine bI (bY (L' := []) (List.nil_sublist _)) ?_
 refine bt 11 [(0, .v), (1, .v), (2, .v), (3, .v), (4, .v), (5, .v), (6, .v), (7, .v), (8, .a), (9, .e), (10, .v)] none ?_ trivial rfl (by kernel_rfl) (by kernel_rfl) (by kernel_rfl) mixed (by kernel_rfl) rfl
 repeat' (first|refine aC ?_|refine aZ a2 ?_|fail)
 refine bP (hc := ⟨hreq⟩) ?_
 repeat' (first|refine aC ?_|refine aZ a2 ?_|(apply bB;refine bP ?_)|fail)
 refine yM a2 rfl rfl (by first | trivial | rfl) fun n20 => ?_
 repeat' (first|refine aC ?_|fail)
 refine sS a2 0 rfl rfl rfl rfl rfl rfl rfl (by first | trivial | rfl) fun _ => ?_
 repeat' (first|refine aC ?_|refine aZ a2 ?_|fail)
 refine bq [7, 14, 15, 16, 17, 18, 19, 21, 110] rfl rfl ?_
 refine aN (bY (L' := []) (List.nil_sublist _)) ?_
 repeat' (first|refine ae ?_|refine a6 ?_|refine aq ?_|refine a7 ?_|refine a8 ?_|refine aa a2 rfl rfl ?_|refine aF rfl rfl ?_|(apply bh;refine bc ?_)|fail)
 exact aA rfl rfl rfl
end Go.Proofs.YtjjpkibjffmceaaGreat
