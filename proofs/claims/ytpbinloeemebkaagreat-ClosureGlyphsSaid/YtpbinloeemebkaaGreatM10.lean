/-
  Rows of numbers that are written and appended to; interface values; structs of two numbers compared.
-/
import Derived.Test.YtpbinloeemebkaaGreatM09
namespace Go.Proofs.YtpbinloeemebkaaGreat
open Go.RowKit
section
variable {P : Program} {fr : c9} {B : Bs} {L : AL} {d : Option Tmp} {ty t t' : TypeId} {pos : String} {af : Array Edge} {g : Option (Nat × Bool)} {x y z q : Operand} {u : AV}
theorem CZ.int {e : TypeId} {i : TypeInfo} {zz : Value} (hz : CZ P e [.int .i64 0]) (hi : P.info? e = some i) (hzz : i.zero = some zz) (w : World) : zz.cells = #[.int .i64 0] := by
 obtain ⟨v, hv, hr⟩ := hz.run
 have := hr w
 simp [zeroValue, typeInfo, hi, hzz] at this
 rw [this, hv]
theorem jS (n : Nat) : Builtin.zeroCells #[.int .i64 0] n = (List.replicate n (Value.int .i64 0)).toArray := by
 apply Array.toList_inj.1
 simp only [Builtin.zeroCells, List.size_toArray, List.length_cons, List.length_nil]
 apply List.ext_getElem
 ·simp
 ·intro i h1 h2
  simp [Nat.mod_one]
theorem ru {σ : ce} {cs : List AV} {vs : List Value} (h : d4 σ cs vs) (n : Nat) : d4 σ (cs.take n) (vs.take n) := by
 refine ⟨by rw [List.length_take, List.length_take, h.1], fun i c u hc hu => ?_⟩
 rw [List.getElem?_take] at hc hu
 split at hc
 ·rename_i hi
  rw [if_pos hi] at hu
  exact h.2 i c u hc hu
 ·cases hc
theorem rt {σ : ce} {cs : List AV} {vs : List Value} (h : d4 σ cs vs) (n : Nat) : d4 σ (cs.drop n) (vs.drop n) := by
 refine ⟨by rw [List.length_drop, List.length_drop, h.1], fun i c u hc hu => ?_⟩
 rw [List.getElem?_drop] at hc hu
 exact h.2 _ c u hc hu
theorem fE {σ : ce} {cs ds : List AV} {vs ws : List Value} (h : d4 σ cs vs) (k : d4 σ ds ws) : d4 σ (cs ++ ds) (vs ++ ws) := by
 refine ⟨by rw [List.length_append, List.length_append, h.1, k.1], fun i c u hc hu => ?_⟩
 have hq := h.1
 by_cases hi : i < cs.length
 ·rw [List.getElem?_append_left hi] at hc
  rw [List.getElem?_append_left (by omega)] at hu
  exact h.2 i c u hc hu
 ·rw [List.getElem?_append_right (by omega)] at hc
  rw [List.getElem?_append_right (by omega), ← hq] at hu
  exact k.2 _ c u hc hu
theorem tI {σ : ce} (v : Value) (n : Nat) : d4 σ (List.replicate n (.sc v)) (List.replicate n v) := by
 refine ⟨by simp, fun i c u hc hu => ?_⟩
 rw [List.getElem?_replicate] at hc hu
 split at hc
 ·rename_i hi
  rw [if_pos hi] at hu
  cases hc; cases hu
  exact .sc _
 ·cases hc
theorem mS (i : Nat) {e by_ b n cap : Nat} {cs : List AV} {c : AV} (hc : mo P t e 1 by_) (hz : CZ P e [.int .i64 0]) (hx : bB fr x = some (.sc (.slice (some ⟨b, 0, none⟩) n cap))) (hy : bB fr y = some u) (hu : u.im = .imm 1 [[c]]) (hL : L[i]? = some (b, .box cs e)) (hcl : cs.length = cap) (hn : n ≤ cap) (h63 : n + 1 ≤ 9223372036854775807) (hby : (n + 1) * by_ ≤ 140737488355328) :
  AO P ⟨d, .call ⟨.builtin .append, #[x, y], #[t, t]⟩, ty, pos, af, g⟩ fr B L (fun r L' => ∃ b' cs', r = .sc (.slice (some ⟨b', 0, none⟩) (n + 1) cs'.length) ∧ cs'.take (n + 1) = cs.take n ++ [c] ∧ n + 1 ≤ cs'.length ∧ L' = (b', .box cs' e) :: L.eraseIdx i) := by
 intro σ ρ w hρ hw0
 have hw := hw0.perm (fh hL)
 have hxv := (hρ x _ hx).sc_inv
 have hyv := (hρ y u hy).im
 rw [hu] at hyv
 obtain ⟨A2, c2, hA2, _⟩ := hyv.imm_inv
 rw [hA2] at hyv
 obtain ⟨_, _, _, hs2, ys, hyl, hyr, hy1, hyc⟩ := hyv.row
 obtain ⟨b2, off2, rfl, hycc⟩ := hyc (by simp)
 haveI := hc
 obtain ⟨inf, zz, hi, hsz, rfl, hzz, hzs⟩ := hc.info
 have hzc := hz.int hi hzz w
 obtain ⟨o, ho, vs, rfl, hvs, h1⟩ := hw.here _ (List.mem_cons_self ..)
 have hl := hvs.1
 have hyl' : ys.length = 1 * inf.size := by rw [hsz]; exact hyl
 have hys1 : ys.length = 1 := by simpa using hyl
 obtain ⟨yv, rfl⟩ : ∃ yv, ys = [yv] := by
  match ys, hys1 with
  | [yv], _ => exact ⟨yv, rfl⟩
 have hyr' : d4 σ [c] [yv] := hyr
 have hnews : ∀ j v, [yv][j]? = some v → w.cell? ((⟨b2, off2, none⟩ : Addr).add j) = some v := fun j v hj => by rw [eO]; exact hw.froz _ _ _ (hycc j v hj)
 have hA2' : ρ y = .slice (some ⟨b2, off2, none⟩) 1 c2 := hA2
 unfold ia
 by_cases hroom : n + 1 ≤ cap
 ·have hr := run_append_room (P := P) w t ty e inf hc.under hi b n cap vs.toArray ho ⟨b2, off2, none⟩ 1 c2 [yv] hyl' hnews hy1 hroom (by rw [hsz]; simp; omega)
  rw [show (execOp ρ ⟨d, .call ⟨.builtin .append, #[x, y], #[t, t]⟩, ty, pos, af, g⟩).run P w = .ok (.value (.slice (some ⟨b, 0, none⟩) (n + 1) cap)) (w.setRow b (vs.toArray.toList.take (n * inf.size) ++ [yv] ++ vs.toArray.toList.drop (n * inf.size + [yv].length)).toArray) by
   simp [execOp, resolve, hxv, hA2', invoke, builtin, hr]]
  simp only [hsz, Nat.mul_one, List.length_cons, List.length_nil, Nat.zero_add]
  have hcl' : (cs.take n ++ [c] ++ cs.drop (n + 1)).length = cap := by simp; omega
  refine ⟨σ, .sc _, _, ce.le_refl _, .sc _, hw.put (a' := .box (cs.take n ++ [c] ++ cs.drop (n + 1)) e) (fun _ => trivial) ⟨rfl, rfl, rfl, by simp, fun k _ hk => setRow_other w b k _ (fun e => hk (by simp [e]))⟩ (setRow_heap w b _ _ e _ ho) ⟨_, rfl, fE (fE (ru hvs n) hyr') (rt hvs (n + 1)), fun u hu => ?_⟩, b, _, by rw [hcl'], ?_, by rw [hcl']; exact hroom, rfl⟩
  ·rcases List.mem_append.1 hu with hu | hu
   ·rcases List.mem_append.1 hu with hu | hu
    ·exact h1 _ (List.mem_of_mem_take hu)
    ·exact hy1 _ hu
   ·exact h1 _ (List.mem_of_mem_drop hu)
  ·rw [List.take_append_of_le_length (by simp; omega), List.take_of_length_le (by simp; omega)]
 ·have hncap : n = cap := by omega
  subst hncap
  have holds : ∀ j v, vs[j]? = some v → w.cell? ((⟨b, 0, none⟩ : Addr).add j) = some v := fun j v hj => by
   rw [eO, Nat.zero_add, da ho]
   simpa using hj
  have hr := run_append_grow (P := P) w t ty e inf zz hc.under hi hzz ⟨b, 0, none⟩ n n vs (by rw [hsz]; omega) holds ⟨b2, off2, none⟩ 1 c2 [yv] hyl' hnews (by omega) (by omega) (growslice_fits (by omega) hby)
  rw [show (execOp ρ ⟨d, .call ⟨.builtin .append, #[x, y], #[t, t]⟩, ty, pos, af, g⟩).run P w = .ok (.value (.slice (some ⟨w.heap.size, 0, none⟩) (n + 1) (grownCap w (n + 1) n e))) (w.drew.alloc (.cells (vs.toArray ++ [yv].toArray ++ Builtin.zeroCells zz.cells (grownCap w (n + 1) n e - (n + 1))) e)) by
   simp [execOp, resolve, hxv, hA2', invoke, builtin, hr]]
  rw [hzc, jS]
  have hge := grownCap_ge w (n + 1) n e
  generalize grownCap w (n + 1) n e = cap' at *
  have hlen : (cs ++ [c] ++ List.replicate (cap' - (n + 1)) (AV.sc (.int .i64 0))).length = cap' := by simp; omega
  refine ⟨σ, .sc _, _, ce.le_refl _, .sc _, ((hw.sublist (List.sublist_cons_self ..)).drew _).alloc _ (.box (cs ++ [c] ++ List.replicate (cap' - (n + 1)) (.sc (.int .i64 0))) e) ⟨vs ++ [yv] ++ List.replicate (cap' - (n + 1)) (.int .i64 0), by simp, fE (fE hvs hyr') (tI _ _), fun u hu => ?_⟩, w.heap.size, _, by rw [hlen], ?_, by rw [hlen]; exact hge, rfl⟩
  ·rcases List.mem_append.1 hu with hu | hu
   ·rcases List.mem_append.1 hu with hu | hu
    ·exact h1 _ hu
    ·exact hy1 _ hu
   ·rw [(List.mem_replicate.1 hu).2]; rfl
  ·rw [List.take_append_of_le_length (by simp; omega), List.take_of_length_le (by simp; omega), List.take_of_length_le (by omega)]
theorem mT {e by_ : Nat} {c : AV} (hc : mo P t e 1 by_) (hz : CZ P e [.int .i64 0]) (hx : bB fr x = some (.sc (.slice none 0 0))) (hy : bB fr y = some u) (hu : u.im = .imm 1 [[c]]) (hby : by_ ≤ 140737488355328) :
  AO P ⟨d, .call ⟨.builtin .append, #[x, y], #[t, t]⟩, ty, pos, af, g⟩ fr B L (fun r L' => ∃ b' cs', r = .sc (.slice (some ⟨b', 0, none⟩) 1 cs'.length) ∧ cs'.take 1 = [c] ∧ 1 ≤ cs'.length ∧ L' = (b', .box cs' e) :: L) := by
 intro σ ρ w hρ hw
 have hxv := (hρ x _ hx).sc_inv
 have hyv := (hρ y u hy).im
 rw [hu] at hyv
 obtain ⟨A2, c2, hA2, _⟩ := hyv.imm_inv
 rw [hA2] at hyv
 obtain ⟨_, _, _, hs2, ys, hyl, hyr, hy1, hyc⟩ := hyv.row
 obtain ⟨b2, off2, rfl, hycc⟩ := hyc (by simp)
 haveI := hc
 obtain ⟨inf, zz, hi, hsz, rfl, hzz, hzs⟩ := hc.info
 have hzc := hz.int hi hzz w
 have hyl' : ys.length = 1 * inf.size := by rw [hsz]; exact hyl
 have hys1 : ys.length = 1 := by simpa using hyl
 obtain ⟨yv, rfl⟩ : ∃ yv, ys = [yv] := by
  match ys, hys1 with
  | [yv], _ => exact ⟨yv, rfl⟩
 have hyr' : d4 σ [c] [yv] := hyr
 have hnews : ∀ j v, [yv][j]? = some v → w.cell? ((⟨b2, off2, none⟩ : Addr).add j) = some v := fun j v hj => by rw [eO]; exact hw.froz _ _ _ (hycc j v hj)
 have hA2' : ρ y = .slice (some ⟨b2, off2, none⟩) 1 c2 := hA2
 have hr := run_append_nil (P := P) w t ty e inf zz hc.under hi hzz ⟨b2, off2, none⟩ 1 c2 [yv] hyl' hnews (by omega) (by omega) (by omega)
 unfold ia
 rw [show (execOp ρ ⟨d, .call ⟨.builtin .append, #[x, y], #[t, t]⟩, ty, pos, af, g⟩).run P w = .ok (.value (.slice (some ⟨w.heap.size, 0, none⟩) 1 (grownCap w 1 0 e))) (w.drew.alloc (.cells ([yv].toArray ++ Builtin.zeroCells zz.cells (grownCap w 1 0 e - 1)) e)) by
  simp [execOp, resolve, hxv, hA2', invoke, builtin, hr]]
 rw [hzc, jS]
 have hge := grownCap_ge w 1 0 e
 generalize grownCap w 1 0 e = cap' at *
 have hlen : ([c] ++ List.replicate (cap' - 1) (AV.sc (.int .i64 0))).length = cap' := by simp; omega
 refine ⟨σ, .sc _, _, ce.le_refl _, .sc _, (hw.drew _).alloc _ (.box ([c] ++ List.replicate (cap' - 1) (.sc (.int .i64 0))) e) ⟨[yv] ++ List.replicate (cap' - 1) (.int .i64 0), by simp, fE hyr' (tI _ _), fun u hu => ?_⟩, w.heap.size, _, by rw [hlen], by simp, by rw [hlen]; exact hge, rfl⟩
 rcases List.mem_append.1 hu with hu | hu
 ·exact hy1 _ hu
 ·rw [(List.mem_replicate.1 hu).2]; rfl
theorem zm {e by_ b n cap hi : Nat} {k : IntKind} {a : Int} (hc : mo P t e 1 by_) (hx : bB fr x = some (.sc (.slice (some ⟨b, 0, none⟩) n cap))) (hy : bB fr y = some (.sc (.int k a))) (ha : a = (hi : Int)) (h : hi ≤ cap) (h0 : 0 < cap) : Av P ⟨d, .slice t x none (some y) none, ty, pos, af, g⟩ fr (.sc (.slice (some ⟨b, 0, none⟩) hi cap)) := by
 intro σ ρ w hρ _
 subst ha
 haveI := hc
 refine ⟨_, ?_, .sc _⟩
 have h3 : cap ≠ 0 := by omega
 simp [execOp, (hρ x _ hx).sc_inv, (hρ y _ hy).sc_inv, Instr.sliceAt, Instr.slice, Instr.sliceBounds, Instr.sliceBound, asIntOf, run_underlying hc.under, ee (t := t), h, h3, eO]
def gq (P : Program) (t : TypeId) : Bool := match P.underlying t with | some (.interface _) => false | some _ => true | none => false
theorem jO (h : gq P t = true) : ∃ d, P.underlying t = some d ∧ ∀ ms, d ≠ .interface ms := by
 unfold gq at h
 split at h
 ·cases h
 ·rename_i d hd hu
  exact ⟨d, hu, fun ms e => hd ms e⟩
 ·cases h
theorem xp {v : Value} (ht : gq P t = true) (hx : bB fr x = some (.sc v)) : Av P ⟨d, .makeInterface t x, ty, pos, af, g⟩ fr (.sc (.iface t v)) := by
 obtain ⟨dd, hu, hn⟩ := jO ht
 refine dX fun ρ w hρ => ?_
 have : (Instr.makeInterface t v).run P w = .ok (.iface t v) w := by
  simp only [Instr.makeInterface, Sem.run_bind, run_underlying hu, Result.andThen]
  cases dd with
  | interface ms => exact absurd rfl (hn ms)
  | _ => rfl
 simp only [execOp, hρ x _ hx, Sem.run_bind, this, Result.andThen, Sem.run_pure]
theorem qb {v : Value} (ht : gq P t = true) (hx : bB fr x = some (.sc (.iface t v))) : Av P ⟨d, .typeAssert x t' t false, ty, pos, af, g⟩ fr (.sc v) := by
 obtain ⟨dd, hu, hn⟩ := jO ht
 refine dX fun ρ w hρ => ?_
 have : (Instr.typeAssert (.iface t v) t' t false).run P w = .ok v w := by
  simp only [Instr.typeAssert, Sem.run_bind, run_underlying hu, Result.andThen]
  cases dd with
  | interface ms => exact absurd rfl (hn ms)
  | _ => simp
 simp only [execOp, hρ x _ hx, Sem.run_bind, this, Result.andThen, Sem.run_pure]
structure ky (P : Program) (t : TypeId) (name : String) (f : FuncId) (ptr : Bool) (e : TypeId) : Prop where
 under : P.underlying t = some (.pointer e)
 ex : ∃ ti m, P.info? t = some ti ∧ ti.methods.find? (·.name == name) = some m ∧ m.path = #[] ∧ m.func = some (f, ptr)
theorem ky.run {name : String} {f : FuncId} {e : TypeId} (h : ky P t name f true e) (v : Value) (n : Nat) (w : World) : (method (n + 1) t v name).run P w = .ok (f, v) w := by
 obtain ⟨hu, ti, m, h1, h2, h3, h4⟩ := h
 rw [method]
 simp [typeInfo, h1, h2, h3, h4, follow, receiverAt, run_underlying hu, Result.andThen, Place.get]
theorem rh {t t' : TypeId} {a : Addr} {p q : String} {w : World} : (Builtin.ssaWrapNilChk_ #[t] t' #[.pointer (some a), strVal p, strVal q]).run P w = .ok (.pointer (some a)) w := rfl
theorem ky.runV {name : String} {f : FuncId} {e : TypeId} (h : ky P t name f false e) {a : Addr} {v : Value} {w : World} (hl : (loadVar e a).run P w = .ok v w) (n : Nat) : (method (n + 1) t (.pointer (some a)) name).run P w = .ok (f, v) w := by
 obtain ⟨hu, ti, m, h1, h2, h3, h4⟩ := h
 unfold method
 simp [typeInfo, h1, h2, h3, h4, follow, receiverAt, run_underlying hu, Result.andThen, Place.get, rh, asAddr, hl]
theorem nQ {ρ : Operand → Value} {w : World} {f : FuncId} {name : String} {v rv : Value} {args : Array Operand} {ts : Array TypeId} (hf : bt P f) (hxv : ρ x = .iface t v) (hm : (method (P.types.size + Made.depth) t v name).run P w = .ok (f, rv) w) : (execOp ρ ⟨d, .call ⟨.invoke x name, args, ts⟩, ty, pos, af, g⟩).run P w = .ok (.enter f (rv :: args.toList.map ρ).toArray) w := by
 have e0 : (#[ρ x] ++ args.map ρ)[0]? = some (.iface t v) := by rw [hxv, ← Array.getElem?_toList]; simp
 have e1 : (#[ρ x] ++ args.map ρ).extract 1 (#[ρ x] ++ args.map ρ).size = args.map ρ := by
  apply Array.toList_inj.1
  simp
  exact List.take_of_length_le (by simp)
 have e2 : (rv :: args.toList.map ρ).toArray = #[rv] ++ args.map ρ := by
  apply Array.toList_inj.1
  simp
 rw [e2]
 have h3 : (callMethod (.iface t v) name (args.map ρ)).run P w = .ok (.enter f (#[rv] ++ args.map ρ)) w := by
  simp only [callMethod, Sem.run_bind, run_program, Result.andThen, hm, hf.enters]
 have h4 : (invoke (.fn (.method name) #[]) (#[ρ x] ++ args.map ρ)).run P w = .ok (.enter f (#[rv] ++ args.map ρ)) w := by
  unfold invoke
  rw [e0, e1]
  exact h3
 simp only [execOp, resolve, Sem.run_bind, Sem.run_pure, Result.andThen, h4]
theorem tR (Lc Lf : AL) {f : FuncId} {name : String} {e : TypeId} {a : Addr} {args : Array Operand} {ts : Array TypeId} {cs : List AV} {Post : AV → AL → Prop} [hf : bt P f] (hm : ky P t name f true e) (hx : bB fr x = some (.sc (.iface t (.pointer (some a))))) (hv : eU fr args.toList = some cs) (hL : L.Perm (Lc ++ Lf)) (h : AC P f (.sc (.pointer (some a)) :: cs) Lc Post) :
  AO P ⟨d, .call ⟨.invoke x name, args, ts⟩, ty, pos, af, g⟩ fr B L (fun c L' => ∃ L1, Post c L1 ∧ L' = L1 ++ Lf) := by
 intro σ ρ w hρ hw0
 have hw := hw0.perm hL
 have hxv := (hρ x _ hx).sc_inv
 have hvs := fG hρ _ _ hv
 unfold ia
 rw [show (execOp ρ ⟨d, .call ⟨.invoke x name, args, ts⟩, ty, pos, af, g⟩).run P w = .ok (.enter f (.pointer (some a) :: args.toList.map ρ).toArray) w from nQ hf hxv (by
  have hmr := hm.run (.pointer (some a)) (P.types.size + Made.depth - 1) w
  rwa [show P.types.size + Made.depth - 1 + 1 = P.types.size + Made.depth by unfold Made.depth; omega] at hmr)]
 refine (h σ w _ (.cons (.sc _) hvs) hw.enter).mono fun en w' ⟨v, τ, c, L', h1, h2, h3, h4⟩ => ⟨v, h1, τ, c, L' ++ Lf, h3.grow, h2, hw.leave h3, L', h4, rfl⟩
theorem rJ (i : Nat) (Lc Lf : AL) {f : FuncId} {name : String} {e b : Nat} {e' : TypeId} {args : Array Operand} {ts : Array TypeId} {cs ds : List AV} {Post : AV → AL → Prop} [hf : bt P f] (hm : ky P t name f false e) (he : yQ P e) (hx : bB fr x = some (.sc (.iface t (.pointer (some ⟨b, 0, none⟩))))) (hi : L[i]? = some (b, .box ds e')) (hd : ds[0]? = some u) (hv : eU fr args.toList = some cs) (hL : L.Perm (Lc ++ Lf)) (h : AC P f (u :: cs) Lc Post) :
  AO P ⟨d, .call ⟨.invoke x name, args, ts⟩, ty, pos, af, g⟩ fr B L (fun c L' => ∃ L1, Post c L1 ∧ L' = L1 ++ Lf) := by
 intro σ ρ w hρ hw0
 have hw := hw0.perm hL
 have hxv := (hρ x _ hx).sc_inv
 have hvs := fG hρ _ _ hv
 obtain ⟨vs, hb, hs, _⟩ := hw0.boxCell hi
 obtain ⟨v, hv1, hr1⟩ := hs.get hd
 have hcell : w.cell? ⟨b, 0, none⟩ = some v := by rw [da hb]; simpa using hv1
 have hload : (loadVar e ⟨b, 0, none⟩).run P w = .ok v w := fc hcell
 unfold ia
 rw [show (execOp ρ ⟨d, .call ⟨.invoke x name, args, ts⟩, ty, pos, af, g⟩).run P w = .ok (.enter f (v :: args.toList.map ρ).toArray) w from nQ hf hxv (by
  have hmr := hm.runV hload (P.types.size + Made.depth - 1)
  rwa [show P.types.size + Made.depth - 1 + 1 = P.types.size + Made.depth by unfold Made.depth; omega] at hmr)]
 refine (h σ w _ (.cons hr1 hvs) hw.enter).mono fun en w' ⟨v, τ, c, L', h1, h2, h3, h4⟩ => ⟨v, h1, τ, c, L' ++ Lf, h3.grow, h2, hw.leave h3, L', h4, rfl⟩
theorem zr {a b c e : Int} (ht : ig P t) (hg : P.eqGuardType P.depth t = false) (hx : bB fr x = some (.agg [.sc (.int .i64 a), .sc (.int .i64 b)])) (hy : bB fr y = some (.agg [.sc (.int .i64 c), .sc (.int .i64 e)])) : Av P ⟨d, .binOp .eql t x y t', ty, pos, af, g⟩ fr (.sc (.bool (decide (a = c ∧ b = e)))) := by
 intro σ ρ w hρ _
 refine ⟨_, ?_, .sc _⟩
 have h1 := q5 (hρ x _ hx)
 have h2 := q5 (hρ y _ hy)
 have h3 := ht.eq a b c e w
 unfold Op.equal at h3
 rw [show Op.maxDepth = 10000 from rfl] at h3
 simp only [execOp, h1, h2, Sem.run_bind, run_eqGuard_agg w .eql t x y _ _ hg, run_eql_struct, h3, Result.andThen, Sem.run_pure]
end
section
variable {P : Program} {tt : TT} {r : Option Nat} {ops : Array Oper} {Q : Exit → Act → World → Prop} {nt : Nat} {D : List Deferred} {fr : c9} {B : Bs} {L : AL} {rest : List Oper} {d : Nat} {ty t t' : TypeId} {pos : String} {af : Array Edge} {x y z : Operand} {u : AV}
theorem uB (ok : eW P tt) (i : Nat) {e by_ b n cap : Nat} {cs : List AV} {c : AV} (ht : mj tt t = some (e, 1, by_)) (hz : zI tt e = some [.int .i64 0]) (hx : bB fr x = some (.sc (.slice (some ⟨b, 0, none⟩) n cap))) (hy : bB fr y = some u) (hu : j7 u = some (1, [[c]])) (hL : L[i]? = some (b, .box cs e)) (hcl : cs.length = cap) (hn : n ≤ cap) (h63 : n + 1 ≤ 9223372036854775807) (hby : (n + 1) * by_ ≤ 140737488355328) (hd : Nat.ble nt d = false)
  (h : ∀ b' cs', cs'.take (n + 1) = cs.take n ++ [c] → n + 1 ≤ cs'.length → bN P r ops Q nt D rest ((d, .sc (.slice (some ⟨b', 0, none⟩) (n + 1) cs'.length)) :: fr) B ((b', .box cs' e) :: L.eraseIdx i)) :
  bN P r ops Q nt D (⟨some d, .call ⟨.builtin .append, #[x, y], #[t, t]⟩, ty, pos, af, none⟩ :: rest) fr B L :=
 cT hd rfl (mS i (bL ok ht).1 (eN ok hz) hx hy (df hu) hL hcl hn h63 hby) fun q L' ⟨b', cs', h1, h2, h3, h4⟩ => by subst h1; subst h4; exact h b' cs' h2 h3
theorem uC (ok : eW P tt) {e by_ : Nat} {c : AV} (ht : mj tt t = some (e, 1, by_)) (hz : zI tt e = some [.int .i64 0]) (hx : bB fr x = some (.sc (.slice none 0 0))) (hy : bB fr y = some u) (hu : j7 u = some (1, [[c]])) (hby : Nat.ble by_ 140737488355328 = true) (hd : Nat.ble nt d = false)
  (h : ∀ b' cs', cs'.take 1 = [c] → 1 ≤ cs'.length → bN P r ops Q nt D rest ((d, .sc (.slice (some ⟨b', 0, none⟩) 1 cs'.length)) :: fr) B ((b', .box cs' e) :: L)) :
  bN P r ops Q nt D (⟨some d, .call ⟨.builtin .append, #[x, y], #[t, t]⟩, ty, pos, af, none⟩ :: rest) fr B L :=
 cT hd rfl (mT (bL ok ht).1 (eN ok hz) hx hy (df hu) (Nat.ble_eq .. ▸ hby)) fun q L' ⟨b', cs', h1, h2, h3, h4⟩ => by subst h1; subst h4; exact h b' cs' h2 h3
theorem wH (ok : eW P tt) (hi : Nat) {e by_ b n cap : Nat} {k : IntKind} {a : Int} (ht : mj tt t = some (e, 1, by_)) (hx : bB fr x = some (.sc (.slice (some ⟨b, 0, none⟩) n cap))) (hy : bB fr y = some (.sc (.int k a))) (ha : a = (hi : Int)) (h1 : hi ≤ cap) (h0 : 0 < cap) (hd : Nat.ble nt d = false) (h : bN P r ops Q nt D rest ((d, .sc (.slice (some ⟨b, 0, none⟩) hi cap)) :: fr) B L) :
  bN P r ops Q nt D (⟨some d, .slice t x none (some y) none, ty, pos, af, none⟩ :: rest) fr B L := eh (zm (bL ok ht).1 hx hy ha h1 h0) hd rfl h
theorem kU {v : Value} (ht : gq P t = true) (hx : bB fr x = some (.sc v)) (hd : Nat.ble nt d = false) (h : bN P r ops Q nt D rest ((d, .sc (.iface t v)) :: fr) B L) : bN P r ops Q nt D (⟨some d, .makeInterface t x, ty, pos, af, none⟩ :: rest) fr B L := eh (xp ht hx) hd rfl h
theorem wE {v : Value} (ht : gq P t = true) (hx : bB fr x = some (.sc (.iface t v))) (hd : Nat.ble nt d = false) (h : bN P r ops Q nt D rest ((d, .sc v) :: fr) B L) : bN P r ops Q nt D (⟨some d, .typeAssert x t' t false, ty, pos, af, none⟩ :: rest) fr B L := eh (qb ht hx) hd rfl h
theorem qX (Lc Lf : AL) {f : FuncId} {name : String} {e : TypeId} {a : Addr} {args : Array Operand} {ts : Array TypeId} {cs : List AV} {Post : AV → AL → Prop} [hf : bt P f] (hm : ky P t name f true e) (hx : bB fr x = some (.sc (.iface t (.pointer (some a))))) (hv : eU fr args.toList = some cs) (hL : L.Perm (Lc ++ Lf)) (hc : AC P f (.sc (.pointer (some a)) :: cs) Lc Post) (hn : Oper.noDefer ⟨some d, .call ⟨.invoke x name, args, ts⟩, ty, pos, af, none⟩ = true) (hd : Nat.ble nt d = false) (h : ∀ c L1, Post c L1 → bN P r ops Q nt D rest ((d, c) :: fr) B (L1 ++ Lf)) :
  bN P r ops Q nt D (⟨some d, .call ⟨.invoke x name, args, ts⟩, ty, pos, af, none⟩ :: rest) fr B L := cT hd hn (tR Lc Lf hm hx hv hL hc) fun c L' ⟨L1, h1, h2⟩ => by subst h2; exact h c L1 h1
theorem dg (i : Nat) (Lc Lf : AL) {f : FuncId} {name : String} {e b : Nat} {e' : TypeId} {args : Array Operand} {ts : Array TypeId} {cs ds : List AV} {Post : AV → AL → Prop} [hf : bt P f] (hm : ky P t name f false e) (he : yQ P e) (hx : bB fr x = some (.sc (.iface t (.pointer (some ⟨b, 0, none⟩))))) (hi : L[i]? = some (b, .box ds e')) (hd0 : ds[0]? = some u) (hv : eU fr args.toList = some cs) (hL : L.Perm (Lc ++ Lf)) (hc : AC P f (u :: cs) Lc Post) (hn : Oper.noDefer ⟨some d, .call ⟨.invoke x name, args, ts⟩, ty, pos, af, none⟩ = true) (hd : Nat.ble nt d = false) (h : ∀ c L1, Post c L1 → bN P r ops Q nt D rest ((d, c) :: fr) B (L1 ++ Lf)) :
  bN P r ops Q nt D (⟨some d, .call ⟨.invoke x name, args, ts⟩, ty, pos, af, none⟩ :: rest) fr B L := cT hd hn (rJ i Lc Lf hm he hx hi hd0 hv hL hc) fun c L' ⟨L1, h1, h2⟩ => by subst h2; exact h c L1 h1
theorem A9 {a b c e : Int} (ht : ig P t) (hg : P.eqGuardType P.depth t = false) (hx : bB fr x = some (.agg [.sc (.int .i64 a), .sc (.int .i64 b)])) (hy : bB fr y = some (.agg [.sc (.int .i64 c), .sc (.int .i64 e)])) (hd : Nat.ble nt d = false) (h : bN P r ops Q nt D rest ((d, .sc (.bool (decide (a = c ∧ b = e)))) :: fr) B L) : bN P r ops Q nt D (⟨some d, .binOp .eql t x y t', ty, pos, af, none⟩ :: rest) fr B L := eh (zr ht hg hx hy) hd rfl h
end
end Go.Proofs.YtpbinloeemebkaaGreat

namespace Go.Proofs.YtpbinloeemebkaaGreat
open Go.RowKit
attribute [local irreducible] AT bN AX AO Av Kt bi dE DA d6
open Go.MapKept
def ur (_ : Nat) (i : ew) : Int := if i.Op < 1 ∨ i.Op > 39 then 50 else if i.A < -999999999 ∨ i.A > 999999999 then 3 else 0
theorem pS (n : Nat) (i : ew) : bo Tryz.prog 190 [aQ n, .agg (ga i)] (aQ (ur n i)) := by
 refine aU Tryz.func190 rfl Tryz.ntmps190 rfl fun B => ?_
 unfold ur
 (repeat' (first|refine ah ?_|refine a6 ?_|refine am ?_|refine a8 ?_|refine aa ?_|refine ae a7 rfl rfl ?_|refine b6 ?_|fail))
 refine ci [3] (i.Op < 1 ∨ i.Op > 39) rfl (fun Q' K => ?_) (fun hC => ?_) (fun hC => ?_)
 ·(repeat' (first|refine aa ?_|refine ae a7 rfl rfl ?_|refine aw rfl rfl ?_|refine aD rfl rfl rfl rfl ?_|refine aS rfl rfl rfl (fun _ => ?_) (fun _ => ?_)|fail))
  all_goals exact K _ _ rfl rfl (by clear K; grind)
 ·rw [if_pos hC]
  (repeat' (first|refine ah ?_|refine a6 ?_|refine au ?_|refine a8 ?_|refine ar ?_|refine aG ?_|refine aa ?_|refine ae a7 rfl rfl ?_|fail))
  exact aB rfl rfl rfl
 rw [if_neg hC]
 (repeat' (first|refine ah ?_|refine a6 ?_|refine ae a7 rfl rfl ?_|fail))
 refine ci [] (i.A < -999999999 ∨ i.A > 999999999) rfl (fun Q' K => ?_) (fun hC => ?_) (fun hC => ?_)
 ·(repeat' (first|refine aa ?_|refine ae a7 rfl rfl ?_|refine aw rfl rfl ?_|refine aD rfl rfl rfl rfl ?_|refine aS rfl rfl rfl (fun _ => ?_) (fun _ => ?_)|fail))
  all_goals exact K _ _ rfl rfl (by clear K; grind)
 ·rw [if_pos hC]
  (repeat' (first|refine ah ?_|refine a6 ?_|refine au ?_|refine a8 ?_|refine ar ?_|refine aG ?_|refine aa ?_|refine ae a7 rfl rfl ?_|fail))
  exact aB rfl rfl rfl
 rw [if_neg hC]
 (repeat' (first|refine ah ?_|refine a6 ?_|refine ak ?_|refine au ?_|refine a8 ?_|refine aJ ?_|refine aa ?_|refine ae a7 rfl rfl ?_|fail))
 exact aB rfl rfl rfl
def iM (l : List ew) : Int := (bW 200 l ur).1
theorem r6 (l : List ew) : bo Tryz.prog 108 [.imm 2 (l.map ga)] (aQ (iM l)) := by
 refine aU Tryz.func108 rfl Tryz.ntmps108 rfl fun B => ?_
 (repeat' (first|refine ah ?_|refine a6 ?_|refine a8 ?_|refine aa ?_|refine ae a7 rfl rfl ?_|(apply ba;refine aY ?_)|fail))
 refine cy (f := 250) (cs := []) [] [] (yL (g := 190) (caps := []) rfl l 200 _ (fun _ _ => True) [] trivial (fun _ => cP fun i x _ => pS i x)) rfl rfl rfl (List.Perm.refl _) rfl rfl fun c L1 hc => ?_
 have hc : c = bX (bW 200 l ur) := hc
 subst hc
 unfold bX
 (repeat' (first|refine ah ?_|refine a6 ?_|refine au ?_|refine a8 ?_|refine aa ?_|refine ae a7 rfl rfl ?_|fail))
 exact aB rfl rfl rfl
instance (l : List ew) : AD Tryz.prog 108 [.imm 2 (l.map ga)] (aQ (iM l)) := ⟨r6 l⟩
def je (f : aH) (_ : Nat) (p : bE) : Int := if eG f p.Glyph = false then 32 else cS (!([p.X, p.Y].all cx)) 30
theorem s2 (f : aH) (n : Nat) (p : bE) : bo Tryz.prog 154 [aQ n, .agg (d7 p), .iptr (bO f)] (aQ (je f n p)) := by
 refine aU Tryz.func154 rfl Tryz.ntmps154 rfl fun B => ?_
 unfold je
 (repeat' (first|refine ah ?_|refine a6 ?_|refine a8 ?_|refine aa ?_|refine ae a7 rfl rfl ?_|refine b6 ?_|(apply ba;refine aY ?_)|fail))
 refine av rfl (fun h => ?_) (fun h => ?_)
 ·rw [if_pos (by simpa using h)]
  (repeat' (first|refine ah ?_|refine a6 ?_|refine au ?_|refine a8 ?_|refine ar ?_|refine aa ?_|refine ae a7 rfl rfl ?_|fail))
  exact aB rfl rfl rfl
 ·rw [if_neg (by simpa using h)]
  (repeat' (first|refine ah ?_|refine a6 ?_|refine ak ?_|refine au ?_|refine a8 ?_|refine aa ?_|refine ae a7 rfl rfl ?_|refine bM a7 ?_|(apply ba;refine aY ?_)|fail))
  exact aB rfl rfl rfl
def fZ (g : be) (i : Nat) (a : cU) : Int := if (a.Kind < 1 ∨ a.Kind > 4) ∨ (a.Class < 0 ∨ a.Class > 15) ∨ ((a.Kind = 3 ∨ a.Kind = 4) ∧ a.Class ≠ 0) ∨ [a.X, a.Y].all cx = false ∨ (a.Kind = 2 ∧ g.Mark = false) ∨ (∃ b ∈ g.Anchors.take i, b.Kind = a.Kind ∧ b.Class = a.Class) then 35 else 0
def k7 (f : aH) (g : be) (i : Nat) (d : dh) : Int := if d.Region < 0 ∨ d.Region ≥ f.Regions.length then 61 else if (d.Point < -1 ∨ d.Point ≥ g.Points.length) ∨ [d.X, d.Y].all cx = false ∨ (d.Point = -1 ∧ d.Y ≠ 0) then 30 else if (match i with | 0 => false | j + 1 => match g.Deltas[j]? with | some b => decide (d.Region < b.Region ∨ (d.Region = b.Region ∧ d.Point ≤ b.Point)) | none => false) = true then 24 else 0
theorem rF (b : Bool) : AC Tryz.prog 157 [c8 b] [] fun c L => ∃ m, c = .fn 229 [.iptr [c8 b], .iptr [.sc (.map (some m))]] ∧ L = [(m, fP fun _ _ => none)] := by
 refine aU Tryz.func157 rfl Tryz.ntmps157 rfl fun B => ?_
 (repeat' (first|refine ah ?_|refine a6 ?_|refine a8 ?_|refine aa ?_|refine ae a7 rfl rfl ?_|refine b6 ?_|fail))
 refine sl fun m => ?_
 (repeat' (first|refine ah ?_|refine a6 ?_|refine au ?_|refine a8 ?_|refine aa ?_|refine ae a7 rfl rfl ?_|(apply aT; first|refine ai 3 a7 0 rfl rfl rfl rfl rfl rfl rfl rfl ?_|refine ai 3 a7 1 rfl rfl rfl rfl rfl rfl rfl rfl ?_|refine ai 3 a7 2 rfl rfl rfl rfl rfl rfl rfl rfl ?_|refine aj a7 0 rfl rfl rfl rfl rfl rfl rfl ?_|refine aj a7 1 rfl rfl rfl rfl rfl rfl rfl ?_|refine aj a7 2 rfl rfl rfl rfl rfl rfl rfl ?_|refine aj a7 3 rfl rfl rfl rfl rfl rfl rfl ?_|fail)|refine bb a7 fun _=>?_|fail))
 exact aB rfl rfl ⟨_, rfl, rfl⟩
theorem u9 (r p : Int) : AC Tryz.prog 159 [aQ r, aQ p] [] fun c L => ∃ b, c = .fn 232 [.iptr [aQ r], .iptr [aQ p], .sc (.pointer (some ⟨b, 0, none⟩))] ∧ L = [(b, .box [aQ 0, aQ 0] 307)] := by
 refine aU Tryz.func159 rfl Tryz.ntmps159 rfl fun B => ?_
 (repeat' (first|refine ah ?_|refine a6 ?_|refine au ?_|refine a8 ?_|refine aa ?_|refine ae a7 rfl rfl ?_|refine b6 ?_|refine bb a7 fun _=>?_|fail))
 exact aB rfl rfl ⟨_, rfl, rfl⟩
theorem rZ (e : Int) : bo Tryz.prog 150 [.iptr [aQ e]] (bX (e, 0)) := by
 refine aU Tryz.func150 rfl Tryz.ntmps150 rfl fun B => ?_
 (repeat' (first|refine ah ?_|refine a6 ?_|refine au ?_|refine a8 ?_|refine aa ?_|refine ae a7 rfl rfl ?_|fail))
 exact b4 rfl rfl rfl rfl
theorem s1 (g : be) : bo Tryz.prog 151 [.iptr (bz g)] (bX (gx g, 0)) := by
 refine aU Tryz.func151 rfl Tryz.ntmps151 rfl fun B => ?_
 (repeat' (first|refine ah ?_|refine a6 ?_|refine au ?_|refine a8 ?_|refine aa ?_|refine ae a7 rfl rfl ?_|(apply ba;refine aY ?_)|fail))
 exact b4 rfl rfl rfl rfl
theorem s3 (g : be) : bo Tryz.prog 160 [.iptr (bz g)] (bX (iM g.Hint, 0)) := by
 refine aU Tryz.func160 rfl Tryz.ntmps160 rfl fun B => ?_
 (repeat' (first|refine ah ?_|refine a6 ?_|refine au ?_|refine a8 ?_|refine aa ?_|refine ae a7 rfl rfl ?_|(apply ba;refine aY ?_)|fail))
 exact b4 rfl rfl rfl rfl
def fk (l : List (Int × Int)) : Int × Int := match l with
 | [] => (0, 0)
 | x :: r => if x.1 = 0 then fk r else x
theorem ix : ∀ l : List Lk, oW l = fk (l.map fun x => (x.e, x.n))
 | [] => rfl
 | x :: r => by simp only [oW, List.map_cons, fk]; rw [ix r]
def lD (f : aH) (g : be) (name : Int) : Int := (fk [(name, 0), (gx g, 0), bW 8 g.Parts (je f), bW 16 g.Anchors (fZ g), bW 400 g.Deltas (k7 f g), (iM g.Hint, 0)]).1
end Go.Proofs.YtpbinloeemebkaaGreat

namespace Go.Proofs.YtpbinloeemebkaaGreat
open Go.RowKit
attribute [local irreducible] AT bN AX AO Av Kt bi dE DA d6
theorem xb : ig Tryz.prog 304 := ⟨⟨_, _, Tryz.underlying304, ⟨by decide, by decide⟩, ⟨rfl, rfl⟩, Tryz.underlying3, Tryz.underlying3⟩, Tryz.stoodInHeld304⟩
theorem Aw : ig Tryz.prog 307 := ⟨⟨_, _, Tryz.underlying307, ⟨by decide, by decide⟩, ⟨rfl, rfl⟩, Tryz.underlying3, Tryz.underlying3⟩, Tryz.stoodInHeld307⟩
def lH (l : List cU) (a b : Int) : Option AV := if ∃ x ∈ l, x.Kind = a ∧ x.Class = b then some (c8 true) else none
theorem wB : lH [] = fun _ _ => none := by funext a b; simp [lH]
theorem uy (l : List cU) (a b : Int) : (lH l a b).getD (c8 false) = c8 (decide (∃ x ∈ l, x.Kind = a ∧ x.Class = b)) := by
 unfold lH
 by_cases h : ∃ x ∈ l, x.Kind = a ∧ x.Class = b
 ·rw [if_pos h, decide_eq_true h]; rfl
 ·rw [if_neg h, decide_eq_false h]; rfl
theorem uz {l : List cU} {i : Nat} {x : cU} (h : l[i]? = some x) : lH (l.take (i + 1)) x.Kind x.Class = some (c8 true) := by
 unfold lH
 rw [if_pos ⟨x, by rw [List.take_add_one, h]; simp, rfl, rfl⟩]
theorem sh {l : List cU} {i : Nat} {x : cU} (h : l[i]? = some x) (p q : Int) (hne : ¬ (p = x.Kind ∧ q = x.Class)) : lH (l.take (i + 1)) p q = lH (l.take i) p q := by
 unfold lH
 have : (∃ y ∈ l.take (i + 1), y.Kind = p ∧ y.Class = q) ↔ ∃ y ∈ l.take i, y.Kind = p ∧ y.Class = q := by
  rw [List.take_add_one, h]
  simp only [Option.toList_some, List.mem_append, List.mem_singleton]
  constructor
  ·rintro ⟨y, hy | rfl, h1⟩
   ·exact ⟨y, hy, h1⟩
   ·exact absurd ⟨h1.1.symm, h1.2.symm⟩ hne
  ·rintro ⟨y, hy, h1⟩
   exact ⟨y, Or.inl hy, h1⟩
 by_cases hc : ∃ y ∈ l.take i, y.Kind = p ∧ y.Class = q
 ·rw [if_pos hc, if_pos (this.2 hc)]
 ·rw [if_neg hc, if_neg (fun h => hc (this.1 h))]
set_option maxHeartbeats 1000000 in
theorem rE (g : be) (i : Nat) (a : cU) (ha : g.Anchors[i]? = some a) (m : Nat) : AC Tryz.prog 229 [aQ i, .agg (dx a), .iptr [c8 g.Mark], .iptr [.sc (.map (some m))]] [(m, fP (lH (g.Anchors.take i)))] fun c L' => c = aQ (fZ g i a) ∧ (fZ g i a = 0 → L' = [(m, fP (lH (g.Anchors.take (i + 1))))]) := by
 refine aU Tryz.func229 rfl Tryz.ntmps229 rfl fun B => ?_
 (repeat' (first|refine ah ?_|refine a6 ?_|refine a8 ?_|refine aa ?_|refine ae a7 rfl rfl ?_|(apply aT; first|refine ai 7 a7 0 rfl rfl rfl rfl rfl rfl rfl rfl ?_|refine ai 7 a7 1 rfl rfl rfl rfl rfl rfl rfl rfl ?_|refine ai 7 a7 2 rfl rfl rfl rfl rfl rfl rfl rfl ?_|refine aj a7 0 rfl rfl rfl rfl rfl rfl rfl ?_|refine aj a7 1 rfl rfl rfl rfl rfl rfl rfl ?_|refine aj a7 2 rfl rfl rfl rfl rfl rfl rfl ?_|refine aj a7 3 rfl rfl rfl rfl rfl rfl rfl ?_|fail)|refine b6 ?_|refine bb a7 fun _=>?_|fail))
 refine bv (t := 8) [2, 3, 5, 7] (a.Kind = 3 ∨ a.Kind = 4) rfl (fun Q' K => ?_) ?_
 ·(repeat' (first|refine aa ?_|refine ae a7 rfl rfl ?_|refine aw rfl rfl ?_|refine aD rfl rfl rfl rfl ?_|refine aS rfl rfl rfl (fun _ => ?_) (fun _ => ?_)|fail))
  all_goals exact K _ _ rfl rfl (by clear K; grind)
 (repeat' (first|refine ah ?_|refine a6 ?_|refine am ?_|refine a8 ?_|refine ae a7 rfl rfl ?_|fail))
 refine bv (t := 22) [2, 3, 5, 7, 8] (a.Kind < 1 ∨ a.Kind > 4) rfl (fun Q' K => ?_) ?_
 ·(repeat' (first|refine aa ?_|refine ae a7 rfl rfl ?_|refine aw rfl rfl ?_|refine aD rfl rfl rfl rfl ?_|refine aS rfl rfl rfl (fun _ => ?_) (fun _ => ?_)|fail))
  all_goals exact K _ _ rfl rfl (by clear K; grind)
 (repeat' (first|refine a8 ?_|fail))
 refine av rfl (fun h1 => ?_) (fun h1 => ?_)
 ·have h0 := h1
  replace h1 := of_decide_eq_true h1
  rw [h0]
  (repeat' (first|refine ah ?_|refine a6 ?_|refine ak ?_|refine au ?_|refine a8 ?_|refine ar ?_|refine aG ?_|refine aa ?_|refine ae a7 rfl rfl ?_|refine bI rfl ?_|fail))
  refine aB rfl rfl ?_
  rw [show fZ g i a = 35 from if_pos (.inl h1)]
  exact ⟨rfl, fun e => absurd e (by decide)⟩
 have h0 := h1
 replace h1 := of_decide_eq_false h1
 rw [h0]
 clear h0
 (repeat' (first|refine ah ?_|refine a6 ?_|refine ae a7 rfl rfl ?_|fail))
 refine bv (t := 22) [2, 3, 5, 7, 8] (a.Class < 0 ∨ a.Class > 15) rfl (fun Q' K => ?_) ?_
 ·(repeat' (first|refine aa ?_|refine ae a7 rfl rfl ?_|refine aw rfl rfl ?_|refine aD rfl rfl rfl rfl ?_|refine aS rfl rfl rfl (fun _ => ?_) (fun _ => ?_)|fail))
  all_goals exact K _ _ rfl rfl (by clear K; grind)
 (repeat' (first|refine a8 ?_|fail))
 refine av rfl (fun h2 => ?_) (fun h2 => ?_)
 ·have h0 := h2
  replace h2 := of_decide_eq_true h2
  rw [h0]
  (repeat' (first|refine ah ?_|refine a6 ?_|refine ak ?_|refine au ?_|refine a8 ?_|refine ar ?_|refine aG ?_|refine aa ?_|refine ae a7 rfl rfl ?_|refine bI rfl ?_|fail))
  refine aB rfl rfl ?_
  rw [show fZ g i a = 35 from if_pos (.inr (.inl h2))]
  exact ⟨rfl, fun e => absurd e (by decide)⟩
 have h0 := h2
 replace h2 := of_decide_eq_false h2
 rw [h0]
 clear h0
 (repeat' (first|refine ah ?_|refine a6 ?_|refine ae a7 rfl rfl ?_|fail))
 refine bv (t := 22) [2, 3, 5, 7] ((a.Kind = 3 ∨ a.Kind = 4) ∧ a.Class ≠ 0) rfl (fun Q' K => ?_) ?_
 ·generalize hj : decide (a.Kind = 3 ∨ a.Kind = 4) = j
  have hj' : (a.Kind = 3 ∨ a.Kind = 4) ↔ j = true := by rw [← hj, decide_eq_true_eq]
  (repeat' (first|refine aa ?_|refine ae a7 rfl rfl ?_|refine aw rfl rfl ?_|refine aD rfl rfl rfl rfl ?_|refine aS rfl rfl rfl (fun _ => ?_) (fun _ => ?_)|fail))
  all_goals exact K _ _ (by first | rfl | (subst_vars; rfl)) rfl (by clear K; grind)
 (repeat' (first|refine a8 ?_|fail))
 refine av rfl (fun h3 => ?_) (fun h3 => ?_)
 ·have h0 := h3
  replace h3 := of_decide_eq_true h3
  rw [h0]
  (repeat' (first|refine ah ?_|refine a6 ?_|refine ak ?_|refine au ?_|refine a8 ?_|refine ar ?_|refine aG ?_|refine aa ?_|refine ae a7 rfl rfl ?_|refine bI rfl ?_|fail))
  refine aB rfl rfl ?_
  rw [show fZ g i a = 35 from if_pos (.inr (.inr (.inl h3)))]
  exact ⟨rfl, fun e => absurd e (by decide)⟩
 have h0 := h3
 replace h3 := of_decide_eq_false h3
 rw [h0]
 clear h0
 (repeat' (first|refine ah ?_|refine a6 ?_|refine a8 ?_|refine aa ?_|refine ae a7 rfl rfl ?_|refine bM a7 ?_|(apply ba;refine aY ?_)|fail))
 refine av rfl (fun h4 => ?_) (fun h4 => ?_)
 ·rw [h4]
  (repeat' (first|refine ah ?_|refine a6 ?_|refine ak ?_|refine au ?_|refine a8 ?_|refine ar ?_|refine aG ?_|refine aa ?_|refine ae a7 rfl rfl ?_|refine bI rfl ?_|fail))
  refine aB rfl rfl ?_
  rw [show fZ g i a = 35 from if_pos (.inr (.inr (.inr (.inl (by rw [← Bool.not_eq_true', h4])))))]
  exact ⟨rfl, fun e => absurd e (by decide)⟩
 rw [h4]
 (repeat' (first|refine ah ?_|refine a6 ?_|refine ae a7 rfl rfl ?_|fail))
 refine bv (t := 22) [3, 7] (a.Kind = 2 ∧ g.Mark = false) rfl (fun Q' K => ?_) ?_
 ·(repeat' (first|refine aa ?_|refine ae a7 rfl rfl ?_|refine aw rfl rfl ?_|refine aD rfl rfl rfl rfl ?_|refine aS rfl rfl rfl (fun _ => ?_) (fun _ => ?_)|fail))
  all_goals exact K _ _ rfl rfl (by clear K; grind)
 (repeat' (first|refine a8 ?_|fail))
 refine av rfl (fun h5 => ?_) (fun h5 => ?_)
 ·have h0 := h5
  replace h5 := of_decide_eq_true h5
  rw [h0]
  (repeat' (first|refine ah ?_|refine a6 ?_|refine ak ?_|refine au ?_|refine a8 ?_|refine ar ?_|refine aG ?_|refine aa ?_|refine ae a7 rfl rfl ?_|refine bI rfl ?_|fail))
  refine aB rfl rfl ?_
  rw [show fZ g i a = 35 from if_pos (.inr (.inr (.inr (.inr (.inl h5)))))]
  exact ⟨rfl, fun e => absurd e (by decide)⟩
 have h0 := h5
 replace h5 := of_decide_eq_false h5
 rw [h0]
 clear h0
 (repeat' (first|refine a6 ?_|refine ae a7 rfl rfl ?_|fail))
 refine sj 0 (.bool false) Tryz.underlying302 xb rfl rfl rfl (by kernel_rfl) rfl ?_
 rw [uy]
 (repeat' (first|refine a8 ?_|refine aa ?_|refine ae a7 rfl rfl ?_|fail))
 refine av rfl (fun h6 => ?_) (fun h6 => ?_)
 ·rw [h6]
  (repeat' (first|refine ah ?_|refine a6 ?_|refine au ?_|refine a8 ?_|refine ar ?_|refine aG ?_|refine aa ?_|refine ae a7 rfl rfl ?_|fail))
  refine aB rfl rfl ?_
  rw [show fZ g i a = 35 from if_pos (.inr (.inr (.inr (.inr (.inr (of_decide_eq_true h6))))))]
  exact ⟨rfl, fun e => absurd e (by decide)⟩
 rw [h6]
 (repeat' (first|refine ah ?_|refine a6 ?_|refine ak ?_|refine a8 ?_|refine aJ ?_|refine ae a7 rfl rfl ?_|fail))
 refine pM 0 (lH (g.Anchors.take (i + 1))) Tryz.underlying302 xb rfl rfl rfl rfl (uz ha) (sh ha) ?_
 (repeat' (first|refine ah ?_|refine a6 ?_|refine au ?_|refine a8 ?_|refine aa ?_|refine ae a7 rfl rfl ?_|fail))
 refine aB rfl rfl ?_
 have h4' : [a.X, a.Y].all cx = true := by simpa using h4
 have h6' := of_decide_eq_false h6
 rw [show fZ g i a = 0 from if_neg (by
  rintro (h | h | h | h | h | h)
  ·exact h1 h
  ·exact h2 h
  ·exact h3 h
  ·rw [h4'] at h; cases h
  ·exact h5 h
  ·exact h6' h)]
 exact ⟨rfl, fun _ => rfl⟩
def nY (a b c d : Int) : Bool := decide (a < c ∨ (a = c ∧ b < d))
theorem rN (a b c d : Int) : bo Tryz.prog 233 [.agg [aQ a, aQ b], .agg [aQ c, aQ d]] (c8 (nY a b c d)) := by
 refine aU Tryz.func233 rfl Tryz.ntmps233 rfl fun B => ?_
 (repeat' (first|refine ah ?_|refine a6 ?_|refine a8 ?_|refine aa ?_|refine ae a7 rfl rfl ?_|refine b6 ?_|fail))
 refine bv (t := 4) [] (nY a b c d = true) rfl (fun Q' K => ?_) ?_
 ·(repeat' (first|refine aa ?_|refine ae a7 rfl rfl ?_|refine aw rfl rfl ?_|refine aD rfl rfl rfl rfl ?_|refine bT rfl rfl rfl ?_|refine aS rfl rfl rfl (fun _ => ?_) (fun _ => ?_)|fail))
  all_goals exact K _ _ rfl rfl (by clear K; unfold nY; grind)
 (repeat' (first|refine au ?_|refine a8 ?_|fail))
 refine aB rfl rfl ?_
 simp
def eR (l : List dh) (i : Nat) : Int × Int := match i with | 0 => (0, 0) | j + 1 => match l[j]? with | some b => (b.Region, b.Point) | none => (0, 0)
def nv (g : be) (i : Nat) (d : dh) : Bool := decide (0 < i ∧ ((d.Region = (eR g.Deltas i).1 ∧ d.Point = (eR g.Deltas i).2) ∨ nY d.Region d.Point (eR g.Deltas i).1 (eR g.Deltas i).2 = true))
theorem ya {g : be} {i : Nat} {d : dh} (hd : g.Deltas[i]? = some d) : (match i with | 0 => false | j + 1 => match g.Deltas[j]? with | some b => decide (d.Region < b.Region ∨ (d.Region = b.Region ∧ d.Point ≤ b.Point)) | none => false) = nv g i d := by
 unfold nv
 cases i with
 | zero => simp
 | succ j =>
  have hj : j < g.Deltas.length := by have := (List.getElem?_eq_some_iff.1 hd).1; omega
  obtain ⟨b, hb⟩ : ∃ b, g.Deltas[j]? = some b := ⟨_, List.getElem?_eq_getElem hj⟩
  simp only [hb, eR, nY]
  rw [Bool.eq_iff_iff, decide_eq_true_eq, decide_eq_true_eq, decide_eq_true_eq]
  omega
theorem xJ {f : aH} {g : be} {i : Nat} {d : dh} (hd : g.Deltas[i]? = some d) : k7 f g i d = if d.Region < 0 ∨ d.Region ≥ f.Regions.length then 61 else if (d.Point < -1 ∨ d.Point ≥ g.Points.length) ∨ [d.X, d.Y].all cx = false ∨ (d.Point = -1 ∧ d.Y ≠ 0) then 30 else if nv g i d = true then 24 else 0 := by
 unfold k7
 rw [← ya hd]
 cases i <;> rfl
set_option maxHeartbeats 1000000 in
theorem u7 (f : aH) (g : be) (i : Nat) (d : dh) (hd : g.Deltas[i]? = some d) (R N : Int) (hR : R = f.Regions.length) (hN : N = g.Points.length) (b : Nat) : AC Tryz.prog 232 [aQ i, .agg (e8 d), .iptr [aQ R], .iptr [aQ N], .sc (.pointer (some ⟨b, 0, none⟩))] [(b, .box [aQ (eR g.Deltas i).1, aQ (eR g.Deltas i).2] 307)] fun c L' => c = aQ (k7 f g i d) ∧ (k7 f g i d = 0 → L' = [(b, .box [aQ (eR g.Deltas (i + 1)).1, aQ (eR g.Deltas (i + 1)).2] 307)]) := by
 refine aU Tryz.func232 rfl Tryz.ntmps232 rfl fun B => ?_
 rw [xJ hd, ← hR, ← hN]
 have hnext : eR g.Deltas (i + 1) = (d.Region, d.Point) := by simp only [eR, hd]
 rw [hnext]
 (repeat' (first|refine ah ?_|refine a6 ?_|refine am ?_|refine a8 ?_|refine aa ?_|refine ae a7 rfl rfl ?_|(apply aT; first|refine ai 8 a7 0 rfl rfl rfl rfl rfl rfl rfl rfl ?_|refine ai 8 a7 1 rfl rfl rfl rfl rfl rfl rfl rfl ?_|refine ai 8 a7 2 rfl rfl rfl rfl rfl rfl rfl rfl ?_|refine aj a7 0 rfl rfl rfl rfl rfl rfl rfl ?_|refine aj a7 1 rfl rfl rfl rfl rfl rfl rfl ?_|refine aj a7 2 rfl rfl rfl rfl rfl rfl rfl ?_|refine aj a7 3 rfl rfl rfl rfl rfl rfl rfl ?_|fail)|refine b6 ?_|refine bb a7 fun _=>?_|fail))
 refine ci [0, 3, 4, 6, 8] (d.Region < 0 ∨ d.Region ≥ R) rfl (fun Q' K => ?_) (fun h1 => ?_) (fun h1 => ?_)
 ·(repeat' (first|refine aa ?_|refine ae a7 rfl rfl ?_|refine aw rfl rfl ?_|refine aD rfl rfl rfl rfl ?_|refine aS rfl rfl rfl (fun _ => ?_) (fun _ => ?_)|fail))
  all_goals exact K _ _ rfl rfl (by clear K; grind)
 ·rw [if_pos h1]
  (repeat' (first|refine ah ?_|refine a6 ?_|refine au ?_|refine a8 ?_|refine ar ?_|refine aG ?_|refine aa ?_|refine ae a7 rfl rfl ?_|fail))
  exact aB rfl rfl ⟨rfl, fun e => absurd e (by decide)⟩
 rw [if_neg h1]
 (repeat' (first|refine ah ?_|refine a6 ?_|refine ae a7 rfl rfl ?_|fail))
 refine bv (t := 24) [0, 4, 6, 8] (d.Point < -1 ∨ d.Point ≥ N) rfl (fun Q' K => ?_) ?_
 ·(repeat' (first|refine aa ?_|refine ae a7 rfl rfl ?_|refine aw rfl rfl ?_|refine aD rfl rfl rfl rfl ?_|refine aS rfl rfl rfl (fun _ => ?_) (fun _ => ?_)|fail))
  all_goals exact K _ _ rfl rfl (by clear K; grind)
 (repeat' (first|refine a8 ?_|fail))
 refine av rfl (fun h2 => ?_) (fun h2 => ?_)
 ·have h0 := h2
  replace h2 := of_decide_eq_true h2
  rw [h0]
  rw [if_pos (.inl h2)]
  (repeat' (first|refine ah ?_|refine a6 ?_|refine ak ?_|refine au ?_|refine a8 ?_|refine ar ?_|refine aG ?_|refine aa ?_|refine ae a7 rfl rfl ?_|refine bI rfl ?_|fail))
  exact aB rfl rfl ⟨rfl, fun e => absurd e (by decide)⟩
 have h0 := h2
 replace h2 := of_decide_eq_false h2
 rw [h0]
 clear h0
 (repeat' (first|refine ah ?_|refine a6 ?_|refine a8 ?_|refine aa ?_|refine ae a7 rfl rfl ?_|refine bM a7 ?_|(apply ba;refine aY ?_)|fail))
 refine av rfl (fun h3 => ?_) (fun h3 => ?_)
 ·rw [if_pos (.inr (.inl (by rw [← Bool.not_eq_true', h3]))), h3]
  (repeat' (first|refine ah ?_|refine a6 ?_|refine ak ?_|refine au ?_|refine a8 ?_|refine ar ?_|refine aG ?_|refine aa ?_|refine ae a7 rfl rfl ?_|refine bI rfl ?_|fail))
  exact aB rfl rfl ⟨rfl, fun e => absurd e (by decide)⟩
 rw [h3]
 (repeat' (first|refine a6 ?_|refine ae a7 rfl rfl ?_|fail))
 refine bv (t := 24) [0, 4, 8] (d.Point = -1 ∧ d.Y ≠ 0) rfl (fun Q' K => ?_) ?_
 ·(repeat' (first|refine aa ?_|refine ae a7 rfl rfl ?_|refine aw rfl rfl ?_|refine aD rfl rfl rfl rfl ?_|refine aS rfl rfl rfl (fun _ => ?_) (fun _ => ?_)|fail))
  all_goals exact K _ _ rfl rfl (by clear K; grind)
 (repeat' (first|refine a8 ?_|fail))
 refine av rfl (fun h4 => ?_) (fun h4 => ?_)
 ·have h0 := h4
  replace h4 := of_decide_eq_true h4
  rw [h0]
  rw [if_pos (.inr (.inr h4))]
  (repeat' (first|refine ah ?_|refine a6 ?_|refine au ?_|refine a8 ?_|refine ar ?_|refine aG ?_|refine aa ?_|refine ae a7 rfl rfl ?_|fail))
  exact aB rfl rfl ⟨rfl, fun e => absurd e (by decide)⟩
 have h0 := h4
 replace h4 := of_decide_eq_false h4
 rw [h0]
 clear h0
 have h3' : [d.X, d.Y].all cx = true := by simpa using h3
 rw [if_neg (by
  rintro (h | h | h)
  ·exact h2 h
  ·rw [h3'] at h; cases h
  ·exact h4 h)]
 (repeat' (first|refine ah ?_|refine a6 ?_|refine ae a7 rfl rfl ?_|fail))
 refine ci [4, 8] (nv g i d = true) rfl (fun Q' K => ?_) (fun h5 => ?_) (fun h5 => ?_)
 ·(repeat' (first|refine aa ?_|refine ae a7 rfl rfl ?_|refine aw rfl rfl ?_|refine aD rfl rfl rfl rfl ?_|refine bT rfl rfl rfl ?_|(apply bn; first|refine aq a7 0 rfl rfl rfl rfl rfl ?_|refine aq a7 1 rfl rfl rfl rfl rfl ?_|refine aq a7 2 rfl rfl rfl rfl rfl ?_|refine aq a7 3 rfl rfl rfl rfl rfl ?_|refine aF a7 0 rfl rfl rfl rfl rfl ?_|refine aF a7 1 rfl rfl rfl rfl rfl ?_|refine aF a7 2 rfl rfl rfl rfl rfl ?_|refine aq a7 1 rfl rfl rfl (by assumption) rfl ?_|refine aq a7 0 rfl rfl rfl (by assumption) rfl ?_|fail)|refine aS rfl rfl rfl (fun _ => ?_) (fun _ => ?_)|fail))
  all_goals first
   | exact K _ _ rfl rfl (by clear K; unfold nv; grind)
   | (refine A9 Aw Tryz.eqGuardType307 rfl rfl rfl ?_)
  (repeat' (first|refine aa ?_|refine ae a7 rfl rfl ?_|refine aw rfl rfl ?_|refine aD rfl rfl rfl rfl ?_|(apply bn; first|refine aq a7 0 rfl rfl rfl rfl rfl ?_|refine aq a7 1 rfl rfl rfl rfl rfl ?_|refine aq a7 2 rfl rfl rfl rfl rfl ?_|refine aq a7 3 rfl rfl rfl rfl rfl ?_|refine aF a7 0 rfl rfl rfl rfl rfl ?_|refine aF a7 1 rfl rfl rfl rfl rfl ?_|refine aF a7 2 rfl rfl rfl rfl rfl ?_|refine aq a7 1 rfl rfl rfl (by assumption) rfl ?_|refine aq a7 0 rfl rfl rfl (by assumption) rfl ?_|fail)|refine aS rfl rfl rfl (fun _ => ?_) (fun _ => ?_)|fail))
  all_goals first
   | exact K _ _ rfl rfl (by clear K; unfold nv; grind)
   | (refine aY (hc := ⟨rN d.Region d.Point (eR g.Deltas i).1 (eR g.Deltas i).2⟩) ?_)
  (repeat' (first|refine aa ?_|refine ae a7 rfl rfl ?_|refine aw rfl rfl ?_|fail))
  all_goals exact K _ _ rfl rfl (by clear K; unfold nv; grind)
 ·rw [if_pos h5]
  (repeat' (first|refine ah ?_|refine a6 ?_|refine au ?_|refine a8 ?_|refine ar ?_|refine aG ?_|refine aa ?_|refine ae a7 rfl rfl ?_|fail))
  exact aB rfl rfl ⟨rfl, fun e => absurd e (by decide)⟩
 rw [if_neg h5]
 (repeat' (first|refine ah ?_|refine a6 ?_|refine ak ?_|refine au ?_|refine a8 ?_|refine aJ ?_|refine aa ?_|refine ae a7 rfl rfl ?_|(apply aT; first|refine ai 8 a7 0 rfl rfl rfl rfl rfl rfl rfl rfl ?_|refine ai 8 a7 1 rfl rfl rfl rfl rfl rfl rfl rfl ?_|refine ai 8 a7 2 rfl rfl rfl rfl rfl rfl rfl rfl ?_|refine aj a7 0 rfl rfl rfl rfl rfl rfl rfl ?_|refine aj a7 1 rfl rfl rfl rfl rfl rfl rfl ?_|refine aj a7 2 rfl rfl rfl rfl rfl rfl rfl ?_|refine aj a7 3 rfl rfl rfl rfl rfl rfl rfl ?_|fail)|fail))
 refine aB rfl rfl ⟨rfl, fun e => ?_⟩
 rfl
set_option maxHeartbeats 2000000 in
theorem uj (f : aH) (g : be) (name : Int) : bo Tryz.prog 85 [bw f, .agg (bz g), aQ name] (aQ (lD f g name)) := by
 refine aU Tryz.func85 rfl Tryz.ntmps85 rfl fun B => ?_
 (repeat' (first|refine ah ?_|refine a6 ?_|refine a8 ?_|refine aa ?_|refine ae a7 rfl rfl ?_|refine b6 ?_|fail))
 refine bj 30 [(0, .v), (1, .v), (2, .v), (3, .v), (4, .v), (5, .v), (6, .v), (7, .v), (8, .v), (9, .v), (12, .v), (13, .v), (14, .v), (15, .v), (16, .v), (17, .v), (18, .v), (19, .v), (20, .v), (23, .v), (10, .e), (11, .v), (21, .e), (22, .v), (24, .v), (25, .e), (26, .v), (27, .v), (28, .v), (29, .v)] none ?_ trivial rfl (by kernel_rfl) (by kernel_rfl) (by kernel_rfl) mixed (by kernel_rfl) rfl
 (repeat' (first|refine aN ?_|refine bf a7 ?_|(apply cZ;refine dl ?_)|fail))
 refine fB [] [] (rF g.Mark) rfl rfl (List.Perm.refl _) trivial fun c L1 ⟨m, hc, hL⟩ => ?_
 subst hc; subst hL
 (repeat' (first|refine aN ?_|(apply cZ;refine dl ?_)|fail))
 refine fB [] _ (u9 (f.Regions.map cI).length (g.Points.map dv).length) rfl rfl (List.Perm.refl _) trivial fun c L1 ⟨b, hc, hL⟩ => ?_
 subst hc; subst hL
 (repeat' (first|refine aN ?_|(apply cZ;refine dl ?_)|refine m7 a7 ?_|fail))
 refine fB (L := [(b, .box [aQ 0, aQ 0] 307), (m, fP fun _ _ => none)]) _ [] (gQ [⟨150, [.iptr [aQ name]], [], name, 0⟩, ⟨151, [.iptr (bz g)], [], gx g, 0⟩, ⟨225, [.iptr [.imm 3 (g.Parts.map d7)], .iptr [aQ 8], .iptr [.fn 154 [.iptr (bO f)]]], [], (bW 8 g.Parts (je f)).1, (bW 8 g.Parts (je f)).2⟩, ⟨227, [.iptr [.imm 4 (g.Anchors.map dx)], .iptr [aQ 16], .iptr [.fn 229 [.iptr [c8 g.Mark], .iptr [.sc (.map (some m))]]]], [(m, fP fun _ _ => none)], (bW 16 g.Anchors (fZ g)).1, (bW 16 g.Anchors (fZ g)).2⟩, ⟨230, [.iptr [.imm 4 (g.Deltas.map e8)], .iptr [aQ 400], .iptr [.fn 232 [.iptr [aQ (f.Regions.map cI).length], .iptr [aQ (g.Points.map dv).length], .sc (.pointer (some ⟨b, 0, none⟩))]]], [(b, .box [aQ 0, aQ 0] 307)], (bW 400 g.Deltas (k7 f g)).1, (bW 400 g.Deltas (k7 f g)).2⟩, ⟨160, [.iptr (bz g)], [], iM g.Hint, 0⟩] ?_) rfl rfl (List.Perm.swap ..) trivial fun c L1 hc => ?_
 ·refine ⟨⟨inferInstance, rZ name⟩, fun _ => ⟨⟨inferInstance, s1 g⟩, fun _ => ⟨⟨inferInstance, yI rfl g.Parts 8 _ (fun _ _ => True) [] trivial (fun _ => cP fun i x _ => s2 f i x)⟩, fun _ => ⟨⟨inferInstance, yJ rfl g.Anchors 16 (f5 g.Anchors (fZ g)) (fun i L => L = [(m, fP (lH (g.Anchors.take i)))]) _ (by rw [List.take_zero, wB]) ?_⟩, fun _ => ⟨⟨inferInstance, yK rfl g.Deltas 400 (f5 g.Deltas (k7 f g)) (fun i L => L = [(b, .box [aQ (eR g.Deltas i).1, aQ (eR g.Deltas i).2] 307)]) _ rfl ?_⟩, fun _ => ⟨⟨inferInstance, s3 g⟩, fun _ => trivial⟩⟩⟩⟩⟩⟩
  ·intro _ i x L hx hL
   subst hL
   rw [fV hx]
   exact rE g i x hx m
  ·intro _ i x L hx hL
   subst hL
   rw [fV hx]
   exact u7 f g i x hx _ _ (by rw [List.length_map]) (by rw [List.length_map]) b
 ·rw [ix] at hc
  subst hc
  unfold bX
  (repeat' (first|refine aN ?_|refine bf a7 ?_|fail))
  refine bl [7, 37] rfl rfl ?_
  (repeat' (first|refine ah ?_|refine a6 ?_|refine au ?_|refine a8 ?_|refine aa ?_|refine ae a7 rfl rfl ?_|fail))
  exact aB rfl rfl rfl
instance (f : aH) (g : be) (name : Int) : AD Tryz.prog 85 [bw f, .agg (bz g), aQ name] (aQ (lD f g name)) := ⟨uj f g name⟩
end Go.Proofs.YtpbinloeemebkaaGreat
