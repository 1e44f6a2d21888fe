/-
  Steps in a region whose order Go leaves open.
-/
import Derived.Test.YtpbinloeemebkaaGreatM07
import Derived.Test.YtpbinloeemebkaaGreatM05
import Derived.MapKept
namespace Go.Proofs.YtpbinloeemebkaaGreat
open Go.RowKit
section
variable {P : Program} {tt : TT} {r : Option Nat} {Q : Exit → Act → World → Prop} {nt : Nat} {D : List Deferred} {fr : AFr} {B : Bs} {L : AL} {l : List Oper} {fin : AFr → AL → Prop}
variable {k j : Nat} {s : Ak} {sk : AkL} {acc : AFr} {dd : Option Tmp} {op : Op} {ty t t' : TypeId} {pos : String} {af : Array Edge} {g : Option (Nat × Bool)} {x y c : Operand} {u : AV} {want b : Bool}
def DA1 (P : Program) (l : List Oper) (fr : AFr) (fin : AFr → AL → Prop) (k : Nat) (s : Ak) (o : Oper) (sk : AkL) (acc : AFr) (L : AL) : Prop := l[k]? = some o → DA P l fr fin ((k, s) :: sk) acc L
theorem da_open {o : Oper} (h : DA1 P l fr fin k s o sk acc L) (ho : l[k]? = some o := by rfl) : DA P l fr fin ((k, s) :: sk) acc L := h ho
def GOA (o : Oper) (acc : AFr) : Prop := match o.guard with
  | none => True
  | some (j, want) => lvA acc j = .sc (.bool want)
theorem aok_of {o : Oper} {R : AV → AL → Prop} (hg : GOA o acc) (h : ∀ B, AO P o (frkA l.toArray acc fr o.after.toList) B L R) : AOk P l fr o acc L R := by
  unfold AOk
  unfold GOA at hg
  split
  · exact h
  · rename_i j want hq
    rw [hq] at hg
    exact .inl ⟨hg, h⟩
theorem da_val {o : Oper} (hg : GOA o acc) (h : ∀ B L, AO P o (frkA l.toArray acc fr o.after.toList) B L (fun c L' => c = u ∧ L' = L)) (hn : DA P l fr fin sk ((k, u) :: acc) L) : DA1 P l fr fin k .v o sk acc L := by
  intro ho
  obtain ⟨pl, hpl⟩ := hn
  exact ⟨.val k u pl, .v, sk, o, rfl, ho, .inl ⟨rfl, fun L => aok_of hg fun B => h B L⟩, hpl⟩
theorem da_lod {o : Oper} (hg : GOA o acc) (h : ∀ B, AO P o (frkA l.toArray acc fr o.after.toList) B L (fun c L' => c = u ∧ L' = L)) (hn : DA P l fr fin sk ((k, u) :: acc) L) : DA1 P l fr fin k .l o sk acc L := by
  intro ho
  obtain ⟨pl, hpl⟩ := hn
  exact ⟨.val k u pl, .l, sk, o, rfl, ho, .inr ⟨rfl, aok_of hg fun B => h B⟩, hpl⟩
theorem da_eff {o : Oper} {R : AV → AL → Prop} (hg : GOA o acc) (h : ∀ B, AO P o (frkA l.toArray acc fr o.after.toList) B L R) (hn : ∀ c L', R c L' → DA P l fr fin sk ((k, c) :: acc) L') : DA1 P l fr fin k .e o sk acc L := by
  intro ho
  have hn' : ∀ c L', ∃ pl, R c L' → OkA P l fr fin pl sk ((k, c) :: acc) L' := fun c L' => by
    by_cases hr : R c L'
    · obtain ⟨pl, hpl⟩ := hn c L' hr
      exact ⟨pl, fun _ => hpl⟩
    · exact ⟨.fin, fun h => absurd h hr⟩
  exact ⟨.eff k R fun c L' => Classical.choose (hn' c L'), .e, sk, o, .inl rfl, rfl, ho, aok_of hg h, fun c L' hr => Classical.choose_spec (hn' c L') hr⟩
/-- an effect that only adds blocks -/
theorem da_add {o : Oper} {R : AV → AL → Prop} (hX : ∀ c L', R c L' → ∃ X, L' = X ++ L) (hg : GOA o acc) (h : ∀ B, AO P o (frkA l.toArray acc fr o.after.toList) B L R) (hn : ∀ c L', R c L' → DA P l fr fin sk ((k, c) :: acc) L') : DA1 P l fr fin k .a o sk acc L := by
  intro ho
  have hn' : ∀ c L', ∃ pl, R c L' → OkA P l fr fin pl sk ((k, c) :: acc) L' := fun c L' => by
    by_cases hr : R c L'
    · obtain ⟨pl, hpl⟩ := hn c L' hr
      exact ⟨pl, fun _ => hpl⟩
    · exact ⟨.fin, fun h => absurd h hr⟩
  exact ⟨.eff k R fun c L' => Classical.choose (hn' c L'), .a, sk, o, .inr ⟨rfl, hX⟩, rfl, ho, aok_of hg h, fun c L' hr => Classical.choose_spec (hn' c L') hr⟩
theorem da_no {op : Op} (hj : lvA acc j = .sc (.bool b)) (hb : (b == want) = false) (hn : DA P l fr fin sk ((k, .sc undef) :: acc) L) : DA1 P l fr fin k .v ⟨dd, op, ty, pos, af, some (j, want)⟩ sk acc L := by
  intro ho
  obtain ⟨pl, hpl⟩ := hn
  exact ⟨.val k (.sc undef) pl, .v, sk, _, rfl, ho, .inl ⟨rfl, fun L => .inr ⟨⟨_, hj, fun e => by injection e with e; subst e; simp at hb⟩, rfl, rfl⟩⟩, hpl⟩
theorem da_un {op : Op} (hj : lvA acc j = .sc undef) (hn : DA P l fr fin sk ((k, .sc undef) :: acc) L) : DA1 P l fr fin k .v ⟨dd, op, ty, pos, af, some (j, want)⟩ sk acc L := by
  intro ho
  obtain ⟨pl, hpl⟩ := hn
  exact ⟨.val k (.sc undef) pl, .v, sk, _, rfl, ho, .inl ⟨rfl, fun L => .inr ⟨⟨_, hj, fun e => by simp [undef] at e⟩, rfl, rfl⟩⟩, hpl⟩
theorem ofv {o : Oper} {fr : AFr} (h : Av P o fr u) : ∀ B L, AO P o fr B L (fun c L' => c = u ∧ L' = L) := fun _ _ => h.ao
/-! by kinds -/
theorem d_run (ok : TOk P tt) (h : DA P l fr fin sk ((k, u) :: acc) L) (hu : stepB tt (frkA l.toArray acc fr af.toList) op = some u := by rfl) (hg : GOA ⟨dd, op, ty, pos, af, g⟩ acc := by first | trivial | rfl) : DA1 P l fr fin k .v ⟨dd, op, ty, pos, af, g⟩ sk acc L := da_val hg (ofv (stepB_spec ok hu)) h
theorem ds_bin {bop : BinOp} (h : DA1 P l fr fin k .v ⟨dd, .binOp bop t x y t', ty, pos, af, g⟩ sk acc L) : DA1 P l fr fin k .v ⟨dd, .binOp bop t x y t', ty, pos, af, g⟩ sk acc L := h
theorem d_bin {bop : BinOp} (h : DA P l fr fin sk ((k, u) :: acc) L) (ho : Av P ⟨dd, .binOp bop t x y t', ty, pos, af, g⟩ (frkA l.toArray acc fr af.toList) u := by first | exact a_add64 rfl rfl (by omega) | exact a_sub64 rfl rfl (by omega) | exact a_mul64 rfl rfl (by omega)) (hg : GOA ⟨dd, .binOp bop t x y t', ty, pos, af, g⟩ acc := by first | trivial | rfl) : DA1 P l fr fin k .v ⟨dd, .binOp bop t x y t', ty, pos, af, g⟩ sk acc L := da_val hg (ofv ho) h
theorem ds_index (h : DA1 P l fr fin k .v ⟨dd, .indexAddr t x y, ty, pos, af, g⟩ sk acc L) : DA1 P l fr fin k .v ⟨dd, .indexAddr t x y, ty, pos, af, g⟩ sk acc L := h
theorem d_index (ok : TOk P tt) {e sz by_ s : Nat} {ll : List (List AV)} {ik : IntKind} {i : Int} {es : List AV} (h : DA P l fr fin sk ((k, .iptr es) :: acc) L) (ht : slI tt t = some (e, sz, by_) := by rfl) (hx : aev (frkA l.toArray acc fr af.toList) x = some u := by rfl) (hu : immO u = some (s, ll) := by rfl) (hs : Nat.beq s sz = true := by rfl) (hy : aev (frkA l.toArray acc fr af.toList) y = some (.sc (.int ik i)) := by rfl) (h0 : 0 ≤ i := by omega) (hl : ll[i.toNat]? = some es := by first | assumption | (simp only [Int.toNat_natCast]; assumption)) (hg : GOA ⟨dd, .indexAddr t x y, ty, pos, af, g⟩ acc := by first | trivial | rfl) : DA1 P l fr fin k .v ⟨dd, .indexAddr t x y, ty, pos, af, g⟩ sk acc L := da_val hg (ofv (a_index (slI_spec ok ht).1 hx (immO_spec hu) hs hy h0 hl)) h
theorem ds_call {f : FuncId} {args : Array Operand} {ts : Array TypeId} (h : DA1 P l fr fin k .v ⟨dd, .call ⟨.value (.func f), args, ts⟩, ty, pos, af, g⟩ sk acc L) : DA1 P l fr fin k .v ⟨dd, .call ⟨.value (.func f), args, ts⟩, ty, pos, af, g⟩ sk acc L := h
theorem d_call {f : FuncId} {args : Array Operand} {ts : Array TypeId} {cs ds : List AV} [CFn P f] (h : DA P l fr fin sk ((k, u) :: acc) L) (hv : aevs (frkA l.toArray acc fr af.toList) args.toList = some cs := by rfl) (hi : imsF cs = some ds := by rfl) (hc : AD P f ds u := by infer_instance) (hg : GOA ⟨dd, .call ⟨.value (.func f), args, ts⟩, ty, pos, af, g⟩ acc := by first | trivial | rfl) : DA1 P l fr fin k .v ⟨dd, .call ⟨.value (.func f), args, ts⟩, ty, pos, af, g⟩ sk acc L := da_val hg (fun _ _ => ao_det hv (by rw [imsF_eq hi]; exact hc.det)) h
theorem d_load (ok : TOk P tt) (i : Nat) {b kk : Nat} {cs : List AV} {e : TypeId} (ht : scI tt t = true) (hx : aev (frkA l.toArray acc fr af.toList) x = some (.sc (.pointer (some ⟨b, kk, none⟩)))) (hL : L[i]? = some (b, .box cs e)) (hc : cs[kk]? = some u) (hg : GOA ⟨dd, .load t x, ty, pos, af, g⟩ acc) (h : DA P l fr fin sk ((k, u) :: acc) L) : DA1 P l fr fin k .l ⟨dd, .load t x, ty, pos, af, g⟩ sk acc L := da_lod hg (fun _ => ao_load i (scI_spec ok ht) hx hL hc) h
theorem d_loadA (ok : TOk P tt) (i : Nat) {b kk n : Nat} {cs : List AV} {e : TypeId} (ht : agI tt t = some n) (hx : aev (frkA l.toArray acc fr af.toList) x = some (.sc (.pointer (some ⟨b, kk, none⟩)))) (hL : L[i]? = some (b, .box cs e)) (hc : Nat.ble (kk + n) cs.length = true) (hg : GOA ⟨dd, .load t x, ty, pos, af, g⟩ acc) (h : DA P l fr fin sk ((k, .agg ((cs.drop kk).take n)) :: acc) L) : DA1 P l fr fin k .l ⟨dd, .load t x, ty, pos, af, g⟩ sk acc L := da_lod hg (fun _ => ao_loadA i (agI_spec ok ht) hx hL hc) h
/-- a literal that is only read -/
theorem ao_litI {d : Option Tmp} {e sz by_ n : Nat} {parts : Array (Nat × Operand)} {vs : List AV} {xs : List (List AV)} (hc : CSl P t e sz by_) (hsz : 0 < sz) (hv : aevs fr (parts.toList.map (·.2)) = some vs) (hxs : acells vs = some xs) (hn : Nat.beq xs.length n = true) (hi : parts.toList.map (·.1) = List.range' 0 n) (hz : xs.all (fun q => Nat.beq q.length sz) = true) (h24 : Nat.ble (n * sz) 16777216 = true) :
    AO P ⟨d, .buildSlice t n parts, ty, pos, af, g⟩ fr B L (fun c L' => c = .imm sz xs ∧ L' = L) := by
  intro σ ρ w hρ hw
  refine (ao_lit hc hsz hv hxs hn hi hz h24 σ ρ w hρ hw).mono fun v w' hh => ?_
  obtain ⟨τ, c, L', h1, h2, h3, b, rfl, rfl⟩ := hh
  exact ⟨τ, _, L, h1, h2.im, h3.sublist (.cons _ (List.Sublist.refl _)), rfl, rfl⟩
theorem d_lit (ok : TOk P tt) {e sz by_ n : Nat} {parts : Array (Nat × Operand)} {vs : List AV} {xs : List (List AV)} (h : DA P l fr fin sk ((k, .imm sz xs) :: acc) L) (ht : slI tt t = some (e, sz, by_) := by rfl) (hv : aevs (frkA l.toArray acc fr af.toList) (parts.toList.map (·.2)) = some vs := by rfl) (hxs : acells vs = some xs := by rfl) (hn : Nat.beq xs.length n = true := by rfl) (hi : parts.toList.map (·.1) = List.range' 0 n := by rfl) (hz : xs.all (fun q => Nat.beq q.length sz) = true := by rfl) (h24 : Nat.ble (n * sz) 16777216 = true := by rfl) (hg : GOA ⟨dd, .buildSlice t n parts, ty, pos, af, g⟩ acc := by first | trivial | rfl) :
    DA1 P l fr fin k .v ⟨dd, .buildSlice t n parts, ty, pos, af, g⟩ sk acc L := da_val hg (fun _ _ => ao_litI (slI_spec ok ht).1 (slI_spec ok ht).2 hv hxs hn hi hz h24) h
theorem n_litI (ok : TOk P tt) {r : Option Nat} {ops : Array Oper} {Q : Exit → Act → World → Prop} {nt : Nat} {D : List Deferred} {rest : List Oper} {d e sz by_ n : Nat} {parts : Array (Nat × Operand)} {vs : List AV} {xs : List (List AV)} (h : ATL P r ops Q nt D rest ((d, .imm sz xs) :: fr) B L) (ht : slI tt t = some (e, sz, by_) := by rfl) (hv : aevs fr (parts.toList.map (·.2)) = some vs := by rfl) (hxs : acells vs = some xs := by rfl) (hn : Nat.beq xs.length n = true := by rfl) (hi : parts.toList.map (·.1) = List.range' 0 n := by rfl) (hz : xs.all (fun q => Nat.beq q.length sz) = true := by rfl) (h24 : Nat.ble (n * sz) 16777216 = true := by rfl) (hd : Nat.ble nt d = false := by rfl) :
    ATL P r ops Q nt D (⟨some d, .buildSlice t n parts, ty, pos, af, none⟩ :: rest) fr B L := by
  obtain ⟨h1, h2⟩ := slI_spec ok ht
  refine atl_op hd rfl (ao_litI h1 h2 hv hxs hn hi hz h24) fun c L' hh => ?_
  obtain ⟨h1, h2⟩ := hh
  subst h1; subst h2
  exact h
/-- the region's end -/
theorem da_end {n0 : Nat} {fr0 : AFr} {rest : List Oper} (ks : List Nat) (hk : akeep (frAllA l.toArray acc fr n0) ks = some fr0) (hr : l.drop n0 = rest) (h : ATL P r l.toArray Q nt D rest fr0 B L) : DA P l fr (finA P r l n0 Q nt D fr B none) [] acc L :=
  ⟨.fin, rfl, by rw [← hr] at h; exact atl_weak (akeep_afle ks hk) (fun _ _ h => h) h⟩
theorem da_endA {n0 kk : Nat} {ab : AB} {rest : List Oper} (ks : List Nat) (fr0 : Nat → AFr) (hk : ∀ b, akeep (frAllA l.toArray ((kk, .sc (.pointer (some ⟨b, 0, none⟩))) :: acc) fr n0) ks = some (fr0 b)) (hr : l.drop n0 = rest) (h : ∀ b, ATL P r l.toArray Q nt D rest (fr0 b) B (L ++ [(b, ab)])) : DA P l fr (finA P r l n0 Q nt D fr B (some (kk, ab))) [] acc L :=
  ⟨.fin, rfl, fun b => by have := h b; rw [← hr] at this; exact atl_weak (akeep_afle ks (hk b)) (fun _ _ h => h) this⟩
end
end Go.Proofs.YtpbinloeemebkaaGreat

namespace Go.Proofs.YtpbinloeemebkaaGreat
open Go.RowKit
attribute [local irreducible] AT ATL AX AO Av Kt ALoopK OkA DA DA1

theorem has_det (l : List Int) (n : Int) : ADet Tryz.prog 33 [.imm 1 (ints l), .sc (.int .i64 n)] (.sc (.bool (l.contains n))) := by
  refine ac_of Tryz.func33 rfl Tryz.ntmps33 rfl fun B => ?_
  refine at_len 0 rfl rfl fun hlen => ?_
  rw [ints_len] at hlen
  (repeat' (first|refine at_seq ?_|refine at_region ?_|refine at_block ?_|refine ax_then ?_|refine atl_nil ?_|refine n_run ttok rfl rfl ?_|fail))
  refine at_loopK [0, 1] (α := Nat) (fun i => [(5, .sc (.int .i64 i))]) (fun i => i ≤ l.length ∧ (l.take i).contains n = false) (fun _ => []) (fun i => l.length - i) 0 rfl ⟨rfl, trivial⟩ ⟨Nat.zero_le _, by simp⟩ (fun _ _ h => h) fun i hi => ?_
  try dsimp only [List.cons_append, List.nil_append, List.map_cons, List.map_nil]
  (repeat' (first|refine at_seq ?_|refine at_region ?_|refine ax_then ?_|refine atl_nil ?_|refine n_run ttok rfl rfl ?_|fail))
  refine at_cond rfl (fun h => ?_) (fun h => ?_)
  · have hil : i < l.length := by have := of_decide_eq_true h; rw [ints_len] at this; omega
    obtain ⟨z, hz⟩ : ∃ z, l[i]? = some z := ⟨_, List.getElem?_eq_getElem hil⟩
    have hzg := ints_get hz
    (repeat' (first|refine at_seq ?_|refine at_region ?_|refine at_block ?_|refine at_skip ?_|refine ax_then ?_|refine atl_nil ?_|refine n_run ttok rfl rfl ?_|(apply s_index; first|refine n_index ttok ?_|refine n_indexP ttok ?_)|fail))
    refine at_cond rfl (fun h2 => ?_) (fun h2 => ?_)
    · have h2' := of_decide_eq_true h2
      (repeat' (first|refine at_seq ?_|refine at_region ?_|refine at_ret ?_|refine ax_then ?_|refine ax_then_ret ?_|refine ax_blk_ret ?_|refine ax_loop_ret ?_|refine atl_nil ?_|refine n_run ttok rfl rfl ?_|fail))
      refine ax_ret1 rfl rfl ?_
      subst h2'
      rw [show l.contains z = true by simpa using List.mem_of_getElem? hz]
    · have h2' := of_decide_eq_false h2
      (repeat' (first|refine at_region ?_|refine at_skip ?_|refine ax_then ?_|refine ax_blk ?_|refine atl_nil ?_|refine n_run ttok rfl rfl ?_|(apply s_bin; refine n_bin ?_)|fail))
      refine ax_roundK (i + 1) rfl ⟨by rw [Int.natCast_add]; rfl, trivial⟩ ⟨by omega, ?_⟩ (by omega) (fun _ _ h => h)
      rw [List.take_add_one, hz]
      have := hi.2
      simp_all
      omega
  · have hil : i = l.length := by have := of_decide_eq_false h; rw [ints_len] at this; omega
    subst hil
    rw [List.take_length] at hi
    (repeat' (first|refine at_seq ?_|refine at_region ?_|refine at_ret ?_|refine at_exit ?_|refine ax_then ?_|refine ax_then_exit ?_|refine ax_blk_exit ?_|refine ax_loop_exit ?_|refine atl_nil ?_|refine n_run ttok rfl rfl ?_|fail))
    refine ax_ret1 rfl rfl ?_
    rw [hi.2]
instance (l : List Int) (n : Int) : AD Tryz.prog 33 [.imm 1 (ints l), .sc (.int .i64 n)] (.sc (.bool (l.contains n))) := ⟨has_det l n⟩

theorem same_det (l k : List Int) : ADet Tryz.prog 12 [.imm 1 (ints l), .imm 1 (ints k)] (.sc (.bool (l == k))) := by
  refine ac_of Tryz.func12 rfl Tryz.ntmps12 rfl fun B => ?_
  refine at_len 0 rfl rfl fun hlen => ?_
  rw [ints_len] at hlen
  (repeat' (first|refine at_seq ?_|refine at_region ?_|refine ax_then ?_|refine atl_nil ?_|refine n_run ttok rfl rfl ?_|fail))
  refine at_cond rfl (fun h => ?_) (fun h => ?_)
  · have h' := of_decide_eq_true h
    simp only [ints_len] at h'
    (repeat' (first|refine at_seq ?_|refine at_region ?_|refine at_ret ?_|refine ax_then ?_|refine ax_then_ret ?_|refine atl_nil ?_|refine n_run ttok rfl rfl ?_|fail))
    refine ax_ret1 rfl rfl ?_
    rw [show (l == k) = false by rw [beq_eq_false_iff_ne]; intro e; subst e; simp at h']
  · have h' := of_decide_eq_false h
    simp only [ints_len] at h'
    have hlk : l.length = k.length := by omega
    (repeat' (first|refine at_seq ?_|refine at_region ?_|refine at_block ?_|refine at_skip ?_|refine ax_then ?_|refine atl_nil ?_|refine n_run ttok rfl rfl ?_|fail))
    refine at_loopK [0, 1] (α := Nat) (fun i => [(5, .sc (.int .i64 i))]) (fun i => i ≤ l.length ∧ l.take i = k.take i) (fun _ => []) (fun i => l.length - i) 0 rfl ⟨rfl, trivial⟩ ⟨Nat.zero_le _, by simp⟩ (fun _ _ h => h) fun i hi => ?_
    try dsimp only [List.cons_append, List.nil_append, List.map_cons, List.map_nil]
    (repeat' (first|refine at_seq ?_|refine at_region ?_|refine ax_then ?_|refine atl_nil ?_|refine n_run ttok rfl rfl ?_|fail))
    refine at_cond rfl (fun h => ?_) (fun h => ?_)
    · have hil : i < l.length := by have := of_decide_eq_true h; rw [ints_len] at this; omega
      obtain ⟨z, hz⟩ : ∃ z, l[i]? = some z := ⟨_, List.getElem?_eq_getElem hil⟩
      obtain ⟨y, hy⟩ : ∃ z, k[i]? = some z := ⟨_, List.getElem?_eq_getElem (by omega)⟩
      have hzg := ints_get hz
      have hyg := ints_get hy
      (repeat' (first|refine at_seq ?_|refine at_block ?_|refine at_skip ?_|refine ax_then ?_|fail))
      refine at_draw 8 [(0, .v), (1, .v), (2, .v), (3, .v), (4, .v), (5, .v), (6, .v), (7, .v)] none ?_ trivial rfl (by kernel_rfl) (by kernel_rfl) (by kernel_rfl) mixed (by kernel_rfl) rfl
      (repeat' (first|refine da_open ?_|refine d_run ttok ?_|(apply ds_index;refine d_index ttok ?_)|fail))
      refine da_end [0, 1, 5, 20, 24] rfl rfl ?_
      (repeat' (first|refine ax_then ?_|refine atl_nil ?_|refine n_run ttok rfl rfl ?_|fail))
      refine at_cond rfl (fun h2 => ?_) (fun h2 => ?_)
      · have h2' := of_decide_eq_true h2
        (repeat' (first|refine at_seq ?_|refine at_region ?_|refine at_ret ?_|refine ax_then ?_|refine ax_then_ret ?_|refine ax_blk_ret ?_|refine ax_loop_ret ?_|refine atl_nil ?_|refine n_run ttok rfl rfl ?_|fail))
        refine ax_ret1 rfl rfl ?_
        rw [show (l == k) = false by rw [beq_eq_false_iff_ne]; intro e; subst e; rw [hz] at hy; injection hy with hy; exact h2' hy]
      · have h2' := of_decide_eq_false h2
        (repeat' (first|refine at_region ?_|refine at_skip ?_|refine ax_then ?_|refine ax_blk ?_|refine atl_nil ?_|refine n_run ttok rfl rfl ?_|(apply s_bin; refine n_bin ?_)|fail))
        refine ax_roundK (i + 1) rfl ⟨by rw [Int.natCast_add]; rfl, trivial⟩ ⟨by omega, ?_⟩ (by omega) (fun _ _ h => h)
        rw [List.take_add_one, List.take_add_one, hz, hy, hi.2, Decidable.not_not.1 h2']
    · have hil : i = l.length := by have := of_decide_eq_false h; rw [ints_len] at this; omega
      subst hil
      rw [List.take_length, hlk, List.take_length] at hi
      (repeat' (first|refine at_seq ?_|refine at_region ?_|refine at_ret ?_|refine at_exit ?_|refine ax_then ?_|refine ax_then_exit ?_|refine ax_blk_exit ?_|refine ax_loop_exit ?_|refine atl_nil ?_|refine n_run ttok rfl rfl ?_|fail))
      refine ax_ret1 rfl rfl ?_
      rw [hi.2, beq_self_eq_true]
instance (l k : List Int) : AD Tryz.prog 12 [.imm 1 (ints l), .imm 1 (ints k)] (.sc (.bool (l == k))) := ⟨same_det l k⟩
end Go.Proofs.YtpbinloeemebkaaGreat

namespace Go.Proofs.YtpbinloeemebkaaGreat
open Go.RowKit
attribute [local irreducible] AT ATL AX AO Av Kt ALoopK OkA DA DA1
/-- the numbers below n that are among some, rising -/
def setN (l : List Int) (n : Nat) : List Int := ((List.range n).map Int.ofNat).filter (l.contains ·)
theorem setN_succ (l : List Int) (n : Nat) : setN l (n + 1) = setN l n ++ (if l.contains (n : Int) then [(n : Int)] else []) := by
  unfold setN
  rw [List.range_succ, List.map_append, List.filter_append]
  congr 1
  show List.filter _ [Int.ofNat n] = _
  rw [List.filter_cons, List.filter_nil]
  rfl
theorem setN_len (l : List Int) (n : Nat) : (setN l n).length ≤ n := by
  unfold setN
  exact Nat.le_trans (List.length_filter_le _ _) (by simp)
theorem ints_app (a b : List Int) : ints a ++ ints b = ints (a ++ b) := by simp [ints]

theorem set_vec (l : List Int) (n : Nat) (hn : n ≤ 1000000) : AVec Tryz.prog 32 [.imm 1 (ints l), .sc (.int .i64 n)] 3 1 (ints (setN l n)) := by
  refine ac_of Tryz.func32 rfl Tryz.ntmps32 rfl fun B => ?_
  (repeat' (first|refine at_seq ?_|refine at_region ?_|refine at_block ?_|refine ax_then ?_|refine atl_nil ?_|refine n_run ttok rfl rfl ?_|refine n_lit (n := 0) ttok fun _=>?_|fail))
  rename_i b7
  refine at_loopK [0, 1] (α := Nat × Option (Nat × Nat)) (fun x => [(5, .vec x.2 1 (ints (setN l x.1))), (6, .sc (.int .i64 x.1))]) (fun x => x.1 ≤ n) (fun x => tok x.2 3 1 (ints (setN l x.1)).length) (fun x => n - x.1) (0, some (b7, 0)) rfl ⟨rfl, rfl, trivial⟩ (Nat.zero_le _) (fun _ _ h => h) ?_
  rintro ⟨i, k⟩ hi
  dsimp only at hi ⊢
  have hsl := setN_len l i
  try dsimp only [List.cons_append, List.nil_append, List.map_cons, List.map_nil]
  (repeat' (first|refine at_seq ?_|refine at_region ?_|refine ax_then ?_|refine atl_nil ?_|refine n_run ttok rfl rfl ?_|fail))
  refine at_cond rfl (fun h => ?_) (fun h => ?_)
  · have hil : i < n := by have := of_decide_eq_true h; omega
    (repeat' (first|refine at_seq ?_|refine at_region ?_|refine at_block ?_|refine at_skip ?_|refine ax_then ?_|refine atl_nil ?_|refine n_run ttok rfl rfl ?_|(apply s_call;refine n_call ?_)|fail))
    refine at_cond rfl (fun h2 => ?_) (fun h2 => ?_)
    · (repeat' (first|refine at_region ?_|refine n_run ttok rfl rfl ?_|refine n_litI ttok ?_|fail))
      refine n_append ttok [] rfl rfl rfl rfl (by simp) (by rw [ints_len]; simp; omega) (by rw [ints_len]; simp; omega) rfl fun k' => ?_
      (repeat' (first|refine at_region ?_|refine ax_then ?_|refine ax_blk ?_|refine atl_nil ?_|refine n_run ttok rfl rfl ?_|(apply s_bin; refine n_bin ?_)|fail))
      have hs := setN_succ l i
      rw [if_pos h2] at hs
      have hs2 : ints (setN l i) ++ [[.sc (.int .i64 (i : Int))]] = ints (setN l (i + 1)) := by rw [hs, ← ints_app]; rfl
      rw [hs2]
      refine ax_roundK (i + 1, k') rfl ⟨rfl, by rw [Int.natCast_add]; rfl, trivial⟩ (by dsimp only; omega) (by dsimp only; omega) (fun _ _ h => by simpa using h)
    · (repeat' (first|refine at_region ?_|refine at_skip ?_|refine ax_then ?_|refine ax_blk ?_|refine atl_nil ?_|refine n_run ttok rfl rfl ?_|(apply s_bin; refine n_bin ?_)|fail))
      have hs := setN_succ l i
      rw [h2] at hs
      simp only [Bool.false_eq_true, if_false, List.append_nil] at hs
      rw [← hs]
      refine ax_roundK (i + 1, k) rfl ⟨rfl, by rw [Int.natCast_add]; rfl, trivial⟩ (by dsimp only; omega) (by dsimp only; omega) (fun _ _ h => h)
  · have hil : i = n := by have := of_decide_eq_false h; omega
    subst hil
    (repeat' (first|refine at_seq ?_|refine at_region ?_|refine at_ret ?_|refine at_exit ?_|refine ax_then ?_|refine ax_then_exit ?_|refine ax_blk_exit ?_|refine ax_loop_exit ?_|refine atl_nil ?_|refine n_run ttok rfl rfl ?_|fail))
    exact ax_ret1 rfl rfl ⟨_, rfl, rfl⟩
theorem set_det (l : List Int) (n : Nat) (hn : n ≤ 1000000) : ADet Tryz.prog 32 [.imm 1 (ints l), .sc (.int .i64 n)] (.imm 1 (ints (setN l n))) := (set_vec l n hn).det
end Go.Proofs.YtpbinloeemebkaaGreat

namespace Go.Proofs.YtpbinloeemebkaaGreat
open Go.RowKit
abbrev I64 (z : Int) : AV := .sc (.int .i64 z)
abbrev Str (s : ByteArray) : AV := .sc (.string s)
abbrev Bol (b : Bool) : AV := .sc (.bool b)
structure FPoint where
  X : Int
  Y : Int
  On : Bool
structure FPart where
  Glyph : Int
  X : Int
  Y : Int
structure FAnchor where
  Kind : Int
  Class : Int
  X : Int
  Y : Int
structure FDelta where
  Region : Int
  Point : Int
  X : Int
  Y : Int
structure FIns where
  Op : Int
  A : Int
structure FGlyph where
  Name : ByteArray
  Advance : Int
  Mark : Bool
  Points : List FPoint
  Ends : List Int
  Parts : List FPart
  Anchors : List FAnchor
  Deltas : List FDelta
  Hint : List FIns
structure FChar where
  Rune : Int
  Glyph : Int
structure FCall where
  At : Int
  Lookup : Int
structure FRule where
  Back : List (List Int)
  In : List (List Int)
  Ahead : List (List Int)
  Out : List Int
  Calls : List FCall
  X : Int
structure FLookup where
  Kind : Int
  Ignore : Bool
  Rules : List FRule
structure FFeature where
  Name : ByteArray
  Lookups : List Int
structure FAxis where
  Name : ByteArray
  Min : Int
  Def : Int
  Max : Int
structure FTent where
  Start : Int
  Peak : Int
  End : Int
structure FFont where
  Unit : Int
  Glyphs : List FGlyph
  Chars : List FChar
  Lookups : List FLookup
  Features : List FFeature
  Axes : List FAxis
  Regions : List (List FTent)
  Funcs : List (List FIns)
  Cvt : List Int
def rowsI (l : List (List Int)) : List (List AV) := l.map fun q => [.imm 1 (ints q)]
def strs (l : List ByteArray) : List (List AV) := l.map fun s => [Str s]
def cPoint (p : FPoint) : List AV := [I64 p.X, I64 p.Y, Bol p.On]
def cPart (p : FPart) : List AV := [I64 p.Glyph, I64 p.X, I64 p.Y]
def cAnchor (p : FAnchor) : List AV := [I64 p.Kind, I64 p.Class, I64 p.X, I64 p.Y]
def cDelta (p : FDelta) : List AV := [I64 p.Region, I64 p.Point, I64 p.X, I64 p.Y]
def cIns (p : FIns) : List AV := [I64 p.Op, I64 p.A]
def cGlyph (g : FGlyph) : List AV := [Str g.Name, I64 g.Advance, Bol g.Mark, .imm 3 (g.Points.map cPoint), .imm 1 (ints g.Ends), .imm 3 (g.Parts.map cPart), .imm 4 (g.Anchors.map cAnchor), .imm 4 (g.Deltas.map cDelta), .imm 2 (g.Hint.map cIns)]
def cChar (c : FChar) : List AV := [I64 c.Rune, I64 c.Glyph]
def cCall (c : FCall) : List AV := [I64 c.At, I64 c.Lookup]
def cRule (r : FRule) : List AV := [.imm 1 (rowsI r.Back), .imm 1 (rowsI r.In), .imm 1 (rowsI r.Ahead), .imm 1 (ints r.Out), .imm 2 (r.Calls.map cCall), I64 r.X]
def cLookup (l : FLookup) : List AV := [I64 l.Kind, Bol l.Ignore, .imm 6 (l.Rules.map cRule)]
def cFeature (t : FFeature) : List AV := [Str t.Name, .imm 1 (ints t.Lookups)]
def cAxis (a : FAxis) : List AV := [Str a.Name, I64 a.Min, I64 a.Def, I64 a.Max]
def cTent (t : FTent) : List AV := [I64 t.Start, I64 t.Peak, I64 t.End]
def cRegion (r : List FTent) : List AV := [.imm 3 (r.map cTent)]
def cCode (l : List FIns) : List AV := [.imm 2 (l.map cIns)]
def cFont (f : FFont) : List AV := [I64 f.Unit, .imm 9 (f.Glyphs.map cGlyph), .imm 2 (f.Chars.map cChar), .imm 3 (f.Lookups.map cLookup), .imm 2 (f.Features.map cFeature), .imm 4 (f.Axes.map cAxis), .imm 1 (f.Regions.map cRegion), .imm 1 (f.Funcs.map cCode), .imm 1 (ints f.Cvt)]
abbrev aFont (f : FFont) : AV := .agg (cFont f)
theorem map_get {α : Type} {c : α → List AV} {l : List α} {i : Nat} {a : α} (h : l[i]? = some a) : (l.map c)[i]? = some (c a) := by simp [h]
theorem strs_len (l : List ByteArray) : (strs l).length = l.length := by simp [strs]
theorem strs_get {l : List ByteArray} {i : Nat} {z : ByteArray} (h : l[i]? = some z) : (strs l)[i]? = some [Str z] := by simp [strs, h]
theorem rowsI_len (l : List (List Int)) : (rowsI l).length = l.length := by simp [rowsI]
theorem rowsI_get {l : List (List Int)} {i : Nat} {z : List Int} (h : l[i]? = some z) : (rowsI l)[i]? = some [.imm 1 (ints z)] := by simp [rowsI, h]
end Go.Proofs.YtpbinloeemebkaaGreat

namespace Go.Proofs.YtpbinloeemebkaaGreat
open Go.RowKit
attribute [local irreducible] AT ATL AX AO Av Kt ALoopK OkA DA DA1
/-- is a text one of some? -/
def hasS (l : List ByteArray) (s : ByteArray) : Bool := l.any fun t => decide (t = s)
theorem hasS_iff {l : List ByteArray} {s : ByteArray} : hasS l s = true ↔ s ∈ l := by
  unfold hasS
  rw [List.any_eq_true]
  constructor
  · rintro ⟨t, h1, h2⟩; rw [← of_decide_eq_true h2]; exact h1
  · intro h; exact ⟨s, h, decide_eq_true rfl⟩
theorem names_det (l : List ByteArray) (s : ByteArray) : ADet Tryz.prog 31 [.imm 1 (strs l), Str s] (Bol (hasS l s)) := by
  refine ac_of Tryz.func31 rfl Tryz.ntmps31 rfl fun B => ?_
  refine at_len 0 rfl rfl fun hlen => ?_
  rw [strs_len] at hlen
  (repeat' (first|refine at_seq ?_|refine at_region ?_|refine at_block ?_|refine ax_then ?_|refine atl_nil ?_|refine n_run ttok rfl rfl ?_|fail))
  refine at_loopK [0, 1] (α := Nat) (fun i => [(5, I64 i)]) (fun i => i ≤ l.length ∧ s ∉ l.take i) (fun _ => []) (fun i => l.length - i) 0 rfl ⟨rfl, trivial⟩ ⟨Nat.zero_le _, by simp⟩ (fun _ _ h => h) fun i hi => ?_
  try dsimp only [List.cons_append, List.nil_append, List.map_cons, List.map_nil]
  (repeat' (first|refine at_seq ?_|refine at_region ?_|refine ax_then ?_|refine atl_nil ?_|refine n_run ttok rfl rfl ?_|fail))
  refine at_cond rfl (fun h => ?_) (fun h => ?_)
  · have hil : i < l.length := by have := of_decide_eq_true h; rw [strs_len] at this; omega
    obtain ⟨z, hz⟩ : ∃ z, l[i]? = some z := ⟨_, List.getElem?_eq_getElem hil⟩
    have hzg := strs_get hz
    (repeat' (first|refine at_seq ?_|refine at_region ?_|refine at_block ?_|refine at_skip ?_|refine ax_then ?_|refine atl_nil ?_|refine n_run ttok rfl rfl ?_|(apply s_index; first|refine n_index ttok ?_|refine n_indexP ttok ?_)|fail))
    refine at_cond rfl (fun h2 => ?_) (fun h2 => ?_)
    · have h2' := of_decide_eq_true h2
      (repeat' (first|refine at_seq ?_|refine at_region ?_|refine at_ret ?_|refine ax_then ?_|refine ax_then_ret ?_|refine ax_blk_ret ?_|refine ax_loop_ret ?_|refine atl_nil ?_|refine n_run ttok rfl rfl ?_|fail))
      refine ax_ret1 rfl rfl ?_
      subst h2'
      rw [hasS_iff.2 (List.mem_of_getElem? hz)]
    · have h2' := of_decide_eq_false h2
      (repeat' (first|refine at_region ?_|refine at_skip ?_|refine ax_then ?_|refine ax_blk ?_|refine atl_nil ?_|refine n_run ttok rfl rfl ?_|(apply s_bin; refine n_bin ?_)|fail))
      refine ax_roundK (i + 1) rfl ⟨by rw [Int.natCast_add]; rfl, trivial⟩ ⟨by omega, ?_⟩ (by omega) (fun _ _ h => h)
      rw [List.take_add_one, hz]
      intro hm
      rcases List.mem_append.1 hm with hm | hm
      · exact hi.2 hm
      · simp at hm; exact h2' hm.symm
  · have hil : i = l.length := by have := of_decide_eq_false h; rw [strs_len] at this; omega
    subst hil
    rw [List.take_length] at hi
    (repeat' (first|refine at_seq ?_|refine at_region ?_|refine at_ret ?_|refine at_exit ?_|refine ax_then ?_|refine ax_then_exit ?_|refine ax_blk_exit ?_|refine ax_loop_exit ?_|refine atl_nil ?_|refine n_run ttok rfl rfl ?_|fail))
    refine ax_ret1 rfl rfl ?_
    rw [Bool.eq_false_iff.2 fun h => hi.2 (hasS_iff.1 h)]
instance (l : List ByteArray) (s : ByteArray) : AD Tryz.prog 31 [.imm 1 (strs l), Str s] (Bol (hasS l s)) := ⟨names_det l s⟩

/-- may a lookup of a number be called? -/
def callN (f : FFont) (n : Int) : Bool := match f.Lookups[n.toNat]? with
  | some l => decide (0 ≤ n ∧ (l.Kind = 1 ∨ l.Kind = 2 ∨ l.Kind = 3 ∨ l.Kind = 4))
  | none => false
theorem callable_det (f : FFont) (n : Int) : ADet Tryz.prog 29 [aFont f, I64 n] (Bol (callN f n)) := by
  refine ac_of Tryz.func29 rfl Tryz.ntmps29 rfl fun B => ?_
  (repeat' (first|refine at_seq ?_|refine at_region ?_|refine ax_then ?_|refine atl_nil ?_|refine n_run ttok rfl rfl ?_|refine n_boxI ?_|fail))
  refine atl_if [1, 2] (n < 0 ∨ (f.Lookups.length : Int) ≤ n) rfl (fun Q' K => ?_) (fun hC => ?_) (fun hC => ?_)
  · (repeat' (first|refine atl_nil ?_|refine n_run ttok rfl rfl ?_|refine atl_guard_yes rfl rfl ?_|refine atl_guard_no rfl rfl rfl rfl ?_|refine atl_guard rfl rfl rfl (fun _ => ?_) (fun _ => ?_)|fail))
    all_goals exact K _ _ rfl rfl (by simp_all <;> omega)
  · (repeat' (first|refine at_seq ?_|refine at_region ?_|refine at_ret ?_|refine ax_then ?_|refine ax_then_ret ?_|refine atl_nil ?_|refine n_run ttok rfl rfl ?_|fail))
    refine ax_ret1 rfl rfl ?_
    unfold callN
    split
    · rename_i l hl
      have := (List.getElem?_eq_some_iff.1 hl).1
      rw [decide_eq_false (by omega)]
    · rfl
  · obtain ⟨l, hl⟩ : ∃ l, f.Lookups[n.toNat]? = some l := ⟨_, List.getElem?_eq_getElem (by omega)⟩
    have hlg := map_get (c := cLookup) hl
    have hcn : callN f n = decide (l.Kind = 1 ∨ l.Kind = 2 ∨ l.Kind = 3 ∨ l.Kind = 4) := by
      unfold callN
      rw [hl]
      simp only [show 0 ≤ n by omega, true_and]
    rw [hcn]
    (repeat' (first|refine at_seq ?_|refine at_region ?_|refine at_block ?_|refine at_skip ?_|refine ax_then ?_|refine atl_nil ?_|refine n_run ttok rfl rfl ?_|(apply s_index; first|refine n_index ttok ?_|refine n_indexP ttok ?_)|fail))
    refine at_cond rfl (fun h1 => ?_) (fun h1 => ?_)
    · (repeat' (first|refine at_skip ?_|refine ax_then ?_|fail))
      refine at_cond rfl (fun _ => ?_) (fun h' => absurd (h1.symm.trans h') (by decide))
      (repeat' (first|refine at_seq ?_|refine at_region ?_|refine at_ret ?_|refine ax_then ?_|refine ax_then_ret ?_|refine ax_blk_ret ?_|refine atl_nil ?_|refine n_run ttok rfl rfl ?_|fail))
      refine ax_ret1 rfl rfl ?_
      rw [decide_eq_true (Or.inl (of_decide_eq_true h1))]
    (repeat' (first|refine at_seq ?_|refine at_region ?_|refine ax_then ?_|refine atl_nil ?_|refine n_run ttok rfl rfl ?_|fail))
    refine at_cond rfl (fun h2 => ?_) (fun h2 => ?_)
    · (repeat' (first|refine at_skip ?_|refine ax_then ?_|fail))
      refine at_cond rfl (fun _ => ?_) (fun h' => absurd (h2.symm.trans h') (by decide))
      (repeat' (first|refine at_seq ?_|refine at_region ?_|refine at_ret ?_|refine ax_then ?_|refine ax_then_ret ?_|refine ax_blk_ret ?_|refine atl_nil ?_|refine n_run ttok rfl rfl ?_|fail))
      refine ax_ret1 rfl rfl ?_
      rw [decide_eq_true (Or.inr (Or.inl (of_decide_eq_true h2)))]
    (repeat' (first|refine at_seq ?_|refine at_region ?_|refine ax_then ?_|refine atl_nil ?_|refine n_run ttok rfl rfl ?_|fail))
    refine at_cond rfl (fun h3 => ?_) (fun h3 => ?_)
    · (repeat' (first|refine at_skip ?_|refine ax_then ?_|fail))
      refine at_cond rfl (fun _ => ?_) (fun h' => absurd (h3.symm.trans h') (by decide))
      (repeat' (first|refine at_seq ?_|refine at_region ?_|refine at_ret ?_|refine ax_then ?_|refine ax_then_ret ?_|refine ax_blk_ret ?_|refine atl_nil ?_|refine n_run ttok rfl rfl ?_|fail))
      refine ax_ret1 rfl rfl ?_
      rw [decide_eq_true (Or.inr (Or.inr (Or.inl (of_decide_eq_true h3))))]
    (repeat' (first|refine at_region ?_|refine ax_then ?_|refine atl_nil ?_|refine n_run ttok rfl rfl ?_|fail))
    refine at_cond rfl (fun h4 => ?_) (fun h4 => ?_)
    · (repeat' (first|refine at_seq ?_|refine at_region ?_|refine at_ret ?_|refine ax_then ?_|refine ax_then_ret ?_|refine ax_blk_ret ?_|refine atl_nil ?_|refine n_run ttok rfl rfl ?_|fail))
      refine ax_ret1 rfl rfl ?_
      rw [decide_eq_true (Or.inr (Or.inr (Or.inr (of_decide_eq_true h4))))]
    (repeat' (first|refine at_seq ?_|refine at_region ?_|refine at_skip ?_|refine at_ret ?_|refine ax_then ?_|refine ax_blk ?_|refine atl_nil ?_|refine n_run ttok rfl rfl ?_|fail))
    refine ax_ret1 rfl rfl ?_
    rw [decide_eq_false]
    intro hh
    rcases hh with hh | hh | hh | hh
    · exact of_decide_eq_false h1 hh
    · exact of_decide_eq_false h2 hh
    · exact of_decide_eq_false h3 hh
    · exact of_decide_eq_false h4 hh
instance (f : FFont) (n : Int) : AD Tryz.prog 29 [aFont f, I64 n] (Bol (callN f n)) := ⟨callable_det f n⟩
end Go.Proofs.YtpbinloeemebkaaGreat

namespace Go.Proofs.YtpbinloeemebkaaGreat
open Go.RowKit
attribute [local irreducible] AT ATL AX AO Av Kt ALoopK OkA DA DA1
def setsN (l : List (List Int)) : Nat := (l.map fun q => 1 + q.length).sum
def ruleN (r : FRule) : Nat := r.Out.length + r.Calls.length + (setsN r.Back + setsN r.In + setsN r.Ahead)
def rulesN (l : List FRule) : Nat := l.length + (l.map ruleN).sum
def glyphN (g : FGlyph) : Nat := g.Points.length + g.Parts.length + g.Anchors.length + g.Deltas.length + g.Hint.length + g.Name.size / 100
def featN (t : FFeature) : Nat := t.Lookups.length + t.Name.size / 100
def fontN (f : FFont) : Nat := f.Glyphs.length + f.Chars.length + f.Lookups.length + f.Features.length + f.Axes.length + f.Regions.length + f.Funcs.length + f.Cvt.length + (f.Glyphs.map glyphN).sum + (f.Lookups.map fun l => rulesN l.Rules).sum + (f.Funcs.map (·.length)).sum + (f.Features.map featN).sum + (f.Regions.map (·.length)).sum
/-- a font that is not big -/
def Small (f : FFont) : Prop := fontN f ≤ 2000
theorem sum_mem {α : Type} {g : α → Nat} {l : List α} {a : α} (h : a ∈ l) : g a ≤ (l.map g).sum := by
  induction l with
  | nil => cases h
  | cons b l ih =>
    rw [List.map_cons, List.sum_cons]
    rcases List.mem_cons.1 h with h | h
    · subst h; omega
    · have := ih h; omega
theorem sum_le {α : Type} {g k : α → Nat} {l : List α} (h : ∀ a ∈ l, g a ≤ k a) : (l.map g).sum ≤ (l.map k).sum := by
  induction l with
  | nil => simp
  | cons b l ih =>
    rw [List.map_cons, List.sum_cons, List.map_cons, List.sum_cons]
    have := ih fun a ha => h a (List.mem_cons_of_mem _ ha)
    have := h b (List.mem_cons_self ..)
    omega
section
variable {f : FFont} (hs : Small f)
include hs
theorem Small.glyphs : f.Glyphs.length ≤ 2000 := by unfold Small fontN at hs; omega
theorem Small.chars : f.Chars.length ≤ 2000 := by unfold Small fontN at hs; omega
theorem Small.lookups : f.Lookups.length ≤ 2000 := by unfold Small fontN at hs; omega
theorem Small.features : f.Features.length ≤ 2000 := by unfold Small fontN at hs; omega
theorem Small.feats : (f.Features.map (·.Lookups.length)).sum ≤ 2000 := by
  have := sum_le (l := f.Features) (g := fun t => t.Lookups.length) (k := featN) fun a _ => by unfold featN; omega
  unfold Small fontN at hs
  omega
theorem Small.rules {l : FLookup} (h : l ∈ f.Lookups) : rulesN l.Rules ≤ 2000 := by
  have := sum_mem (g := fun l : FLookup => rulesN l.Rules) h
  unfold Small fontN at hs
  omega
theorem Small.rulesL {l : FLookup} (h : l ∈ f.Lookups) : l.Rules.length ≤ 2000 := by
  have := hs.rules h
  unfold rulesN at this
  omega
theorem Small.rule {l : FLookup} {r : FRule} (h : l ∈ f.Lookups) (hr : r ∈ l.Rules) : ruleN r ≤ 2000 := by
  have := hs.rules h
  have := sum_mem (g := ruleN) hr
  unfold rulesN at *
  omega
theorem Small.calls {l : FLookup} {r : FRule} (h : l ∈ f.Lookups) (hr : r ∈ l.Rules) : r.Calls.length ≤ 2000 := by
  have := hs.rule h hr
  unfold ruleN at this
  omega
theorem Small.out {l : FLookup} {r : FRule} (h : l ∈ f.Lookups) (hr : r ∈ l.Rules) : r.Out.length ≤ 2000 := by
  have := hs.rule h hr
  unfold ruleN at this
  omega
end
/-- the lookups that can be done -/
inductive Reach (f : FFont) (fs : List ByteArray) : Int → Prop
  | base {t : FFeature} {n : Int} (h : t ∈ f.Features) (hn : hasS fs t.Name = true) (hm : n ∈ t.Lookups) (h0 : 0 ≤ n) (h1 : n < f.Lookups.length) : Reach f fs n
  | call {m : Int} {l : FLookup} {r : FRule} {c : FCall} (h : Reach f fs m) (hl : f.Lookups[m.toNat]? = some l) (hk : l.Kind = 4) (hr : r ∈ l.Rules) (hc : c ∈ r.Calls) (hn : callN f c.Lookup = true) : Reach f fs c.Lookup
theorem callN_in {f : FFont} {n : Int} (h : callN f n = true) : 0 ≤ n ∧ n < f.Lookups.length := by
  unfold callN at h
  split at h
  · rename_i l hl
    have := (List.getElem?_eq_some_iff.1 hl).1
    have := of_decide_eq_true h
    omega
  · cases h
theorem Reach.in {f : FFont} {fs : List ByteArray} {n : Int} (h : Reach f fs n) : 0 ≤ n ∧ n < f.Lookups.length := by
  cases h with
  | base _ _ _ h0 h1 => exact ⟨h0, h1⟩
  | call _ _ _ _ _ h => exact callN_in h
theorem setN_mem {l : List Int} {n : Nat} {z : Int} : z ∈ setN l n ↔ z ∈ l ∧ 0 ≤ z ∧ z < n := by
  unfold setN
  rw [List.mem_filter, List.mem_map]
  constructor
  · rintro ⟨⟨i, hi, rfl⟩, h⟩
    rw [List.mem_range] at hi
    refine ⟨by simpa using h, by simp, by simpa using hi⟩
  · rintro ⟨h, h0, h1⟩
    exact ⟨⟨z.toNat, by rw [List.mem_range]; omega, by simp; omega⟩, by simpa using h⟩
theorem setN_nodup (l : List Int) (n : Nat) : (setN l n).Nodup := by
  unfold setN
  rw [List.nodup_iff_pairwise_ne]
  refine List.Pairwise.filter _ ?_
  rw [List.pairwise_map]
  exact (List.nodup_iff_pairwise_ne.1 List.nodup_range).imp fun h e => h (by injection e)
theorem setN_congr {l k : List Int} {n : Nat} (h : ∀ z : Int, 0 ≤ z → z < n → (z ∈ l ↔ z ∈ k)) : setN l n = setN k n := by
  unfold setN
  refine List.filter_congr fun z hz => ?_
  rw [List.mem_map] at hz
  obtain ⟨i, hi, rfl⟩ := hz
  rw [List.mem_range] at hi
  have := h (Int.ofNat i) (by simp) (by simpa using hi)
  rw [Bool.eq_iff_iff, List.contains_iff_mem, List.contains_iff_mem]
  exact this
open Classical in
/-- the lookups that can be done, rising -/
noncomputable def reachN (f : FFont) (fs : List ByteArray) : List Int := ((List.range f.Lookups.length).map Int.ofNat).filter fun z => decide (Reach f fs z)
open Classical in
theorem setN_reach {f : FFont} {fs : List ByteArray} {l : List Int} (h : ∀ z : Int, 0 ≤ z → z < f.Lookups.length → (z ∈ l ↔ Reach f fs z)) : setN l f.Lookups.length = reachN f fs := by
  unfold setN reachN
  refine List.filter_congr fun z hz => ?_
  rw [List.mem_map] at hz
  obtain ⟨i, hi, rfl⟩ := hz
  rw [List.mem_range] at hi
  have := h (Int.ofNat i) (by simp) (by simpa using hi)
  rw [Bool.eq_iff_iff, List.contains_iff_mem, decide_eq_true_iff]
  exact this
theorem nodup_le {l : List Int} {n : Nat} (h : l.Nodup) (hi : ∀ z ∈ l, 0 ≤ z ∧ z < n) : l.length ≤ n := by
  induction n generalizing l with
  | zero =>
    cases l with
    | nil => exact Nat.zero_le _
    | cons a l => have := hi a (List.mem_cons_self ..); omega
  | succ n ih =>
    by_cases hm : (n : Int) ∈ l
    · have h1 := ih (l := l.erase n) (h.erase _) fun z hz => by
        have := (h.mem_erase_iff).1 hz
        have := hi z this.2
        omega
      rw [List.length_erase_of_mem hm] at h1
      omega
    · have := ih h fun z hz => by
        have := hi z hz
        have : z ≠ n := fun e => hm (e ▸ hz)
        omega
      omega
end Go.Proofs.YtpbinloeemebkaaGreat

namespace Go.Proofs.YtpbinloeemebkaaGreat
open Go.RowKit Go.MapKept
/-- what a map holds -/
def MapIs (d : TypeDesc) (m : Value → Option AV) (σ : Mem) (o : Obj) : Prop :=
  ∃ es clock, o = .map es clock ∧ (∀ x ∈ es.toList, IsKey d x.key ∧ ∃ c, m x.key = some c ∧ VR σ c x.val) ∧ es.toList.Pairwise (fun x y => x.key ≠ y.key) ∧ ∀ k c, m k = some c → ∃ x ∈ es.toList, x.key = k
def mapB (d : TypeDesc) (m : Value → Option AV) : AB := .dep (MapIs d m) fun σ τ o hle ⟨es, clock, h1, h2, h3, h4⟩ => ⟨es, clock, h1, fun x hx => by
  obtain ⟨a, c, e, f⟩ := h2 x hx
  exact ⟨a, c, e, f.mono hle⟩, h3, h4⟩
theorem MapIs.none {d : TypeDesc} {m : Value → Option AV} {σ : Mem} {es : Array MapEntry} {clock : Nat} {k : Value} (h : MapIs d m σ (.map es clock)) (hk : IsKey d k) (hm : m k = none) : Instr.findNow d k es.toList 0 = some none := by
  obtain ⟨es', clock', h1, h2, h3, h4⟩ := h
  cases h1
  rcases findNow_spec hk es.toList 0 (fun x hx => (h2 x hx).1) with ⟨h5, _⟩ | ⟨j, e, h5, h6, h7⟩
  · exact h5
  · obtain ⟨_, c, h8, _⟩ := h2 e (List.mem_of_getElem? h6)
    rw [h7, hm] at h8
    cases h8
theorem MapIs.some {d : TypeDesc} {m : Value → Option AV} {σ : Mem} {es : Array MapEntry} {clock : Nat} {k : Value} {c : AV} (h : MapIs d m σ (.map es clock)) (hk : IsKey d k) (hm : m k = some c) : ∃ (j : Nat) (e : MapEntry), Instr.findNow d k es.toList 0 = some (some (j, e.val)) ∧ es[j]? = some e ∧ e.key = k ∧ VR σ c e.val := by
  obtain ⟨es', clock', h1, h2, h3, h4⟩ := h
  cases h1
  rcases findNow_spec hk es.toList 0 (fun x hx => (h2 x hx).1) with ⟨_, h5⟩ | ⟨j, e, h5, h6, h7⟩
  · obtain ⟨x, hx, hk'⟩ := h4 k c hm
    exact absurd hk' (h5 x hx)
  · obtain ⟨_, c', h8, h9⟩ := h2 e (List.mem_of_getElem? h6)
    rw [h7, hm] at h8
    cases h8
    exact ⟨j, e, by simpa using h5, by simpa using h6, h7, h9⟩
section
variable {P : Program} {fr : AFr} {B : Bs} {L : AL} {d : Option Tmp} {ty t : TypeId} {pos : String} {af : Array Edge} {g : Option (Nat × Bool)} {x y z : Operand} {u : AV}
theorem ao_makeMap (kd : TypeDesc) : AO P ⟨d, .makeMap t none, ty, pos, af, g⟩ fr B L (fun c L' => ∃ b, c = .sc (.map (some b)) ∧ L' = (b, mapB kd fun _ => none) :: L) := by
  intro σ ρ w hρ hw
  have hr : (execOp ρ ⟨d, .makeMap t none, ty, pos, af, g⟩).run P w = .ok (.value (.map (some w.heap.size))) (w.alloc (.map #[] 0)) := by
    simp [execOp, Instr.makeMap]
  unfold Op1
  rw [hr]
  exact ⟨σ, _, _, Mem.le_refl _, .sc _, hw.alloc _ (mapB kd fun _ => Option.none) ⟨#[], 0, rfl, by simp, by simp, by simp⟩, _, rfl, rfl⟩
theorem ao_mapUpdate (i : Nat) {b kt et : Nat} {kd : TypeDesc} {k : Value} {m m' : Value → Option AV} (ht : P.underlying t = some (.map kt et)) (hkt : P.underlying kt = some kd) (hx : aev fr x = some (.sc (.map (some b)))) (hy : aev fr y = some (.sc k)) (hk : IsKey kd k) (hz : aev fr z = some u) (hL : L[i]? = some (b, mapB kd m)) (h1 : m' k = some u) (h2 : ∀ q, q ≠ k → m' q = m q) :
    AO P ⟨d, .mapUpdate t x y z, ty, pos, af, g⟩ fr B L (fun _ L' => L' = aput L i (mapB kd m')) := by
  intro σ ρ w hρ hw
  obtain ⟨o, ho, hM⟩ := hw.here _ (List.mem_of_getElem? hL)
  have hM' : MapIs kd m σ o := hM
  obtain ⟨es, clock, rfl, h3, h4, h5⟩ := hM'
  have hM' : MapIs kd m σ (.map es clock) := hM
  have hv := hρ z u hz
  have hlt : b < w.heap.size := (Array.getElem?_eq_some_iff.1 ho).1
  have key : ∃ es' clock', (Instr.mapUpdate t (.map (some b)) k (ρ z)).run P w = .ok () (w.putObj b (.map es' clock')) ∧ MapIs kd m' σ (.map es' clock') := by
    cases hm : m k with
    | none =>
      refine ⟨es.push ⟨k, ρ z, clock⟩, clock + 1, ?_, _, _, rfl, ?_, ?_, ?_⟩
      · simp [Instr.mapUpdate, run_underlying ht, MapKept.run_getObj_map ho, run_checkKey hkt hk, run_findKey hkt (hM'.none hk hm), MapKept.run_setObj_map _ ho, Result.andThen, World.putObj]
      · intro e he
        rw [Array.toList_push, List.mem_append, List.mem_singleton] at he
        rcases he with he | rfl
        · obtain ⟨h6, c, h7, h8⟩ := h3 e he
          exact ⟨h6, c, by rw [h2 _ (fun e1 => by rw [e1, hm] at h7; cases h7)]; exact h7, h8⟩
        · exact ⟨hk, u, h1, hv⟩
      · rw [Array.toList_push, List.pairwise_append]
        refine ⟨h4, by simp, fun e he e' he' => ?_⟩
        rw [List.mem_singleton] at he'
        subst he'
        obtain ⟨_, c, h7, _⟩ := h3 e he
        exact fun e1 => by rw [e1, hm] at h7; cases h7
      · intro q c hq
        by_cases e : q = k
        · subst e
          exact ⟨_, by rw [Array.toList_push]; exact List.mem_append.2 (Or.inr (List.mem_singleton.2 rfl)), rfl⟩
        · rw [h2 q e] at hq
          obtain ⟨y, hy, hy'⟩ := h5 q c hq
          exact ⟨y, by rw [Array.toList_push]; exact List.mem_append.2 (Or.inl hy), hy'⟩
    | some c =>
      obtain ⟨j, e, h6, h7, h8, h9⟩ := hM'.some hk hm
      have hdis : ∀ n e', es[n]? = some e' → ¬ j = n → e'.key ≠ k := by
        intro n e' hn hne
        rw [← Array.getElem?_toList] at hn h7
        rw [← h8]
        rw [List.pairwise_iff_getElem] at h4
        obtain ⟨hj1, hj2⟩ := List.getElem?_eq_some_iff.1 h7
        obtain ⟨hn1, hn2⟩ := List.getElem?_eq_some_iff.1 hn
        rcases Nat.lt_or_gt_of_ne hne with hlt | hgt
        · have := h4 j n hj1 hn1 hlt
          rw [hj2, hn2] at this
          exact this.symm
        · have := h4 n j hn1 hj1 hgt
          rw [hj2, hn2] at this
          exact this
      refine ⟨es.modify j (fun e' => { e' with key := k, val := ρ z }), clock, ?_, _, _, rfl, ?_, ?_, ?_⟩
      · simp [Instr.mapUpdate, run_underlying ht, MapKept.run_getObj_map ho, run_checkKey hkt hk, run_findKey hkt h6, h7, h8, run_keyThatStays hk, MapKept.run_setObj_map _ ho, Result.andThen, World.putObj]
      · intro e' he'
        obtain ⟨n, hn⟩ := List.mem_iff_getElem?.1 he'
        rw [Array.getElem?_toList, Array.getElem?_modify] at hn
        by_cases e1 : j = n
        · subst e1
          rw [if_pos rfl, h7] at hn
          simp at hn
          subst hn
          exact ⟨hk, u, h1, hv⟩
        · rw [if_neg e1] at hn
          obtain ⟨h10, c', h11, h12⟩ := h3 e' (List.mem_of_getElem? (by rw [Array.getElem?_toList]; exact hn))
          exact ⟨h10, c', by rw [h2 _ (hdis n e' hn e1)]; exact h11, h12⟩
      · have hkeys : (es.modify j (fun e' => { e' with key := k, val := ρ z })).toList.map MapEntry.key = es.toList.map MapEntry.key := by
          apply List.ext_getElem?
          intro n
          rw [List.getElem?_map, List.getElem?_map, Array.getElem?_toList, Array.getElem?_toList, Array.getElem?_modify]
          by_cases e1 : j = n
          · subst e1
            rw [if_pos rfl, h7]
            simp [h8]
          · rw [if_neg e1]
        refine (List.pairwise_map (f := MapEntry.key) (R := fun a b : Value => a ≠ b)).1 ?_
        rw [hkeys]
        exact List.pairwise_map.2 h4
      · intro q c hq
        by_cases e1 : q = k
        · subst e1
          refine ⟨{ e with key := q, val := ρ z }, List.mem_iff_getElem?.2 ⟨j, ?_⟩, rfl⟩
          rw [Array.getElem?_toList, Array.getElem?_modify, if_pos rfl, h7]
          rfl
        · rw [h2 q e1] at hq
          obtain ⟨y, hy, hy'⟩ := h5 q c hq
          obtain ⟨n, hn⟩ := List.mem_iff_getElem?.1 hy
          rw [Array.getElem?_toList] at hn
          refine ⟨y, List.mem_iff_getElem?.2 ⟨n, ?_⟩, hy'⟩
          rw [Array.getElem?_toList, Array.getElem?_modify, if_neg, hn]
          intro e2
          subst e2
          rw [h7] at hn
          injection hn with hn
          subst hn
          exact e1 (hy'.symm.trans h8)
  obtain ⟨es', clock', hr, hq⟩ := key
  unfold Op1
  rw [show (execOp ρ ⟨d, .mapUpdate t x y z, ty, pos, af, g⟩).run P w = .ok .skip (w.putObj b (.map es' clock')) by simp only [execOp, (hρ x _ hx).sc_inv, (hρ y _ hy).sc_inv, Sem.run_bind, Sem.run_pure, Result.andThen, hr]]
  exact ⟨σ, .sc undef, _, Mem.le_refl _, .sc _, hw.putAt (a' := mapB kd m') hL (fun _ => trivial) (grownBy_put w b _) (World.putObj_heap_same hlt) hq, rfl⟩
theorem run_lookup {w : World} {b kt et : Nat} {kd : TypeDesc} {k v0 : Value} {m : Value → Option AV} {es : Array MapEntry} {clock : Nat} {σ : Mem} (ht : P.underlying t = some (.map kt et)) (hkt : P.underlying kt = some kd) (hk : IsKey kd k) (ho : w.heap[b]? = some (.map es clock)) (hM : MapIs kd m σ (.map es clock)) (hz : (zeroValue et).run P w = .ok v0 w) (ok : Bool) :
    ∃ v, (Instr.lookup t (.map (some b)) k ok).run P w = .ok (bif ok then .tuple #[v, .bool (m k).isSome] else v) w ∧ match m k with | some c => VR σ c v | none => v = v0 := by
  cases hm : m k with
  | none =>
    refine ⟨v0, ?_, rfl⟩
    cases ok <;> simp [Instr.lookup, run_underlying ht, MapKept.run_getObj_map ho, run_checkKey hkt hk, run_findKey hkt (hM.none hk hm), Result.andThen, hz]
  | some c =>
    obtain ⟨j, e, h6, h7, h8, h9⟩ := hM.some hk hm
    refine ⟨e.val, ?_, h9⟩
    cases ok <;> simp [Instr.lookup, run_underlying ht, MapKept.run_getObj_map ho, run_checkKey hkt hk, run_findKey hkt h6, Result.andThen]
theorem ao_lookup (i : Nat) {b kt et : Nat} {kd : TypeDesc} {k v0 : Value} {m : Value → Option AV} {c0 : AV} (ht : P.underlying t = some (.map kt et)) (hkt : P.underlying kt = some kd) (hx : aev fr x = some (.sc (.map (some b)))) (hy : aev fr y = some (.sc k)) (hk : IsKey kd k) (hL : L[i]? = some (b, mapB kd m)) (hz : ∀ w, (zeroValue et).run P w = .ok v0 w) (h0 : ∀ σ, VR σ c0 v0) :
    AO P ⟨d, .lookup t x y false, ty, pos, af, g⟩ fr B L (fun c L' => c = (m k).getD c0 ∧ L' = L) := by
  intro σ ρ w hρ hw
  obtain ⟨o, ho, hM⟩ := hw.here _ (List.mem_of_getElem? hL)
  have hM' : MapIs kd m σ o := hM
  obtain ⟨es, clock, rfl, _⟩ := hM'
  obtain ⟨v, hr, hv⟩ := run_lookup (t := t) ht hkt hk ho hM (hz w) false
  unfold Op1
  rw [show (execOp ρ ⟨d, .lookup t x y false, ty, pos, af, g⟩).run P w = .ok (.value v) w by simp only [execOp, (hρ x _ hx).sc_inv, (hρ y _ hy).sc_inv, Sem.run_bind, Sem.run_pure, Result.andThen, hr]; rfl]
  refine ⟨σ, (m k).getD c0, _, Mem.le_refl _, ?_, hw, rfl, rfl⟩
  cases hm : m k with
  | none => rw [hm] at hv; dsimp only at hv; subst hv; exact h0 σ
  | some c => rw [hm] at hv; exact hv
theorem ao_lookup2 (i : Nat) {b kt et : Nat} {kd : TypeDesc} {k v0 : Value} {m : Value → Option AV} {c0 : AV} (ht : P.underlying t = some (.map kt et)) (hkt : P.underlying kt = some kd) (hx : aev fr x = some (.sc (.map (some b)))) (hy : aev fr y = some (.sc k)) (hk : IsKey kd k) (hL : L[i]? = some (b, mapB kd m)) (hz : ∀ w, (zeroValue et).run P w = .ok v0 w) (h0 : ∀ σ, VR σ c0 v0) :
    AO P ⟨d, .lookup t x y true, ty, pos, af, g⟩ fr B L (fun c L' => c = .tup [(m k).getD c0, .sc (.bool (m k).isSome)] ∧ L' = L) := by
  intro σ ρ w hρ hw
  obtain ⟨o, ho, hM⟩ := hw.here _ (List.mem_of_getElem? hL)
  have hM' : MapIs kd m σ o := hM
  obtain ⟨es, clock, rfl, _⟩ := hM'
  obtain ⟨v, hr, hv⟩ := run_lookup (t := t) ht hkt hk ho hM (hz w) true
  unfold Op1
  rw [show (execOp ρ ⟨d, .lookup t x y true, ty, pos, af, g⟩).run P w = .ok (.value (.tuple #[v, .bool (m k).isSome])) w by simp only [execOp, (hρ x _ hx).sc_inv, (hρ y _ hy).sc_inv, Sem.run_bind, Sem.run_pure, Result.andThen, hr]; rfl]
  refine ⟨σ, .tup [(m k).getD c0, .sc (.bool (m k).isSome)], _, Mem.le_refl _, ?_, hw, rfl, rfl⟩
  have h1 : VR σ ((m k).getD c0) v := by
    cases hm : m k with
    | none => rw [hm] at hv; dsimp only at hv; subst hv; exact h0 σ
    | some c => rw [hm] at hv; exact hv
  have h2 : VRs σ [(m k).getD c0, .sc (.bool (m k).isSome)] [v, .bool (m k).isSome] := .cons h1 (.cons (.sc _) .nil)
  exact .tup _ _ h2.1 h2.2
def zeroIs (P : Program) (e : Nat) (v : Value) : Bool := match P.info? e with | some i => (match i.zero with | some z => zeroB z v | none => false) | none => false
theorem zeroIs_spec {e : Nat} {v : Value} (h : zeroIs P e v = true) (w : World) : (zeroValue e).run P w = .ok v w := by
  unfold zeroIs at h
  split at h
  · rename_i i hi
    split at h
    · rename_i z hz
      rw [← zeroB_spec h]
      simp [zeroValue, typeInfo, hi, hz]
    · cases h
  · cases h
end
section
variable {P : Program} {r : Option Nat} {ops : Array Oper} {Q : Exit → Act → World → Prop} {nt : Nat} {D : List Deferred} {fr : AFr} {B : Bs} {L : AL} {rest : List Oper} {d : Nat} {ty t : TypeId} {pos : String} {af : Array Edge} {x y z : Operand} {u : AV}
theorem n_makeMap (kd : TypeDesc) (h : ∀ b, ATL P r ops Q nt D rest ((d, .sc (.map (some b))) :: fr) B ((b, mapB kd fun _ => none) :: L)) (hd : Nat.ble nt d = false := by rfl) : ATL P r ops Q nt D (⟨some d, .makeMap t none, ty, pos, af, none⟩ :: rest) fr B L :=
  atl_op hd rfl (ao_makeMap kd) fun c L' ⟨b, h1, h2⟩ => by subst h1; subst h2; exact h b
theorem n_mapUpdate (i : Nat) (m' : Value → Option AV) {b kt et : Nat} {kd : TypeDesc} {k : Value} {m : Value → Option AV} (ht : P.underlying t = some (.map kt et)) (hkt : P.underlying kt = some kd) (hx : aev fr x = some (.sc (.map (some b)))) (hy : aev fr y = some (.sc k)) (hk : IsKey kd k) (hz : aev fr z = some u) (hL : L[i]? = some (b, mapB kd m)) (h1 : m' k = some u) (h2 : ∀ q, q ≠ k → m' q = m q)
    (h : ATL P r ops Q nt D rest fr B (aput L i (mapB kd m'))) : ATL P r ops Q nt D (⟨none, .mapUpdate t x y z, ty, pos, af, none⟩ :: rest) fr B L :=
  atl_unit rfl (ao_mapUpdate i ht hkt hx hy hk hz hL h1 h2) fun c L' h3 => by subst h3; exact h
theorem n_lookup (i : Nat) (v0 : Value) {b kt et : Nat} {kd : TypeDesc} {k : Value} {m : Value → Option AV} (ht : P.underlying t = some (.map kt et)) (hkt : P.underlying kt = some kd) (hx : aev fr x = some (.sc (.map (some b)))) (hy : aev fr y = some (.sc k)) (hk : IsKey kd k) (hL : L[i]? = some (b, mapB kd m)) (hz : zeroIs P et v0 = true) (hd : Nat.ble nt d = false)
    (h : ATL P r ops Q nt D rest ((d, (m k).getD (.sc v0)) :: fr) B L) : ATL P r ops Q nt D (⟨some d, .lookup t x y false, ty, pos, af, none⟩ :: rest) fr B L :=
  atl_op hd rfl (ao_lookup i ht hkt hx hy hk hL (zeroIs_spec hz) fun _ => .sc _) fun c L' ⟨h1, h2⟩ => by subst h1; subst h2; exact h
theorem n_lookup2 (i : Nat) (v0 : Value) {b kt et : Nat} {kd : TypeDesc} {k : Value} {m : Value → Option AV} (ht : P.underlying t = some (.map kt et)) (hkt : P.underlying kt = some kd) (hx : aev fr x = some (.sc (.map (some b)))) (hy : aev fr y = some (.sc k)) (hk : IsKey kd k) (hL : L[i]? = some (b, mapB kd m)) (hz : zeroIs P et v0 = true) (hd : Nat.ble nt d = false)
    (h : ATL P r ops Q nt D rest ((d, .tup [(m k).getD (.sc v0), .sc (.bool (m k).isSome)]) :: fr) B L) : ATL P r ops Q nt D (⟨some d, .lookup t x y true, ty, pos, af, none⟩ :: rest) fr B L :=
  atl_op hd rfl (ao_lookup2 i ht hkt hx hy hk hL (zeroIs_spec hz) fun _ => .sc _) fun c L' ⟨h1, h2⟩ => by subst h1; subst h2; exact h
end
end Go.Proofs.YtpbinloeemebkaaGreat
