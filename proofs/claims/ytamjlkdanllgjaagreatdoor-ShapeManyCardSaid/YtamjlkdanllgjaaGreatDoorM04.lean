/-
  Structs and arrays that are built; checks for nil; fields of values; arrays.
-/
import Derived.Test.YtamjlkdanllgjaaGreatDoorM03
import Derived.Laws.Tables
import Derived.RangeFuncNested
import Derived.RangeFuncLeaves
namespace Go.Proofs.YtamjlkdanllgjaaGreatDoor
open Go.RowKit
def pc (pl : Nat → Option (Nat × Nat)) (z : List AV) : List (Nat × AV) → Option (List AV)
 | [] => some z
 | (i, c) :: r => match pl i with
  | none => none
  | some (off, n) => match c.cells with
   | none => none
   | some ys => bif Nat.beq ys.length n && Nat.ble (off + n) z.length then pc pl (ew z off ys) r else none
theorem nD {σ : bT} {pl : Nat → Option (Nat × Nat)} : ∀ {is : List Nat} {cs z out : List AV} {vs zc : List Value}, cz σ cs vs → cz σ z zc → (∀ u ∈ zc, u.oneCell' = true) → pc pl z (is.zip cs) = some out → ∃ oc : List Value, Instr.fill pl zc.toArray (is.zip vs) = some oc.toArray ∧ cz σ out oc ∧ ∀ u ∈ oc, u.oneCell' = true
 | [], cs, z, out, vs, zc, _, hz, h1, h => by
  simp only [List.zip_nil_left, pc, Option.some.injEq] at h
  subst h
  exact ⟨zc, by simp [Instr.fill], hz, h1⟩
 | i :: is, [], z, out, vs, zc, hc, hz, h1, h => by
  rw [hc.nil_inv]
  simp only [List.zip_nil_right, pc, Option.some.injEq] at h ⊢
  subst h
  exact ⟨zc, by simp [Instr.fill], hz, h1⟩
 | i :: is, c :: cs, z, out, vs, zc, hc, hz, h1, h => by
  obtain ⟨v, ws, rfl, hv, hs⟩ := hc.inv
  simp only [List.zip_cons_cons, pc] at h ⊢
  cases hp : pl i with
  | none => rw [hp] at h; cases h
  | some q =>
   obtain ⟨off, n⟩ := q
   rw [hp] at h
   simp only at h
   cases hcc : c.cells with
   | none => rw [hcc] at h; cases h
   | some ys =>
    rw [hcc] at h
    simp only at h
    cases hb : (Nat.beq ys.length n && Nat.ble (off + n) z.length) with
    | false => rw [hb] at h; cases h
    | true =>
     rw [hb] at h
     simp only [cond_true] at h
     simp only [Bool.and_eq_true, Nat.beq_eq, Nat.ble_eq] at hb
     obtain ⟨k1, k2⟩ := hv.cells hcc
     have hl1 := k1.1
     have hl2 := hz.1
     have hvs : v.cells.size = n := by rw [← hb.1, hl1]; simp
     obtain ⟨f1, f2⟩ := lB off v.cells.toList 0 zc.toArray
     have ef : v.cells.zipIdx.foldl (fun (cs : Array Value) (x : Value × Nat) => cs.setIfInBounds (off + x.2) x.1) zc.toArray = (v.cells.toList.zipIdx 0).foldl (fun (a : Array Value) (p : Value × Nat) => a.setIfInBounds (off + p.2) p.1) zc.toArray := by
      rw [← Array.foldl_toList, Array.toList_zipIdx]
     generalize (v.cells.toList.zipIdx 0).foldl (fun (a : Array Value) (p : Value × Nat) => a.setIfInBounds (off + p.2) p.1) zc.toArray = A at *
     have hA : cz σ (ew z off ys) A.toList := by
      refine ⟨by rw [gL]; simp [f1, hl2], fun j c' u hc' hu => ?_⟩
      have hu' : A[j]? = some u := by simpa using hu
      rw [f2 j] at hu'
      rw [ea _ _ _ _ (by omega)] at hc'
      simp only [List.size_toArray, Nat.add_zero, List.getElem?_toArray] at hu'
      by_cases hj : off ≤ j ∧ j < off + ys.length
      ·rw [if_pos hj] at hc'
       rw [if_pos (by omega)] at hu'
       exact k1.2 _ c' u hc' hu'
      ·rw [if_neg hj] at hc'
       rw [if_neg (by omega)] at hu'
       exact hz.2 j c' u hc' hu'
     have hA1 : ∀ u ∈ A.toList, u.oneCell' = true := fun u hu => by
      obtain ⟨j, hj, rfl⟩ := List.getElem_of_mem hu
      have hu' : A[j]? = some (A.toList[j]) := by rw [← Array.getElem?_toList]; exact Eg hj
      rw [f2 j] at hu'
      split at hu'
      ·exact k2 _ (Hx hu')
      ·exact h1 _ (Hx (by simpa using hu'))
     obtain ⟨oc, o1, o2, o3⟩ := nD hs hA hA1 h
     refine ⟨oc, ?_, o2, o3⟩
     simp only [Instr.fill, hp]
     rw [if_neg (by simp [hvs]; omega), ef]
     simpa using o1
def lC : List AV → Option (List AV)
 | [] => some []
 | v :: r => match lC r with
  | some q => some (v :: q)
  | none => none
theorem pj : ∀ {l q : List AV}, lC l = some q → q = l
 | [], q, h => by simp [lC] at h; exact h
 | v :: r, q, h => by
  simp only [lC] at h
  cases hr : lC r with
  | none => rw [hr] at h; cases h
  | some q' => rw [hr] at h; injection h with h; rw [← h, pj hr]
def qz (ti : TI) (i : Nat) : Option (Nat × Nat) := match ti.k with
 | .struct offs => match offs[i]? with
  | some (o, s, _) => some (o, s)
  | none => none
 | .arr _ _ sz => some (i * sz, sz)
 | _ => none
def sU (ti : TI) (parts : List (Nat × AV)) : Option (List AV) := match pc (qz ti) (ti.zero.map .sc) parts with
 | some cs => lC cs
 | none => none
theorem ma {P : Program} : ∀ (fs : List Field) (r : List (Nat × Nat × Bool)), jd P fs r = true → fs.mapM (fun f => (P.info? f.type).map fun i => (f.offset, i.size)) = some (r.map fun q => (q.1, q.2.1))
 | [], [], _ => rfl
 | x :: fs, (o', s', b') :: r, h => by
  simp only [jd, Bool.and_eq_true, Nat.beq_eq] at h
  obtain ⟨⟨⟨⟨h1, h2⟩, _⟩, _⟩, h5⟩ := h
  unfold mx at h2
  split at h2
  ·rename_i i hi
   rw [Nat.beq_eq] at h2
   simp [List.mapM_cons, hi, ma fs r h5, h1, h2]
  ·cases h2
 | [], _ :: _, h => by cases h
 | _ :: _, [], h => by cases h
theorem dG.built {P : Program} {tt : TT} (ok : dG P tt) {t : Nat} {ti : TI} (h : cX tt t = some ti) (hk : ti.k.agg = true) (parts : List (Nat × Value)) : P.built t parts = Instr.fill (qz ti) ti.zero.toArray parts := by
 have h0 := ok.ok t ti h
 simp only [wM, Bool.and_eq_true] at h0
 obtain ⟨⟨_, h1⟩, h2⟩ := h0
 unfold Program.built
 split at h1
 ·rename_i i hi
  split at h1
  ·rename_i z hz
   have hzz := j9 h1
   have hz' : z.cells = ti.zero.toArray := by rw [← hzz]
   split at h2
   all_goals try (cases hq : ti.k <;> rw [hq] at h2 hk <;> simp_all [TK.agg]; done)
   ·rename_i fs hu
    cases hq : ti.k with
    | struct offs =>
     rw [hq] at h2
     simp only [hi, hu, hz, ma _ _ h2, hz']
     congr 1
     funext x
     simp [qz, hq]
     cases offs[x]? <;> rfl
    | _ => rw [hq] at h2; cases h2
   ·rename_i n e hu
    cases hq : ti.k with
    | arr n' e' sz =>
     rw [hq] at h2
     simp only [Bool.and_eq_true, Nat.beq_eq] at h2
     obtain ⟨⟨_, rfl⟩, h3⟩ := h2
     unfold mx at h3
     split at h3
     ·rename_i j hj
      rw [Nat.beq_eq] at h3
      simp only [hi, hu, hz, hj, hz', h3]
      congr 1
      funext x
      simp [qz, hq]
     ·cases h3
    | _ => rw [hq] at h2; cases h2
   ·cases h2
  ·cases h1
 ·cases h1
section
variable {P : Program} {tt : TT} {fr : bJ} {B : Bs} {L : AL} {d : Option Tmp} {ty t t' : TypeId} {pos : String} {af : Array Edge} {g : Option (Nat × Bool)} {x y : Operand} {u : AV}
theorem zZ (ok : dG P tt) {ti : TI} {parts : Array (Nat × Operand)} {vs out : List AV} (ht : cX tt t = some ti) (hk : ti.k.agg = true) (hz1 : ti.zero.all (·.oneCell') = true) (hv : dZ fr (parts.toList.map (·.2)) = some vs) (hb : sU ti ((parts.toList.map (·.1)).zip vs) = some out) : Av P ⟨d, .build t parts, ty, pos, af, g⟩ fr (.agg out) := by
 intro σ ρ w hρ _
 have hvs := e6 hρ _ _ hv
 generalize hws : (parts.toList.map (·.2)).map ρ = ws at *
 have e1 : parts.map (fun p => (p.1, ρ p.2)) = ((parts.toList.map (·.1)).zip ws).toArray := by
  apply Array.toList_inj.1
  rw [← hws]
  simp only [Array.toList_map, List.map_map]
  induction parts.toList with
  | nil => rfl
  | cons p l ih => simp only [Hr, List.zip_cons_cons, ih]; rfl
 unfold sU at hb
 split at hb
 ·rename_i cs hf
  have := pj hb
  subst this
  have hz : cz σ (ti.zero.map .sc) ti.zero := ⟨by simp, fun i c u hc hu => by
   rw [List.getElem?_map, hu] at hc
   simp at hc
   subst hc
   exact .sc u⟩
  obtain ⟨oc, o1, o2, o3⟩ := nD hvs hz (fun u hu => List.all_eq_true.1 hz1 u hu) hf
  refine ⟨.agg oc.toArray, ?_, .agg _ _ o2.1 o2.2 o3⟩
  have hr := run_build (P := P) w t ((parts.toList.map (·.1)).zip ws).toArray oc.toArray (by rw [ok.built ht hk]; simpa using o1)
  simp only [execOp]
  rw [e1]
  simp [hr]
 ·cases hb
theorem CY {a : Addr} (hx : bh fr x = some (.sc (.pointer (some a)))) : Av P ⟨d, .nilCheck x, ty, pos, af, g⟩ fr (.sc (.pointer (some a))) :=
 dB fun ρ w hρ => by simp [execOp, hρ _ _ hx]
theorem CX {cs : List AV} (hx : bh fr x = some (.iptr cs)) : Av P ⟨d, .nilCheck x, ty, pos, af, g⟩ fr (.iptr cs) := fun σ ρ w hρ _ => by
 have h := hρ x _ hx
 obtain ⟨b, off, hv, _⟩ := h.iptr_inv
 exact ⟨ρ x, by simp [execOp, hv], h⟩
theorem CW {f : FuncId} {cs : List AV} (hx : bh fr x = some (.fn f cs)) : Av P ⟨d, .nilCheck x, ty, pos, af, g⟩ fr (.fn f cs) := fun σ ρ w hρ _ => by
 have h := hρ x _ hx
 obtain ⟨vs, hv, _⟩ := h.fn_inv
 exact ⟨ρ x, by simp [execOp, hv], h⟩
theorem A3 (ok : dG P tt) {s f o z : Nat} {b : Bool} {ti : TI} {offs : List (Nat × Nat × Bool)} {cs : List AV} (ht : cX tt s = some ti) (hk : ti.k = .struct offs) (hf : offs[f]? = some (o, z, b)) (hx : bh fr x = some (.agg cs)) (hu : (bif b then (bif Nat.ble (o + z) cs.length then some (.agg ((cs.drop o).take z)) else none) else cs[o]?) = some u) : Av P ⟨d, .field s x f, ty, pos, af, g⟩ fr u := by
 intro σ ρ w hρ _
 obtain ⟨vs, hv, hs, h1⟩ := (hρ x _ hx).agg_inv
 obtain ⟨_, fl, fs, hus, hfl, hoff, hsz, hag⟩ := ok.fd ht hk hf
 have hszr : (sizeOf fl.type).run P w = .ok z w := by
  cases hq : P.info? fl.type with
  | none => rw [hq] at hsz; cases hsz
  | some i => rw [hq] at hsz; simp only [Option.map_some, Option.some.injEq] at hsz; simp [sizeOf, typeInfo, hq, hsz]
 have hagr : (isAgg fl.type).run P w = .ok b w := by
  unfold A7 at hag
  cases hq : P.underlying fl.type with
  | none => rw [hq] at hag; cases hag
  | some dd =>
   rw [hq] at hag
   simp only [isAgg, Sem.run_bind, run_underlying hq, Result.andThen]
   cases dd <;> simp_all
 cases b with
 | true =>
  simp only [cond_true] at hu
  cases hb : Nat.ble (o + z) cs.length with
  | false => rw [hb] at hu; cases hu
  | true =>
   rw [hb] at hu
   simp only [cond_true, Option.some.injEq] at hu
   subst hu
   rw [Nat.ble_eq] at hb
   have hl := hs.1
   refine ⟨.agg ((vs.drop o).take z).toArray, ?_, .agg _ _ (by simp [hl]) (fun i c u hc hu => ?_) fun u hu => h1 u (List.mem_of_mem_drop (List.mem_of_mem_take hu))⟩
   ·simp [execOp, hv, Instr.field, run_underlying hus, hfl, part, hagr, hszr, asAgg, hoff]
   ·rw [List.getElem?_take] at hc hu
    split at hc
    ·rename_i hi
     rw [if_pos hi, List.getElem?_drop] at hu
     rw [List.getElem?_drop] at hc
     exact hs.2 _ c u hc hu
    ·cases hc
 | false =>
  simp only [cond_false] at hu
  obtain ⟨v, g1, g2⟩ := hs.get hu
  exact ⟨v, by simp [execOp, hv, Instr.field, run_underlying hus, hfl, part, hagr, asAgg, hoff, g1], g2⟩
def ov (tt : TT) (fr : bJ) (op : Op) : Option AV := match op with
 | .build t parts => match cX tt t with
  | some ti => bif ti.k.agg && ti.zero.all (·.oneCell') then (match dZ fr (parts.toList.map (·.2)) with
   | some vs => match sU ti ((parts.toList.map (·.1)).zip vs) with
    | some out => some (.agg out)
    | none => none
   | none => none) else none
  | none => none
 | .nilCheck x => match bh fr x with
  | some (.sc (.pointer (some a))) => some (.sc (.pointer (some a)))
  | some (.iptr cs) => some (.iptr cs)
  | some (.fn f cs) => some (.fn f cs)
  | _ => none
 | .field s x f => match cX tt s with
  | some ⟨.struct offs, _, _⟩ => match offs[f]? with
   | some (o, z, b) => match bh fr x with
    | some (.agg cs) => (bif b then (bif Nat.ble (o + z) cs.length then some (.agg ((cs.drop o).take z)) else none) else cs[o]?)
    | _ => none
   | none => none
  | _ => none
 | op => uZ tt fr op
theorem ox (ok : dG P tt) {op : Op} {u : AV} (h : ov tt fr op = some u) : Av P ⟨d, op, ty, pos, af, g⟩ fr u := by
 unfold ov at h
 split at h
 ·split at h
  ·rename_i ti ht
   cases hb : (ti.k.agg && ti.zero.all (·.oneCell')) with
   | false => rw [hb] at h; cases h
   | true =>
    rw [hb] at h
    simp only [cond_true] at h
    simp only [Bool.and_eq_true] at hb
    split at h
    ·rename_i vs hvs
     split at h
     ·rename_i out hout
      cases h
      exact zZ ok ht hb.1 hb.2 hvs hout
     ·cases h
    ·cases h
  ·cases h
 ·split at h <;> first | cases h | skip
  ·rename_i hx; exact CY hx
  ·rename_i hx; exact CX hx
  ·rename_i hx; exact CW hx
 ·split at h
  ·rename_i ht
   split at h
   ·rename_i hf
    split at h
    ·rename_i hx; exact A3 ok ht rfl hf hx h
    ·cases h
   ·cases h
  ·cases h
 ·exact tW ok h
end
end Go.Proofs.YtamjlkdanllgjaaGreatDoor
namespace Go.Proofs.YtamjlkdanllgjaaGreatDoor
open Go.RowKit
def iE (rec : Loop) : AB := .raw fun o => o = .loop rec
def lu : AB := .raw fun o => o = .deferred (some [])
theorem iU (w : World) (l : Nat) (o : Obj) : w.grownBy (w.putObj l o) (some l) :=
 ⟨rfl, rfl, rfl, by simp [World.putObj], fun k _ hk => World.putObj_heap_other (fun e => hk (by rw [e]))⟩
theorem ct.turn {B : Bs} {σ : bT} {L : AL} {w : World} {l : Nat} {q : Obj → Prop} {a' : AB} {o : Obj} (h : ct B σ (L ++ [(l, .raw q)]) w) (hq : a'.holds σ o) : ct B σ (L ++ [(l, a')]) (w.putObj l o) := by
 have h1 : ct B σ ((l, .raw q) :: L) w := h.perm List.perm_append_comm
 have hlt := h1.lt (List.mem_cons_self ..)
 exact (h1.put (fun _ => trivial) (iU w l o) (World.putObj_heap_same hlt) hq).perm (List.perm_append_comm (l₁ := [(l, a')]))
def AY (P : Program) (σ0 : bT) (l : Nat) (args : List AV) (L : AL) (Post : AV → AL → Prop) : Prop := ∀ σ w vs, σ0.le σ → cz σ args vs → ct ⟨w, σ, L.map (·.1)⟩ σ L w →
 ∃ f tmps assign body, (Instr.yield l vs.toArray).run P w = .ok (.round l f tmps assign body) w ∧ RoundIn Fence.wide 0 P l f tmps assign body w (fN ⟨w, σ, L.map (·.1)⟩ Post)
def C5 (P : Program) (σ0 : bT) (f : FuncId) (args : List AV) (L : AL) (Post : AV → AL → Prop) : Prop := ∀ σ w vs, σ0.le σ → cz σ args vs → ct ⟨w, σ, L.map (·.1)⟩ σ L w → Calls P f vs.toArray w (fN ⟨w, σ, L.map (·.1)⟩ Post)
section
variable {P : Program} {r : Option Nat} {ops : Array Oper} {Q : Exit → Act → World → Prop} {nt : Nat} {D : List Deferred} {fr : bJ} {B : Bs} {L : AL} {rest : List Oper} {σ0 : bT}
variable {d : Option Tmp} {ty t t' : TypeId} {pos : String} {af : Array Edge} {g : Option (Nat × Bool)} {x y z : Operand} {u : AV}
theorem xr (hB : σ0.le B.σ) (Lc Lf : AL) {l : Nat} {args : Array Operand} {ts : Array TypeId} {cs cs' : List AV} {Post : AV → AL → Prop} (hz : bh fr z = some (.sc (.func (.yield l) #[] #[]))) (hv : dZ fr args.toList = some cs) (hcs : ∀ σ vs, cz σ cs vs → cz σ cs' vs) (hL : L.Perm (Lc ++ Lf)) (h : AY P σ0 l cs' Lc Post) :
  AO P ⟨d, .call ⟨.value z, args, ts⟩, ty, pos, af, g⟩ fr B L (fun c L' => ∃ L1, Post c L1 ∧ L' = L1 ++ Lf) := by
 intro σ ρ w hρ hw0
 have hw := hw0.perm hL
 have e : args.map ρ = (args.toList.map ρ).toArray := by apply Array.toList_inj.1; simp
 obtain ⟨f, tmps, assign, body, hy, hr⟩ := h σ w _ (bT.le_trans hB hw.grow) (hcs _ _ (e6 hρ _ _ hv)) hw.enter
 unfold fw
 rw [show (execOp ρ ⟨d, .call ⟨.value z, args, ts⟩, ty, pos, af, g⟩).run P w = .ok (.round l f tmps assign body) w by
  simp [execOp, resolve, (hρ z _ hz).sc_inv, Deferred.ofValue, e, invoke, hy]]
 refine hr.mono fun en w' hh => ?_
 obtain ⟨v, τ, c, L', h1, h2, h3, h4⟩ := hh
 exact ⟨v, h1, τ, c, L' ++ Lf, h3.grow, h2, hw.leave h3, L', h4, rfl⟩
theorem sG {f : FuncId} {fn : Func} {c : Code} {args : List AV} {Post : AV → AL → Prop} (hf : P.funcs[f]? = some fn) (hb : fn.body = some c) (hn : fn.ntmps = nt) (hs : Nat.ble args.length nt = true)
  (h : ∀ B, σ0.le B.σ → AT P none c (bodyPost P fn (fN B Post)) nt [] (ki 0 args) B L) : C5 P σ0 f args L Post := by
 intro σ w vs hle hv hst
 have hs' : args.length ≤ nt := by simpa [Nat.ble_eq] using hs
 have hl := hv.1
 refine (callsIn_wide (n := 0)).1 (callsIn_of_wp hf hb trivial (h _ hle σ _ w ⟨?_, rfl, ?_⟩ hst))
 ·simp [hn]; omega
 ·intro t v hlk
  obtain ⟨_, h2⟩ := fO args 0 t v hlk
  simp only [Nat.sub_zero] at h2
  have hlt : t < vs.length := by have := (Hq h2).1; omega
  simp only [Array.getD_eq_getD_getElem?]
  rw [Array.getElem?_append_left (by simpa using hlt)]
  have := hv.2 t v vs[t] h2 (Eg hlt)
  simpa [hlt] using this
theorem n5 {f : FuncId} {fn : Func} {c : Code} {args : List AV} {Post : AV → AL → Prop} (hf : P.funcs[f]? = some fn) (hb : fn.body = some c) (hn : fn.ntmps = nt) (hs : Nat.ble args.length nt = true)
  (h : ∀ B, AT P none c (bodyPostM Fence.wide 0 P fn (fN B Post)) nt [] (ki 0 args) B L) : AC P f args L Post := by
 intro σ w vs hv hst
 have hs' : args.length ≤ nt := by simpa [Nat.ble_eq] using hs
 have hl := hv.1
 refine (callsIn_wide (n := 0)).1 (callsIn_of_wp_marks hf hb trivial (h _ σ _ w ⟨?_, rfl, ?_⟩ hst))
 ·simp [hn]; omega
 ·intro t v hlk
  obtain ⟨_, h2⟩ := fO args 0 t v hlk
  simp only [Nat.sub_zero] at h2
  have hlt : t < vs.length := by have := (Hq h2).1; omega
  simp only [Array.getD_eq_getD_getElem?]
  rw [Array.getElem?_append_left (by simpa using hlt)]
  have := hv.2 t v vs[t] h2 (Eg hlt)
  simpa [hlt] using this
def jF (P : Program) (fr : bJ) (L : AL) : List ResultVar → List AV → Prop
 | [], [] => True
 | .tmp t :: r, c :: cs => bQ fr t = some c ∧ jF P fr L r cs
 | .cell t e :: r, c :: cs => (∃ (b i : Nat) (ds : List AV) (e' : TypeId), bQ fr t = some (.sc (.pointer (some ⟨b, 0, none⟩))) ∧ L[i]? = some (b, .box ds e') ∧ ((C7 P e ∧ ds[0]? = some c) ∨ (Cv P e ds.length ∧ c = .agg ds))) ∧ jF P fr L r cs
 | _, _ => False
def mE : List AV → AV
 | [c] => c
 | cs => .tup cs
def z7 (tmps : Array Value) : ResultVar → Sem Value
 | .tmp t => pure (tmps.getD t undef)
 | .cell q t => do loadVar t (← asAddr (tmps.getD q undef))
theorem k7 {σ : bT} {a : Act} {w : World} (ha : ga σ nt D fr a) (hw : ct B σ L w) : ∀ (rs : List ResultVar) (cs : List AV), jF P fr L rs cs → ∃ vs : List Value, (rs.mapM (z7 a.tmps)).run P w = .ok vs w ∧ cz σ cs vs
 | [], [], _ => ⟨[], by simp, cz.nil⟩
 | .tmp t :: r, c :: cs, h => by
  obtain ⟨vs, h1, h2⟩ := k7 ha hw r cs h.2
  exact ⟨a.tmps.getD t undef :: vs, by simp [List.mapM_cons, z7, h1], cz.cons (ha.look t c h.1) h2⟩
 | .cell t e :: r, c :: cs, h => by
  obtain ⟨⟨b, i, ds, e', hp, hL, hcase⟩, hr⟩ := h
  obtain ⟨vs, h1, h2⟩ := k7 ha hw r cs hr
  obtain ⟨us, hb, hus, hone⟩ := hw.boxCell hL
  have hpv := (ha.look t _ hp).sc_inv
  rcases hcase with ⟨hsc, hc⟩ | ⟨hag, rfl⟩
  ·obtain ⟨v, hv, hvr⟩ := hus.get hc
   have hcell : w.cell? ⟨b, 0, none⟩ = some v := by rw [cC hb]; simpa using hv
   haveI := hsc
   refine ⟨v :: vs, ?_, cz.cons hvr h2⟩
   rw [List.mapM_cons]
   simp only [z7, Sem.run_bind, hpv]
   simp [asAddr, eV (P := P) (t := e) hcell, h1]
  ·have hlen := hus.1
   have hrun := eU (P := P) (t := e) (w := w) (b := b) (o := 0) (cs := us) (k := ds.length) hlen.symm (fun j v hj => by rw [Nat.zero_add, cC hb]; simpa using hj)
   refine ⟨.agg us.toArray :: vs, ?_, cz.cons (.agg ds us hlen hus.2 hone) h2⟩
   rw [List.mapM_cons]
   simp only [z7, Sem.run_bind, hpv]
   simp [asAddr, hrun, h1]
theorem gh {σ : bT} {a : Act} {w : World} {fn : Func} {cs : List AV} (ha : ga σ nt D fr a) (hw : ct B σ L w) (h : jF P fr L fn.results.toList cs) : ∃ v, (results fn a.tmps).run P w = .ok v w ∧ VR σ (mE cs) v := by
 obtain ⟨vs, h1, h2⟩ := k7 ha hw _ _ h
 have hl := h2.1
 have e : (results fn a.tmps).run P w = .ok (if h : vs.toArray.size = 1 then vs.toArray[0] else .tuple vs.toArray) w := by
  have hfun : results fn a.tmps = (do let vs ← fn.results.mapM (z7 a.tmps); pure (if h : vs.size = 1 then vs[0] else .tuple vs)) := by
   unfold results
   congr 1
  rw [hfun, Array.mapM_eq_mapM_toList]
  simp [h1]
 refine ⟨_, e, ?_⟩
 clear e h1 h
 match cs, vs, hl, h2 with
 | [], [], _, h2 => exact VR.tup [] [] rfl (fun i c u h => by simp at h)
 | [c], [v], _, h2 => exact h2.2 0 c v rfl rfl
 | c :: c' :: cs, v :: v' :: vs, _, h2 => simpa [mE] using VR.tup _ _ h2.1 h2.2
def yq (dbs : List Nat) : List Deferred := dbs.map fun b => { target := .collected b, args := #[] }
theorem kH {fn : Func} {R : Ending → World → Prop} {tmps : Array Value} {σ : bT} : ∀ (dbs : List Nat) (L : AL) (w : World), ct B σ (L ++ dbs.map fun b => (b, lu)) w → (∀ w', ct B σ L w' → LeavesInM Fence.wide 0 P fn tmps R [] .returning w') → LeavesInM Fence.wide 0 P fn tmps R (yq dbs) .returning w
 | [], L, w, hw, h => h w (by simpa using hw)
 | b :: dbs, L, w, hw, h => by
  have hp : ct B σ ((L ++ dbs.map fun b => (b, lu)) ++ [(b, lu)]) w := hw.perm (by
   simp only [Hr, List.append_assoc]
   exact (List.perm_append_comm (l₁ := [_])).append_left L)
  obtain ⟨o, ho, hq⟩ := hp.here (b, lu) (by simp)
  have hq : o = .deferred (some []) := hq
  rw [hq] at ho
  refine ⟨by simp, .inl ⟨_, _, rfl, run_takeDeferred ho, kH dbs L _ ?_ h⟩⟩
  exact (hp.turn (a' := .raw fun _ => True) trivial).sublist (List.sublist_append_left ..)
theorem ko {fn : Func} {Post : AV → AL → Prop} {cs : List AV} (dbs : List Nat) (L0 : AL) (hD : D = yq dbs) (hL : L.Perm (L0 ++ dbs.map fun b => (b, lu))) (hr : jF P fr L0 fn.results.toList cs) (h : Post (mE cs) L0) : AX P .ret (bodyPostM Fence.wide 0 P fn (fN B Post)) nt D fr B L := by
 intro σ a w ha hw
 show LeavesInM _ _ _ _ _ _ a.defers _ _
 rw [ha.defers, hD]
 refine kH dbs L0 w (hw.perm hL) fun w' hw' => ?_
 obtain ⟨v, h1, h2⟩ := gh ha hw' hr
 exact ⟨v, h1, v, σ, mE cs, L0, rfl, h2, hw', h⟩
theorem ui {fn : Func} {Post : AV → AL → Prop} {cs : List AV} (hr : jF P fr L fn.results.toList cs) (h : Post (mE cs) L) : AX P .ret (bodyPost P fn (fN B Post)) nt [] fr B L := by
 intro σ a w ha hw
 obtain ⟨v, h1, h2⟩ := gh ha hw hr
 exact ⟨ha.defers, v, h1, v, σ, mE cs, L, rfl, h2, hw, h⟩
def oZ : List Nat → List AV → bJ → bJ
 | p :: ps, v :: vs, fr => oZ ps vs ((p, v) :: fr)
 | _, _, fr => fr
theorem ga.fset {σ : bT} {D' : List Deferred} : ∀ (ps : List Nat) (cs : List AV) (vs : List Value) (fr : bJ) (t : Array Value), ps.length = cs.length → (∀ p ∈ ps, p < nt) → cz σ cs vs → ga σ nt D' fr ⟨t, D'⟩ → ga σ nt D' (oZ ps cs fr) ⟨(ps.zip vs).foldl (fun t q => t.setIfInBounds q.1 q.2) t, D'⟩
 | [], cs, vs, fr, t, _, _, _, h => by simpa [oZ] using h
 | p :: ps, [], vs, fr, t, hl, _, _, h => by simp at hl
 | p :: ps, c :: cs, vs, fr, t, hl, hp, hvs, h => by
  obtain ⟨v, ws, rfl, hv, hs⟩ := hvs.inv
  simp only [oZ, List.zip_cons_cons, List.foldl_cons]
  refine ga.fset ps cs ws _ _ (by simpa using hl) (fun q hq => hp q (Hu _ hq)) hs ?_
  have := h.put (hp p (List.mem_cons_self ..)) hv
  simpa [Act.put] using this
def GA (P : Program) (l : Nat) (body : Code) (Qb : Exit → Act → World → Prop) : Exit → Act → World → Prop := Exit.then (fun a w => ∃ w2, (Instr.beginRound l).run P w = .ok () w2 ∧ body.wpIn (Wd (some l)) 0 P Qb a w2) (fun _ _ _ => False)
theorem ng {l : Nat} {body : Code} {Qb : Exit → Act → World → Prop} {rec : Loop} (hr : rec.state = .ready) (h : AT P (some l) body Qb nt D fr B (L ++ [(l, iE { rec with state := .busy })])) : AX P .normal (GA P l body Qb) nt D fr B (L ++ [(l, iE rec)]) := by
 intro σ a w ha hw
 obtain ⟨o, ho, hq⟩ := hw.here (l, iE rec) (by simp)
 have hq : o = .loop rec := hq
 rw [hq] at ho
 exact ⟨_, run_beginRound ho hr, h σ a _ ha (hw.turn (a' := iE { rec with state := .busy }) rfl)⟩
def G3 (P : Program) (l : Nat) (B : Bs) (Post : AV → AL → Prop) : Exit → Act → World → Prop := roundPost P l (fN B Post)
theorem pX {l : Nat} {rec : Loop} {Post : AV → AL → Prop} (h : Post (.sc (.bool true)) (L ++ [(l, iE { rec with state := .ready, pending := none })])) : AX P .normal (G3 P l B Post) nt D fr B (L ++ [(l, iE rec)]) := by
 intro σ a w ha hw
 obtain ⟨o, ho, hq⟩ := hw.here (l, iE rec) (by simp)
 have hq : o = .loop rec := hq
 rw [hq] at ho
 exact ⟨_, _, run_endRound none ho, _, σ, _, _, rfl, .sc _, hw.turn (a' := iE { rec with state := .ready, pending := none }) rfl, h⟩
theorem sR {l : Nat} {rec : Loop} {Post : AV → AL → Prop} (h : Post (.sc (.bool false)) (L ++ [(l, iE { rec with state := .done, pending := some .ret })])) : AX P .ret (G3 P l B Post) nt D fr B (L ++ [(l, iE rec)]) := by
 intro σ a w ha hw
 obtain ⟨o, ho, hq⟩ := hw.here (l, iE rec) (by simp)
 have hq : o = .loop rec := hq
 rw [hq] at ho
 exact ⟨_, _, run_endRound (some .ret) ho, _, σ, _, _, rfl, .sc _, hw.turn (a' := iE { rec with state := .done, pending := some .ret }) rfl, h⟩
structure Ca (rec : Loop) (σ0 : bT) (nt : Nat) (fr : bJ) (ps : List Nat) (assign body : Code) : Prop where
 state : rec.state = .ready
 pending : rec.pending = none
 params : rec.params = ps.toArray
 assign : rec.assign = assign
 body : rec.body = body
 size : rec.tmps.size = nt
 look : ∀ t c, bQ fr t = some c → VR σ0 c (rec.tmps.getD t undef)
theorem xA {rec : Loop} {ps : List Nat} {assign body : Code} {l : Nat} {args : List AV} {Post : AV → AL → Prop} (hr : Ca rec σ0 nt fr ps assign body) (hlen : ps.length = args.length) (hps : ps.all (fun p => Nat.blt p nt) = true)
  (h : ∀ B, σ0.le B.σ → AT P (some l) assign (GA P l body (G3 P l B Post)) nt [] (oZ ps args fr) B (L ++ [(l, iE rec)])) : AY P σ0 l args (L ++ [(l, iE rec)]) Post := by
 intro σ w vs hle hvs hst
 obtain ⟨o, ho, hq⟩ := hst.here (l, iE rec) (by simp)
 have hq : o = .loop rec := hq
 rw [hq] at ho
 have hl := hvs.1
 have hy := run_yield (P := P) (args := vs.toArray) ho (by simp [hr.params]; omega)
 refine ⟨_, _, _, _, hy, ?_⟩
 rw [hr.assign, hr.body]
 refine roundIn_of_wpIn (F := Fence.wide) trivial ?_
 have hag : ga σ nt [] (oZ ps args fr) ⟨(ps.zip vs).foldl (fun t q => t.setIfInBounds q.1 q.2) rec.tmps, []⟩ := ga.fset ps args vs fr rec.tmps hlen (fun p hp => by have := List.all_eq_true.1 hps p hp; simpa [Nat.blt_eq] using this) hvs ⟨hr.size, rfl, fun t c hc => (hr.look t c hc).mono hle⟩
 have htm : (rec.params.zip vs.toArray).foldl (fun tmps (q : Nat × Value) => tmps.setIfInBounds q.1 q.2) rec.tmps = (ps.zip vs).foldl (fun t q => t.setIfInBounds q.1 q.2) rec.tmps := by
  rw [hr.params]
  simp
 have := h ⟨w, σ, (L ++ [(l, iE rec)]).map (·.1)⟩ hle σ _ w hag hst
 rw [← htm] at this
 exact this
def Cj (P : Program) (Q : Exit → Act → World → Prop) (nt : Nat) (D : List Deferred) (fr : bJ) (B : Bs) (L : AL) : Option Code → Prop
 | none => AX P .normal Q nt D fr B L
 | some .ret => AX P .ret Q nt D fr B L
 | some (.exit id) => AX P (.exit id) Q nt D fr B L
 | _ => False
theorem nf {gv : Operand} {ps : List Nat} {assign body : Code} {gf : FuncId} {cap : List AV} [hf : bv P gf] (hg : bh fr gv = some (.fn gf cap))
  (h : ∀ σ0 l db rec, Ca rec σ0 nt fr ps assign body → ∃ Post, C5 P σ0 gf (.sc (.func (.yield l) #[] #[]) :: cap) ((L ++ [(db, lu)]) ++ [(l, iE rec)]) Post ∧ ∀ c L', Post c L' → ∃ rec' L1, L'.Perm (L1 ++ [(l, iE rec')]) ∧ rec'.state ≠ .busy ∧ Cj P Q nt ({ target := .collected db, args := #[] } :: D) fr B L1 rec'.pending) :
  AT P none (.rangeFunc gv ps.toArray assign body) Q nt D fr B L := by
 intro σ a w ha hw
 refine wpIn_rangeFunc ?_
 intro fn hfn
 obtain ⟨rec, hrec⟩ : ∃ rec : Loop, rec = { state := .ready, pending := none, fn, tmps := a.tmps, params := ps.toArray, assign, body, defers := w.heap.size } := ⟨_, rfl⟩
 have h1 := (hw.alloc (.deferred (some [])) lu rfl).perm (List.perm_append_comm (l₁ := [(w.heap.size, lu)]))
 have h2 := (h1.alloc (.loop rec) (iE rec) rfl).perm (List.perm_append_comm (l₁ := [((w.alloc (.deferred (some []))).heap.size, iE rec)]))
 simp only [World.size_alloc] at h2
 obtain ⟨Post, hac, hpost⟩ := h σ (w.heap.size + 1) w.heap.size rec (by rw [hrec]; exact ⟨rfl, rfl, rfl, rfl, rfl, ha.size, ha.look⟩)
 obtain ⟨vs, hv, hvs⟩ := (ha.eval hg).fn_inv
 refine ⟨w.heap.size + 1, [{ target := .collected w.heap.size, args := #[] }], (w.alloc (.deferred (some []))).alloc (.loop rec), { target := .fn (.func gf) vs.toArray, args := #[.func (.yield (w.heap.size + 1)) #[] #[]] }, (w.alloc (.deferred (some []))).alloc (.loop rec), gf,
  #[.func (.yield (w.heap.size + 1)) #[] #[]] ++ vs.toArray, (w.alloc (.deferred (some []))).alloc (.loop rec), ?_, ?_, fun _ _ => trivial, ?_, fun h => by simp [Fence.wide] at h, ?_⟩
 ·rw [hrec]; exact run_enterLoop_outer _ _ _ _ _
 ·simp only [resolve, rangeCall, hv]
  simp [Deferred.ofValue, Act.eval]
 ·simp [invoke, hf.enters]
 ·have hc := hac σ _ (.func (.yield (w.heap.size + 1)) #[] #[] :: vs) (bT.le_refl _) (cz.cons (.sc _) hvs) (ct.enter (Lf := []) (by rw [List.append_nil]; exact h2))
  have e : (#[.func (.yield (w.heap.size + 1)) #[] #[]] ++ vs.toArray : Array Value) = (.func (.yield (w.heap.size + 1)) #[] #[] :: vs).toArray := by simp
  rw [e]
  refine lZ (hc.mono ?_)
  rintro en W' ⟨v, τ, c, L', rfl, _, hst, hp⟩
  obtain ⟨rec', L1, hperm, hnb, hj⟩ := hpost c L' hp
  have hst2 : ct B τ (L1 ++ [(w.heap.size + 1, iE rec')]) W' := ((ct.leave (Lf := []) (by rw [List.append_nil]; exact h2) hst).perm (by rw [List.append_nil]; exact hperm))
  obtain ⟨o, ho, hq⟩ := hst2.here (w.heap.size + 1, iE rec') (by simp)
  have hq : o = .loop rec' := hq
  rw [hq] at ho
  have hst3 := (hst2.turn (a' := .raw fun _ => True) (o := .loop { rec' with state := .exhausted }) trivial).sublist (List.sublist_append_left ..)
  have hle : σ.le τ := hst.grow
  have hag : ga τ nt ({ target := .collected w.heap.size, args := #[] } :: D) fr { a with defers := [{ target := .collected w.heap.size, args := #[] }] ++ a.defers } := ⟨ha.size, by simp [ha.defers], (ha.mono hle).look⟩
  refine ⟨rec'.pending, _, run_endLoop ho hnb, ?_⟩
  generalize W'.putObj _ _ = W2 at hst3 ⊢
  unfold Cj at hj
  split at hj
  ·rename_i hpe; rw [hpe]; exact hj τ _ _ hag hst3
  ·rename_i hpe; rw [hpe]; exact wpIn_ret (hj τ _ _ hag hst3)
  ·rename_i hpe; rw [hpe]; exact wpIn_exit (hj τ _ _ hag hst3)
  ·exact hj.elim
end
end Go.Proofs.YtamjlkdanllgjaaGreatDoor
namespace Go.Proofs.YtamjlkdanllgjaaGreatDoor
open Go.RowKit
theorem uI {σ : bT} {b : Nat} {cs : List AV} {xs : List Value} (hx : cz σ cs xs) (h1 : ∀ u ∈ xs, u.oneCell' = true) (hb : ∀ j u, xs[j]? = some u → σ b j = some u) : VR σ (.iptr cs) (.pointer (some ⟨b, 0, none⟩)) := by
 refine .iptr cs b 0 (fun j hj => ?_) fun j c u hc hu => ?_
 ·have hlt : j < xs.length := by rw [← hx.1]; exact hj
  rw [Nat.zero_add]
  exact ⟨xs[j], hb _ _ (Eg hlt), h1 _ (List.getElem_mem hlt)⟩
 ·have hlt : j < xs.length := by rw [← hx.1]; exact (Hq hc).1
  have := hb _ _ (Eg hlt)
  rw [Nat.zero_add, this] at hu
  injection hu with hu
  subst hu
  exact hx.2 j c _ hc (Eg hlt)
section
variable {P : Program} {r : Option Nat} {ops : Array Oper} {Q : Exit → Act → World → Prop} {nt : Nat} {D : List Deferred} {fr fr' : bJ} {B : Bs} {L L' : AL} {rest : List Oper} {cd : Code}
variable {d : Option Tmp} {ty t t' : TypeId} {pos : String} {af : Array Edge} {g : Option (Nat × Bool)} {x y : Operand} {u : AV}
theorem A8 {cs : List AV} (hx : bh fr x = some u) (hc : u.cells = some cs) (hn : Nat.ble cs.length 1000000 = true) : AO P ⟨d, .box t x, ty, pos, af, g⟩ fr B L (fun c L' => c = .iptr cs ∧ L' = L) := by
 intro σ ρ w hρ hw
 rw [Nat.ble_eq] at hn
 obtain ⟨k1, k2⟩ := (hρ x u hx).cells hc
 have hl := k1.1
 have hr : (execOp ρ ⟨d, .box t x, ty, pos, af, g⟩).run P w = .ok (.value (.pointer (some ⟨w.heap.size, 0, none⟩))) (w.alloc (.cells (ρ x).cells t)) := by
  simp [execOp, Instr.box, newVar, newRow]
 unfold fw
 rw [hr]
 have ha := hw.alloc (.cells (ρ x).cells t) (.vec t 1 0 cs.length) ⟨_, rfl, by simp at hl; omega, Nat.zero_le _, by unfold maxLen; omega⟩
 have hnb : (w.alloc (.cells (ρ x).cells t)).heap[w.heap.size]? = some (.cells (ρ x).cells t) := World.alloc_heap_new w _
 obtain ⟨hb, hle⟩ := ha.freezeHead (n' := cs.length) (xs := (ρ x).cells.toList) (fun j u hj => by rw [cC hnb]; simpa using hj) (by omega) (Nat.zero_le _) (Nat.le_refl _)
 exact ⟨_, _, L, hle, uI (k1.mono hle) k2 (fun j u hj => bT.add_at hj), hb.sublist (.cons _ (List.Sublist.refl _)), rfl, rfl⟩
theorem bj {L' : AL} (h : L.Perm L') : jM nt D B fr L fr L' := fun σ _ _ ha hw => ⟨σ, ha, hw.perm h⟩
theorem su {t b e : Nat} {cs : List AV} (i : Nat) (hl : bQ fr t = some (.sc (.pointer (some ⟨b, 0, none⟩)))) (hL : L[i]? = some (b, .box cs e)) (hn : Nat.ble cs.length 1000000 = true) : jM nt D B fr L ((t, .iptr cs) :: fr) (L.eraseIdx i) := by
 intro σ a w ha hw0
 rw [Nat.ble_eq] at hn
 have hw := hw0.perm (eh hL)
 obtain ⟨o, ho, vs, rfl, hvs, h1⟩ := hw.here _ (List.mem_cons_self ..)
 have hfree := hw.free _ (List.mem_cons_self ..)
 have hvl : vs.length = cs.length := hvs.1.symm
 have hst : ct B σ ((b, .vec e 1 0 cs.length) :: L.eraseIdx i) w := by
  refine ⟨hw.os, hw.tape, hw.output, hw.size, hw.old, fun p hp => ?_, fun p hp => ?_, by simpa using hw.apart, hw.froz, fun p hp off hm => ?_, hw.grow, hw.same⟩
  ·rcases List.mem_cons.1 hp with rfl | hp'
   ·exact ⟨_, ho, _, rfl, by simp [hvl], Nat.zero_le _, by unfold maxLen; omega⟩
   ·exact hw.here p (Hu _ hp')
  ·rcases List.mem_cons.1 hp with rfl | hp'
   ·exact hw.mine (b, .box cs e) (List.mem_cons_self ..)
   ·exact hw.mine p (Hu _ hp')
  ·rcases List.mem_cons.1 hp with rfl | hp'
   ·exact hfree off trivial
   ·exact hw.free p (Hu _ hp') off hm
 obtain ⟨hst', hle⟩ := hst.freezeHead (n' := cs.length) (xs := vs) (fun j u hj => by rw [cC ho]; simpa using hj) (by omega) (Nat.zero_le _) (Nat.le_refl _)
 refine ⟨_, ?_, hst'.sublist (.cons _ (List.Sublist.refl _))⟩
 have ha' := ha.mono hle
 refine ⟨ha'.size, ha'.defers, fun t' v' hl' => ?_⟩
 rw [bV] at hl'
 by_cases e : t = t'
 ·subst e
  simp only [if_true, Option.some.injEq] at hl'
  subst hl'
  rw [(ha.look t _ hl).sc_inv]
  exact uI (hvs.mono hle) h1 (fun j u hj => bT.add_at hj)
 ·rw [if_neg e] at hl'
  exact ha'.look t' v' hl'
end
end Go.Proofs.YtamjlkdanllgjaaGreatDoor
namespace Go.Proofs.YtamjlkdanllgjaaGreatDoor
open Go.RowKit
section
variable {P : Program} {r : Option Nat} {ops : Array Oper} {Q : Exit → Act → World → Prop} {nt : Nat} {D : List Deferred} {fr : bJ} {B : Bs} {L : AL} {rest : List Oper}
def Bz (tt : TT) (nt : Nat) : List Oper → bJ → List Oper × bJ
 | [], fr => ([], fr)
 | o :: rest, fr => match o.guard with
  | some _ => (o :: rest, fr)
  | none => match o.dst with
   | none => (o :: rest, fr)
   | some d => match ov tt fr o.op with
    | none => (o :: rest, fr)
    | some u => bif Nat.ble nt d then (o :: rest, fr) else Bz tt nt rest ((d, u) :: fr)
theorem pG {tt : TT} (ok : dG P tt) : ∀ (l : List Oper) (fr : bJ) {rest' : List Oper} {fr' : bJ}, Bz tt nt l fr = (rest', fr') → br P r ops Q nt D rest' fr' B L → br P r ops Q nt D l fr B L
 | [], fr, _, _, h, hn => by cases h; exact hn
 | o :: rest, fr, rest', fr', h, hn => by
  obtain ⟨dst, op, ty, pos, af, g⟩ := o
  simp only [Bz] at h
  cases g with
  | some _ => cases h; exact hn
  | none =>
   cases dst with
   | none => cases h; exact hn
   | some d =>
    simp only at h
    cases hs : ov tt fr op with
    | none => rw [hs] at h; cases h; exact hn
    | some u =>
     rw [hs] at h
     cases hb : Nat.ble nt d with
     | true => rw [hb] at h; cases h; exact hn
     | false =>
      rw [hb] at h
      have hnd : Oper.noDefer ⟨some d, op, ty, pos, af, none⟩ = true := by
       cases op <;> first | rfl | (simp [ov, uZ] at hs)
      exact cg (ox ok hs) hb hnd (pG ok rest _ h hn)
end
section
variable {P : Program} {tt : TT} {r : Option Nat} {ops : Array Oper} {Q : Exit → Act → World → Prop} {nt : Nat} {D : List Deferred} {fr fr' : bJ} {B : Bs} {L : AL} {rest rest' : List Oper}
variable {d : Nat} {ty t t' : TypeId} {pos : String} {af : Array Edge} {g : Option (Nat × Bool)} {x y z c : Operand} {u : AV}
theorem ah (ok : dG P tt) {op : Op} (_h1 : ov tt fr op = some u) (h : Bz tt nt (⟨some d, op, ty, pos, af, none⟩ :: rest) fr = (rest', fr')) (hn : br P r ops Q nt D rest' fr' B L) : br P r ops Q nt D (⟨some d, op, ty, pos, af, none⟩ :: rest) fr B L := pG ok _ _ h hn
theorem b6 {op : BinOp} (h : br P r ops Q nt D (⟨some d, .binOp op t x y t', ty, pos, af, none⟩ :: rest) fr B L) : br P r ops Q nt D (⟨some d, .binOp op t x y t', ty, pos, af, none⟩ :: rest) fr B L := h
theorem aZ {op : BinOp} (h : br P r ops Q nt D rest ((d, u) :: fr) B L) (ho : Av P ⟨some d, .binOp op t x y t', ty, pos, af, none⟩ fr u := by first | exact u7 rfl rfl (by omega) | exact ud rfl rfl (by omega) | exact uc rfl rfl (by omega)) (hd : Nat.ble nt d = false := by rfl) : br P r ops Q nt D (⟨some d, .binOp op t x y t', ty, pos, af, none⟩ :: rest) fr B L := cg ho hd rfl h
def jH (tt : TT) (t : Nat) : Option (Nat × Nat × Nat) := match cX tt t with
 | some ⟨.slice e sz by_, _, _⟩ => some (e, sz, by_)
 | _ => none
theorem bz (ok : dG P tt) {e sz by_ : Nat} (h : jH tt t = some (e, sz, by_)) : ke P t e sz by_ ∧ 0 < sz := by
 unfold jH at h
 split at h
 ·rename_i e' sz' by' _ _ ht
  cases h
  exact ok.isSl ht rfl
 ·cases h
theorem aO (h : br P r ops Q nt D (⟨some d, .indexAddr t x y, ty, pos, af, none⟩ :: rest) fr B L) : br P r ops Q nt D (⟨some d, .indexAddr t x y, ty, pos, af, none⟩ :: rest) fr B L := h
def iD (u : AV) : Option (Nat × List (List AV)) := match u with
 | .imm s l => some (s, l)
 | .vec _ s l => some (s, l)
 | _ => none
theorem cV {s : Nat} {l : List (List AV)} (h : iD u = some (s, l)) : u.im = .imm s l := by
 unfold iD at h
 split at h <;> cases h <;> rfl
theorem aN (ok : dG P tt) {e sz by_ s : Nat} {l : List (List AV)} {k : IntKind} {i : Int} {es : List AV} (h : br P r ops Q nt D rest ((d, .iptr es) :: fr) B L) (ht : jH tt t = some (e, sz, by_) := by rfl) (hx : bh fr x = some u := by rfl) (hu : iD u = some (s, l) := by rfl) (hs : Nat.beq s sz = true := by rfl) (hy : bh fr y = some (.sc (.int k i)) := by rfl) (h0 : 0 ≤ i := by omega) (hl : l[i.toNat]? = some es := by first | assumption | (simp only [Int.toNat_natCast]; assumption)) (hd : Nat.ble nt d = false := by rfl) :
  br P r ops Q nt D (⟨some d, .indexAddr t x y, ty, pos, af, none⟩ :: rest) fr B L := cg (ua (bz ok ht).1 hx (cV hu) hs hy h0 hl) hd rfl h
theorem aH (ok : dG P tt) {e sz by_ b off n cap : Nat} {k : IntKind} {i : Int} (h : br P r ops Q nt D rest ((d, .sc (.pointer (some ⟨b, off + i.toNat * sz, none⟩))) :: fr) B L) (ht : jH tt t = some (e, sz, by_) := by rfl) (hx : bh fr x = some (.sc (.slice (some ⟨b, off, none⟩) n cap)) := by rfl) (hy : bh fr y = some (.sc (.int k i)) := by rfl) (h0 : 0 ≤ i ∧ i < n := by omega) (hd : Nat.ble nt d = false := by rfl) :
  br P r ops Q nt D (⟨some d, .indexAddr t x y, ty, pos, af, none⟩ :: rest) fr B L := cg (qZ (bz ok ht).1 hx hy h0) hd rfl h
def BC (tt : TT) (t : Nat) : Bool := match cX tt t with | some ti => !ti.k.agg | none => false
def EG (tt : TT) (t : Nat) : Option Nat := match cX tt t with | some ti => bif ti.k.agg then some ti.size else none | none => none
theorem c7 (ok : dG P tt) (h : BC tt t = true) : C7 P t := by
 unfold BC at h
 split at h
 ·rename_i ti ht
  exact ok.sc ht (by simpa using h)
 ·cases h
theorem dh (ok : dG P tt) {n : Nat} (h : EG tt t = some n) : Cv P t n := by
 unfold EG at h
 split at h
 ·rename_i ti ht
  cases hk : ti.k.agg with
  | true => rw [hk] at h; cases h; exact ok.ag ht hk
  | false => rw [hk] at h; cases h
 ·cases h
def BT (tt : TT) (t : Nat) : Option Nat := match cX tt t with | some ti => some ti.size | none => none
theorem oz (ok : dG P tt) {n : Nat} (h : BT tt t = some n) : (P.info? t).map (·.size) = some n := by
 unfold BT at h
 split at h
 ·rename_i ti ht
  cases h
  exact ok.size ht
 ·cases h
def zI (tt : TT) (t : Nat) : Option (List Value) := match cX tt t with | some ti => some ti.zero | none => none
theorem ek (ok : dG P tt) {zs : List Value} (h : zI tt t = some zs) : CZ P t zs := by
 unfold zI at h
 split at h
 ·rename_i ti ht
  cases h
  exact ok.zero ht
 ·cases h
theorem c9 (h : br P r ops Q nt D (⟨some d, .load t x, ty, pos, af, none⟩ :: rest) fr B L) : br P r ops Q nt D (⟨some d, .load t x, ty, pos, af, none⟩ :: rest) fr B L := h
theorem aC (ok : dG P tt) (i : Nat) {b k : Nat} {cs : List AV} {e : TypeId} (ht : BC tt t = true) (hx : bh fr x = some (.sc (.pointer (some ⟨b, k, none⟩)))) (hL : L[i]? = some (b, .box cs e)) (hc : cs[k]? = some u) (hd : Nat.ble nt d = false) (h : br P r ops Q nt D rest ((d, u) :: fr) B L) :
  br P r ops Q nt D (⟨some d, .load t x, ty, pos, af, none⟩ :: rest) fr B L := bW hd rfl (pT i (c7 ok ht) hx hL hc) fun c L' ⟨h1, h2⟩ => by subst h1; subst h2; exact h
theorem aJ (ok : dG P tt) (i : Nat) {b k n : Nat} {cs : List AV} {e : TypeId} (ht : EG tt t = some n) (hx : bh fr x = some (.sc (.pointer (some ⟨b, k, none⟩)))) (hL : L[i]? = some (b, .box cs e)) (hc : Nat.ble (k + n) cs.length = true) (hd : Nat.ble nt d = false) (h : br P r ops Q nt D rest ((d, .agg ((cs.drop k).take n)) :: fr) B L) :
  br P r ops Q nt D (⟨some d, .load t x, ty, pos, af, none⟩ :: rest) fr B L := bW hd rfl (ra i (dh ok ht) hx hL hc) fun c L' ⟨h1, h2⟩ => by subst h1; subst h2; exact h
theorem aQ (h : br P r ops Q nt D (⟨none, .store t x y, ty, pos, af, none⟩ :: rest) fr B L) : br P r ops Q nt D (⟨none, .store t x y, ty, pos, af, none⟩ :: rest) fr B L := h
theorem aj (ok : dG P tt) (i : Nat) {b k n : Nat} {cs ys : List AV} {e : TypeId} (ht : BT tt t = some n) (hx : bh fr x = some (.sc (.pointer (some ⟨b, k, none⟩)))) (hy : bh fr y = some u) (hu : u.cells = some ys) (hL : L[i]? = some (b, .box cs e)) (hn : Nat.beq ys.length n = true) (hk : Nat.ble (k + n) cs.length = true) (h : br P r ops Q nt D rest fr B (fC L i (.box (ew cs k ys) e))) :
  br P r ops Q nt D (⟨none, .store t x y, ty, pos, af, none⟩ :: rest) fr B L := km rfl (nc i (oz ok ht) hx hy hu hL hn hk) fun c L' h1 => by subst h1; exact h
theorem yz {cs : List AV} (h : ∀ b, br P r ops Q nt D rest ((d, .sc (.pointer (some ⟨b, 0, none⟩))) :: fr) B ((b, .box cs t) :: L)) (hx : bh fr x = some u := by rfl) (hc : u.cells = some cs := by rfl) (hd : Nat.ble nt d = false := by rfl) :
  br P r ops Q nt D (⟨some d, .box t x, ty, pos, af, none⟩ :: rest) fr B L := bW hd rfl (D3 hx hc) fun c L' hh => by obtain ⟨b, h1, h2⟩ := hh; subst h1; subst h2; exact h b
theorem b9 {cs : List AV} (h : br P r ops Q nt D rest ((d, .iptr cs) :: fr) B L) (hx : bh fr x = some u := by rfl) (hc : u.cells = some cs := by rfl) (hn : Nat.ble cs.length 1000000 = true := by rfl) (hd : Nat.ble nt d = false := by rfl) :
  br P r ops Q nt D (⟨some d, .box t x, ty, pos, af, none⟩ :: rest) fr B L := bW hd rfl (A8 hx hc hn) fun c L' hh => by obtain ⟨h1, h2⟩ := hh; subst h1; subst h2; exact h
theorem ai (tm : Nat) (ok : dG P tt) (i : Nat) {b n : Nat} {cs ys : List AV} {e : TypeId} (ht : BT tt t = some n) (hx : bQ fr tm = some (.sc (.pointer (some ⟨b, 0, none⟩)))) (hy : bh fr y = some u) (hu : u.cells = some ys) (hL : L[i]? = some (b, .box cs e)) (hn : Nat.beq ys.length n = true) (hk : Nat.beq n cs.length = true) (hn6 : Nat.ble ys.length 1000000 = true) (h : br P r ops Q nt D rest ((tm, .iptr ys) :: fr) B (L.eraseIdx i)) :
  br P r ops Q nt D (⟨none, .store t (.tmp tm) y, ty, pos, af, none⟩ :: rest) fr B L := by
 have hn' : ys.length = n := by rwa [Nat.beq_eq] at hn
 have hk' : n = cs.length := by rwa [Nat.beq_eq] at hk
 refine km rfl (nc i (oz ok ht) hx hy hu hL hn (by rw [Nat.ble_eq]; omega)) fun c L' h1 => ?_
 subst h1
 have hput : ew cs 0 ys = ys := by
  apply List.ext_getElem?
  intro j
  rw [ea _ _ _ _ (by omega)]
  by_cases hj : j < ys.length
  ·rw [if_pos (by omega), Nat.sub_zero]
  ·rw [if_neg (by omega), List.getElem?_eq_none (by omega), List.getElem?_eq_none (by omega)]
 rw [hput]
 have hgi : (fC L i (.box ys e))[i]? = some (b, .box ys e) := by
  clear h
  induction L generalizing i with
  | nil => simp at hL
  | cons p q ih =>
   cases i with
   | zero => simp at hL; subst hL; rfl
   | succ i => simp only [List.getElem?_cons_succ] at hL; simp only [fC, List.getElem?_cons_succ]; exact ih i hL
 have her : (fC L i (.box ys e)).eraseIdx i = L.eraseIdx i := by
  clear h hgi
  induction L generalizing i with
  | nil => simp at hL
  | cons p q ih =>
   cases i with
   | zero => rfl
   | succ i => simp only [List.getElem?_cons_succ] at hL; simp only [fC, List.eraseIdx_cons_succ]; rw [ih i hL]
 have := su (nt := nt) (D := D) (B := B) (fr := fr) i hx hgi hn6
 rw [her] at this
 exact bq this h
theorem aY (ok : dG P tt) {zs : List Value} (h : ∀ b, br P r ops Q nt D rest ((d, .sc (.pointer (some ⟨b, 0, none⟩))) :: fr) B ((b, .box (zs.map .sc) t) :: L)) (hz : zI tt t = some zs := by rfl) (h1 : zs.all (·.oneCell') = true := by rfl) (hd : Nat.ble nt d = false := by rfl) :
  br P r ops Q nt D (⟨some d, .alloc t, ty, pos, af, none⟩ :: rest) fr B L := by
 have hz' := ek ok hz
 refine bW hd rfl (xj hz' h1) fun c L' hh => ?_
 obtain ⟨b, h1, h2⟩ := hh
 subst h1; subst h2
 exact h b
theorem yF (ok : dG P tt) {e sz by_ n : Nat} {parts : Array (Nat × Operand)} {vs : List AV} {xs : List (List AV)} (h : ∀ b, br P r ops Q nt D rest ((d, .vec (some (b, n)) sz xs) :: fr) B ((b, .vec e sz n n) :: L)) (ht : jH tt t = some (e, sz, by_) := by rfl) (hv : dZ fr (parts.toList.map (·.2)) = some vs := by rfl) (hxs : gV vs = some xs := by rfl) (hn : Nat.beq xs.length n = true := by rfl) (hi : parts.toList.map (·.1) = List.range' 0 n := by rfl) (hz : xs.all (fun q => Nat.beq q.length sz) = true := by rfl) (h24 : Nat.ble (n * sz) 16777216 = true := by rfl) (hd : Nat.ble nt d = false := by rfl) :
  br P r ops Q nt D (⟨some d, .buildSlice t n parts, ty, pos, af, none⟩ :: rest) fr B L := by
 obtain ⟨h1, h2⟩ := bz ok ht
 refine bW hd rfl (xo h1 h2 hv hxs hn hi hz h24) fun c L' hh => ?_
 obtain ⟨b, h1, h2⟩ := hh
 subst h1; subst h2
 exact h b
theorem cP (ok : dG P tt) (L0 : AL) {e sz by_ : Nat} {k : Option (Nat × Nat)} {l l2 : List (List AV)} (ht : jH tt t = some (e, sz, by_)) (hx : bh fr x = some (.vec k sz l)) (hy : bh fr y = some u) (hu : iD u = some (sz, l2)) (hL : L.Perm (_root_.Go.Proofs.YtamjlkdanllgjaaGreatDoor.tok k e sz l.length ++ L0)) (h63 : l.length + l2.length ≤ 9223372036854775807) (hby : (l.length + l2.length) * by_ ≤ 140737488355328) (hd : Nat.ble nt d = false)
  (h : ∀ k', br P r ops Q nt D rest ((d, .vec k' sz (l ++ l2)) :: fr) B (_root_.Go.Proofs.YtamjlkdanllgjaaGreatDoor.tok k' e sz (l ++ l2).length ++ L0)) :
  br P r ops Q nt D (⟨some d, .call ⟨.builtin .append, #[x, y], #[t, t]⟩, ty, pos, af, none⟩ :: rest) fr B L := bW hd rfl (oX L0 (bz ok ht).1 (bz ok ht).2 hx hy (cV hu) hL h63 hby) fun c L' ⟨k', h1, h2⟩ => by subst h1; subst h2; exact h k'
class AD (P : Program) (f : FuncId) (args : List AV) (u : outParam AV) : Prop where
 det : bw P f args u
theorem bc {f : FuncId} {args : Array Operand} {ts : Array TypeId} (h : br P r ops Q nt D (⟨some d, .call ⟨.value (.func f), args, ts⟩, ty, pos, af, none⟩ :: rest) fr B L) : br P r ops Q nt D (⟨some d, .call ⟨.value (.func f), args, ts⟩, ty, pos, af, none⟩ :: rest) fr B L := h
theorem aX {f : FuncId} {args : Array Operand} {ts : Array TypeId} {cs ds : List AV} [bv P f] (h : br P r ops Q nt D rest ((d, u) :: fr) B L) (hv : dZ fr args.toList = some cs := by rfl) (hi : lI cs = some ds := by rfl) (hc : AD P f ds u := by infer_instance) (hd : Nat.ble nt d = false := by rfl) :
  br P r ops Q nt D (⟨some d, .call ⟨.value (.func f), args, ts⟩, ty, pos, af, none⟩ :: rest) fr B L := bW hd rfl (xm (u := u) hv (by rw [gg hi]; exact hc.det)) fun c L' hh => by obtain ⟨h1, h2⟩ := hh; subst h1; subst h2; exact h
theorem bK {cd : Operand} {xx yy : Code} (hc : bh fr cd = some (.sc (.bool true))) (h : AT P r xx Q nt D fr B L) : AT P r (.cond cd xx yy) Q nt D fr B L := ay hc (fun _ => h) (fun e => by cases e)
theorem bi {cd : Operand} {xx yy : Code} (hc : bh fr cd = some (.sc (.bool false))) (h : AT P r yy Q nt D fr B L) : AT P r (.cond cd xx yy) Q nt D fr B L := ay hc (fun e => by cases e) (fun _ => h)
end
def eM (fr : bJ) : List Nat → Option bJ
 | [] => some []
 | t :: r => match bQ fr t with
  | some v => match eM fr r with
   | some q => some ((t, v) :: q)
   | none => none
  | none => none
theorem dq {fr : bJ} : ∀ (ks : List Nat) {fr0 : bJ}, eM fr ks = some fr0 → jO fr0 fr
 | [], fr0, h => by simp [eM] at h; subst h; trivial
 | t :: r, fr0, h => by
  simp only [eM] at h
  split at h
  ·rename_i v hv
   split at h
   ·rename_i q hq
    cases h
    exact ⟨hv, dq r hq⟩
   ·cases h
  ·cases h
theorem kj {a b fr : bJ} (ha : jO a fr) (hb : jO b fr) : jO (a ++ b) fr := by
 induction a with
 | nil => exact hb
 | cons p r ih => obtain ⟨i, v⟩ := p; exact ⟨ha.1, ih ha.2⟩
section
variable {P : Program} {r : Option Nat} {Q : Exit → Act → World → Prop} {nt : Nat} {D : List Deferred} {fr : bJ} {B : Bs} {L : AL} {cd : Code}
def Ct (nt : Nat) (D : List Deferred) (B : Bs) {α : Type} (Inv : α → bJ) (J : α → AL → Prop) (μ : α → Nat) (x : α) (Q : Exit → Act → World → Prop) : Exit → Act → World → Prop := Exit.then (fun a w => ∃ σ x' L', ga σ nt D (Inv x') a ∧ J x' L' ∧ ct B σ L' w ∧ μ x' < μ x) Q
def aW (nt : Nat) (D : List Deferred) (B : Bs) {α : Type} (V : α → bJ) (fr0 : bJ) (C : α → Prop) (Lx : α → AL) (μ : α → Nat) (x : α) (Q : Exit → Act → World → Prop) : Exit → Act → World → Prop := Ct nt D B (fun x => V x ++ fr0) (fun x L' => C x ∧ L' = Lx x) μ x Q
theorem aI (ks : List Nat) {α : Type} (V : α → bJ) (C : α → Prop) (Lx : α → AL) (μ : α → Nat) (x0 : α) {fr0 : bJ} (hk : eM fr ks = some fr0) (hV : jO (V x0) fr) (hC : C x0) (hL : ∀ σ w, ct B σ L w → ct B σ (Lx x0) w)
  (hb : ∀ x, C x → AT P r cd (aW nt D B V fr0 C Lx μ x Q) nt D (V x ++ fr0) B (Lx x)) : AT P r (.loop cd) Q nt D fr B L :=
 Ab (fun x => V x ++ fr0) (fun x L' => C x ∧ L' = Lx x) μ x0 (Lx x0) (kj hV (dq ks hk)) ⟨hC, rfl⟩ hL fun x L' ⟨h1, h2⟩ => by subst h2; exact hb x h1
theorem aF {α : Type} {V : α → bJ} {fr0 : bJ} {C : α → Prop} {Lx : α → AL} {μ : α → Nat} {x : α} (x' : α) (hk : eM fr (fr0.map (·.1)) = some fr0) (hV : jO (V x') fr) (hC : C x') (hm : μ x' < μ x) (hL : ∀ σ w, ct B σ L w → ct B σ (Lx x') w) :
  AX P .normal (aW nt D B V fr0 C Lx μ x Q) nt D fr B L :=
 xy x' (Lx x') (kj hV (dq _ hk)) ⟨hC, rfl⟩ hL hm
theorem az {α : Type} {V : α → bJ} {fr0 : bJ} {C : α → Prop} {Lx : α → AL} {μ : α → Nat} {x : α} {id : Nat} (h : AX P (.exit id) Q nt D fr B L) : AX P (.exit id) (aW nt D B V fr0 C Lx μ x Q) nt D fr B L := fun σ a w ha hw => h σ a w ha hw
theorem bB {α : Type} {V : α → bJ} {fr0 : bJ} {C : α → Prop} {Lx : α → AL} {μ : α → Nat} {x : α} (h : AX P .ret Q nt D fr B L) : AX P .ret (aW nt D B V fr0 C Lx μ x Q) nt D fr B L := fun σ a w ha hw => h σ a w ha hw
theorem pV {fr0 : bJ} (ks : List Nat) (hk : eM fr ks = some fr0) (h : AT P r cd Q nt D fr0 B L) : AT P r cd Q nt D fr B L := kl (dq ks hk) (fun _ _ h => h) h
end
theorem co {P : Program} {r : Option Nat} {ops : Array Oper} {Q : Exit → Act → World → Prop} {nt : Nat} {D : List Deferred} {fr fr0 : bJ} {B : Bs} {L : AL} {rest : List Oper} {A A' : Code} {t : Nat} (ks : List Nat) (C : Prop) (hks : eM fr ks = some fr0) (h : ∀ Q', (∀ fr' b, eM fr' ks = some fr0 → bQ fr' t = some (.sc (.bool b)) → (b = true ↔ C) → AX P .normal Q' nt D fr' B L) → br P r ops Q' nt D rest fr B L) (hA : C → AT P r A Q nt D fr0 B L) (hB : ¬ C → AT P r A' Q nt D fr0 B L) : br P r ops (Kt P r (.cond (.tmp t) A A') Q) nt D rest fr B L := by
 refine h _ fun fr' b hk hb hC => ?_
 refine a8 (ay hb (fun e => ?_) (fun e => ?_))
 ·exact kl (dq _ hk) (fun _ _ h => h) (hA (hC.1 e))
 ·exact kl (dq _ hk) (fun _ _ h => h) (hB fun hc => by have := hC.2 hc; rw [e] at this; cases this)
end Go.Proofs.YtamjlkdanllgjaaGreatDoor
namespace Go.Proofs.YtamjlkdanllgjaaGreatDoor
open Go.RowKit
section
variable {P : Program} {r : Option Nat} {ops : Array Oper} {Q : Exit → Act → World → Prop} {nt : Nat} {D : List Deferred} {fr : bJ} {B : Bs} {L : AL} {rest : List Oper} {cd : Code} {φ : Prop}
theorem D4 (hφ : ∀ σ a w, ga σ nt D fr a → ct B σ L w → φ) (h : φ → AT P r cd Q nt D fr B L) : AT P r cd Q nt D fr B L := fun σ a w ha hw => h (hφ σ a w ha hw) σ a w ha hw
theorem Ac (hφ : ∀ σ a w, ga σ nt D fr a → ct B σ L w → φ) (h : φ → br P r ops Q nt D rest fr B L) : br P r ops Q nt D rest fr B L := fun σ a w ha hw => h (hφ σ a w ha hw) σ a w ha hw
theorem y8 {σ : bT} {u : AV} {v : Value} {s : Nat} {l : List (List AV)} (h : VR σ u v) (hu : iD u = some (s, l)) : l.length ≤ 9223372036854775807 ∧ ∀ e ∈ l, e.length = s := by
 have h1 := h.im
 rw [cV hu] at h1
 obtain ⟨_, _, _, h2, h3, h4, _⟩ := h1.imm_inv
 unfold maxLen at h3
 exact ⟨by omega, h4⟩
theorem cJ (t : Nat) {u : AV} {s : Nat} {l : List (List AV)} (hl : bQ fr t = some u) (hu : iD u = some (s, l)) (h : l.length ≤ 9223372036854775807 → AT P r cd Q nt D fr B L) : AT P r cd Q nt D fr B L :=
 D4 (fun σ a w ha _ => (y8 (ha.look t u hl) hu).1) h
end
section
variable {P : Program} {nt : Nat} {fr : bJ} {B : Bs} {L : AL}
theorem xw {fn : Func} {Post : AV → AL → Prop} {t : Tmp} {c : AV} {s : Nat} {l : List (List AV)} (hr : fn.results = #[.tmp t]) (hv : bQ fr t = some c) (hi : iD c = some (s, l)) (h : Post (.imm s l) L) : AX P .ret (bodyPost P fn (fN B Post)) nt [] fr B L :=
 fun σ a w ha hw => ⟨ha.defers, _, results_tmp hr _ _ _, _, σ, .imm s l, L, rfl, by rw [← cV hi]; exact (ha.look t c hv).im, hw, h⟩
end
section
variable {P : Program} {r : Option Nat} {ops : Array Oper} {Q : Exit → Act → World → Prop} {nt : Nat} {D : List Deferred} {fr : bJ} {B : Bs} {L : AL} {rest : List Oper} {d : Nat} {ty : TypeId} {pos : String} {af : Array Edge}
def GU (P : Program) (f : FuncId) (args : List AV) (e s : Nat) (l : List (List AV)) : Prop := AC P f args [] fun c L => ∃ k, c = .vec k s l ∧ L = _root_.Go.Proofs.YtamjlkdanllgjaaGreatDoor.tok k e s l.length
end
def aT (l : List Int) : List (List AV) := l.map fun z => [.sc (.int .i64 z)]
theorem bg (l : List Int) : (aT l).length = l.length := by simp [aT]
theorem bU {l : List Int} {i : Nat} {z : Int} (h : l[i]? = some z) : (aT l)[i]? = some [.sc (.int .i64 z)] := by simp [aT, h]
end Go.Proofs.YtamjlkdanllgjaaGreatDoor
