/-
  A region whose order Go leaves open, walked once, in an order of our own: values; calls and the like that make memory; new boxes that may come at any time.
-/
import Derived.Test.YtbgolbkolcmldaaGB
import Derived.Test.YtbgolbkolcmldaaGD
import Derived.Test.YtbgolbkolcmldaaGT
import Derived.KernelRfl

namespace Go.Proofs.Ytbgolbkolcmldaa
open Go.RowKit

variable {P : Program} {r : Option Nat} {Q : Exit → Act → World → Prop} {nt : Nat} {D : List Deferred} {fr : Fr} {w0 : World} {X : List Nat}

/-- v: a value; e: makes memory; h: likewise, and turns the newest block; a: a new box -/
inductive Sk where
  | v | e | h | a
def skE (hd : Bool) : Sk := bif hd then .h else .e
def Sk.isA : Sk → Bool | .a => true | _ => false
def Sk.isV : Sk → Bool | .v => true | _ => false

inductive Pl : Type 1 where
  | fin
  | val (k : Nat) (u : Value) (nx : Pl)
  | eff (k : Nat) (hd c : Bool) (α : Type) (C : α → Prop) (u : α → Value) (N : α → HL) (M : α → HL) (nx : α → Pl)
  | alo (k : Nat) (nx : Nat → Pl)

abbrev SkL := List (Nat × Sk)
def hdF : SkL → Bool
  | [] => true
  | (_, .v) :: r => hdF r
  | (_, .h) :: _ => false
  | _ => true
def alos : SkL → List Nat
  | [] => []
  | (k, .a) :: r => k :: alos r
  | _ :: r => alos r
def hidn (c : Bool) (Hn : HL) : HL := bif c then [] else Hn
def hidy (c : Bool) (Hn : HL) : HL := bif c then Hn else []
def dropHd (hd : Bool) (L : HL) : HL := if hd then L.tail else L
def tof (l : List Oper) (k : Nat) : TypeId := match l[k]? with
  | some ⟨_, .alloc t, _, _, _, _⟩ => t
  | _ => 0
def zof (P : Program) (t : TypeId) : List Value := match (P.info? t).bind (·.zero) with
  | some v => v.cells.toList
  | none => []
theorem zof_eq {t : TypeId} {z : List Value} (h : CZ P t z) (w : World) : zof P t = z := by
  obtain ⟨v, hv, hr⟩ := h.run
  have := hr w
  unfold zof
  cases hi : P.info? t with
  | none => simp [zeroValue, typeInfo, hi] at this
  | some i =>
    cases hz : i.zero with
    | none => simp [zeroValue, typeInfo, hi, hz] at this
    | some v' =>
      simp [zeroValue, typeInfo, hi, hz] at this
      subst this
      simp [hz, hv]
def al (P : Program) (l : List Oper) (k : Nat) : Obj → Prop := bx (zof P (tof l k)) (tof l k)

def VSpec (P : Program) (l : List Oper) (fr : Fr) (w0 : World) (X : List Nat) (o : Oper) (u : Value) (acc : Fr) (L : HL) : Prop := match o.guard with
  | none => ∀ L', O P o (frk l.toArray (lv acc) fr o.after.toList) (St w0 X (L ++ L')) (fun v w => v = u ∧ St w0 X (L ++ L') w)
  | some (j, want) => (lv acc j = .bool want ∧ ∀ L', O P o (frk l.toArray (lv acc) fr o.after.toList) (St w0 X (L ++ L')) (fun v w => v = u ∧ St w0 X (L ++ L') w)) ∨ (lv acc j ≠ .bool want ∧ u = undef)
def GOk (o : Oper) (acc : Fr) : Prop := match o.guard with
  | none => True
  | some (j, want) => lv acc j = .bool want

def Ok (P : Program) (l : List Oper) (fr : Fr) (w0 : World) (X : List Nat) (fin : Fr → HL → Prop) : Pl → SkL → Fr → HL → HL → Prop
  | .fin, sk, acc, L, Hn => sk = [] ∧ fin acc (L ++ Hn)
  | .val k u nx, sk, acc, L, Hn => ∃ s r o, sk = (k, s) :: r ∧ s.isA = false ∧ hdF r = true ∧ l[k]? = some o ∧ VSpec P l fr w0 X o u acc L ∧ Ok P l fr w0 X fin nx r ((k, u) :: acc) L Hn
  | .eff k hd c α C u N M nx, sk, acc, L, Hn => ∃ r o, sk = (k, skE hd) :: r ∧ l[k]? = some o ∧ GOk o acc ∧ (hdF r = true ∨ ∀ x, C x → N x ≠ [] ∧ M x = N x ++ dropHd hd L) ∧ (∀ x, C x → (M x).Perm (N x ++ dropHd hd L)) ∧
      (∀ L', O P o (frk l.toArray (lv acc) fr o.after.toList) (St w0 X (L ++ hidy c Hn ++ L')) (fun v w => ∃ x, C x ∧ v = u x ∧ St w0 X (M x ++ L') w)) ∧ ∀ x, C x → Ok P l fr w0 X fin (nx x) r ((k, u x) :: acc) (M x) (hidn c Hn)
  | .alo k nx, sk, acc, L, Hn => ∃ r, sk = (k, .a) :: r ∧ ∀ b, Ok P l fr w0 X fin (nx b) r ((k, .pointer (some ⟨b, 0, none⟩)) :: acc) ((b, al P l k) :: L) Hn

def Front (P : Program) (l : List Oper) (ks : List Nat) (L : HL) (S : Nat → Bool) (ε : Nat → Value) (Lx : HL) : Prop :=
  ∃ bs : Nat → Nat, (∀ k ∈ ks, S k = true → ε k = .pointer (some ⟨bs k, 0, none⟩)) ∧ Lx.Perm (L ++ (ks.filter S).map fun k => (bs k, al P l k))

def Sh (P : Program) (l : List Oper) (S : Nat → Bool) (ε : Nat → Value) (Lx : HL) : Pl → SkL → HL → HL → Prop
  | .fin, _, L, Hn => Lx.Perm (L ++ Hn)
  | .val k u nx, sk, L, Hn => (S k = true → ε k = u) ∧ Sh P l S ε Lx nx sk.tail L Hn
  | .eff k hd c _ C u N M nx, sk, L, Hn => (S k = true ∧ ∃ x, C x ∧ ε k = u x ∧ Sh P l S ε Lx (nx x) sk.tail (M x) (hidn c Hn)) ∨ (S k = false ∧ Front P l (alos sk) (L ++ Hn) S ε Lx)
  | .alo k nx, sk, L, Hn => (S k = true ∧ ∃ b, ε k = .pointer (some ⟨b, 0, none⟩) ∧ Sh P l S ε Lx (nx b) sk.tail ((b, al P l k) :: L) Hn) ∨ (S k = false ∧ Front P l (alos sk) (L ++ Hn) S ε Lx)

theorem perm_tail {Lx L L' : HL} (h : Lx.Perm (L ++ L')) : ∃ L'', Lx.Perm (L.tail ++ L'') := by
  cases L with
  | nil => exact ⟨L', h⟩
  | cons p t => exact ⟨p :: L', h.trans List.perm_middle.symm⟩

section
variable {l : List Oper} {fin : Fr → HL → Prop}

theorem sh_keep {S : Nat → Bool} {ε : Nat → Value} {Lx : HL} : ∀ (pl : Pl) (sk : SkL) (acc : Fr) (L Hn : HL), Ok P l fr w0 X fin pl sk acc L Hn → Sh P l S ε Lx pl sk L Hn → ∃ L', Lx.Perm ((if hdF sk then L else L.tail) ++ L')
  | .fin, sk, acc, L, Hn, ho, hs => by
    obtain ⟨rfl, _⟩ := ho
    exact ⟨Hn, hs⟩
  | .val k u nx, sk, acc, L, Hn, ho, hs => by
    obtain ⟨s, r, o, rfl, hsa, hr, _, _, hn⟩ := ho
    obtain ⟨L', hp⟩ := sh_keep nx r _ L Hn hn hs.2
    rw [hr, if_pos rfl] at hp
    split
    · exact ⟨L', hp⟩
    · exact perm_tail hp
  | .eff k hd c α C u N M nx, sk, acc, L, Hn, ho, hs => by
    obtain ⟨r, o, rfl, _, _, hne, hpm, _, hn⟩ := ho
    rcases hs with ⟨_, x, hC, _, hs⟩ | ⟨_, bs, _, hp⟩
    · obtain ⟨L', hp⟩ := sh_keep (nx x) r _ _ _ (hn x hC) hs
      have key : ∃ L'', Lx.Perm (dropHd hd L ++ L'') := by
        cases hr : hdF r with
        | true =>
          rw [hr, if_pos rfl] at hp
          exact ⟨N x ++ L', hp.trans (((hpm x hC).append_right L').trans ((List.perm_append_comm.append_right L').trans (by simp)))⟩
        | false =>
          rw [hr, if_neg (by simp)] at hp
          rcases hne with h | h
          · rw [hr] at h; cases h
          · obtain ⟨h1, h2⟩ := h x hC
            rw [h2] at hp
            cases hN : N x with
            | nil => exact absurd hN h1
            | cons p t =>
              rw [hN] at hp
              exact ⟨t ++ L', hp.trans ((List.perm_append_comm.append_right L').trans (by simp))⟩
      obtain ⟨L'', hp⟩ := key
      cases hd with
      | true => exact ⟨L'', by simpa [hdF, dropHd, skE] using hp⟩
      | false => exact ⟨L'', by simpa [hdF, dropHd, skE] using hp⟩
    · rw [List.append_assoc] at hp
      split
      · exact ⟨_, hp⟩
      · exact perm_tail hp
  | .alo k nx, sk, acc, L, Hn, ho, hs => by
    obtain ⟨r, rfl, hn⟩ := ho
    have e : hdF ((k, Sk.a) :: r) = true := rfl
    rw [e, if_pos rfl]
    rcases hs with ⟨_, b, _, hs⟩ | ⟨_, bs, _, hp⟩
    · obtain ⟨L', hp⟩ := sh_keep (nx b) r _ _ _ (hn b) hs
      split at hp
      · exact ⟨(b, al P l k) :: L', hp.trans (by simpa using (List.perm_middle (a := (b, al P l k)) (l₁ := L) (l₂ := L')).symm)⟩
      · exact ⟨L', hp⟩
    · rw [List.append_assoc] at hp
      exact ⟨_, hp⟩

theorem sh_fresh {S : Nat → Bool} {ε : Nat → Value} {Lx : HL} : ∀ (pl : Pl) (sk : SkL) (acc : Fr) (L Hn : HL), Ok P l fr w0 X fin pl sk acc L Hn → (∀ p ∈ sk, p.2.isA = false → S p.1 = false) → Front P l (alos sk) (L ++ Hn) S ε Lx → Sh P l S ε Lx pl sk L Hn
  | .fin, sk, acc, L, Hn, ho, _, hf => by
    obtain ⟨rfl, _⟩ := ho
    obtain ⟨bs, _, hp⟩ := hf
    have hp' : Lx.Perm (L ++ Hn) := by simpa [alos] using hp
    exact hp'
  | .val k u nx, sk, acc, L, Hn, ho, hS, hf => by
    obtain ⟨s, r, o, rfl, hsa, _, _, _, hn⟩ := ho
    have h0 := hS (k, s) (by simp) hsa
    refine ⟨fun (h : S k = true) => Bool.noConfusion (h0.symm.trans h), sh_fresh nx r _ L Hn hn (fun p hp => hS p (List.mem_cons_of_mem _ hp)) ?_⟩
    cases s <;> first | exact hf | cases hsa
  | .eff k hd c α C u N M nx, sk, acc, L, Hn, ho, hS, hf => by
    obtain ⟨r, o, rfl, _⟩ := ho
    exact .inr ⟨hS (k, skE hd) (by simp) (by cases hd <;> rfl), hf⟩
  | .alo k nx, sk, acc, L, Hn, ho, hS, hf => by
    obtain ⟨r, rfl, hn⟩ := ho
    cases hk : S k with
    | false => exact .inr ⟨hk, hf⟩
    | true =>
      obtain ⟨bs, h1, hp⟩ := hf
      refine .inl ⟨hk, bs k, h1 k (by simp [alos]) hk, sh_fresh (nx (bs k)) r _ _ _ (hn _) (fun p hp => hS p (List.mem_cons_of_mem _ hp)) ⟨bs, fun j hj => h1 j (by simp [alos, hj]), ?_⟩⟩
      simp only [alos, List.filter_cons, hk, if_true, List.map_cons] at hp
      exact hp.trans List.perm_middle

theorem sh_congr {S S' : Nat → Bool} {ε ε' : Nat → Value} {Lx : HL} : ∀ (pl : Pl) (sk : SkL) (acc : Fr) (L Hn : HL), Ok P l fr w0 X fin pl sk acc L Hn → (∀ p ∈ sk, S' p.1 = S p.1 ∧ ε' p.1 = ε p.1) → Sh P l S ε Lx pl sk L Hn → Sh P l S' ε' Lx pl sk L Hn
  | .fin, sk, acc, L, Hn, ho, _, hs => hs
  | .val k u nx, sk, acc, L, Hn, ho, hc, hs => by
    obtain ⟨s, r, o, rfl, _, _, _, _, hn⟩ := ho
    obtain ⟨h1, h2⟩ := hc (k, s) (by simp)
    simp only at h1 h2
    exact ⟨fun h => by rw [h2]; exact hs.1 (by rw [← h1]; exact h), sh_congr nx r _ L Hn hn (fun p hp => hc p (List.mem_cons_of_mem _ hp)) hs.2⟩
  | .eff k hd c α C u N M nx, sk, acc, L, Hn, ho, hc, hs => by
    obtain ⟨r, o, rfl, _, _, _, _, _, hn⟩ := ho
    obtain ⟨h1, h2⟩ := hc (k, skE hd) (by simp)
    simp only at h1 h2
    rcases hs with ⟨hk, x, hC, hx, hs⟩ | ⟨hk, hf⟩
    · exact .inl ⟨by rw [h1]; exact hk, x, hC, by rw [h2]; exact hx, sh_congr (nx x) r _ _ _ (hn x hC) (fun p hp => hc p (List.mem_cons_of_mem _ hp)) hs⟩
    · exact .inr ⟨by rw [h1]; exact hk, front_congr _ hc hf⟩
  | .alo k nx, sk, acc, L, Hn, ho, hc, hs => by
    obtain ⟨r, rfl, hn⟩ := ho
    obtain ⟨h1, h2⟩ := hc (k, Sk.a) (by simp)
    simp only at h1 h2
    rcases hs with ⟨hk, x, hx, hs⟩ | ⟨hk, hf⟩
    · exact .inl ⟨by rw [h1]; exact hk, x, by rw [h2]; exact hx, sh_congr (nx x) r _ _ _ (hn x) (fun p hp => hc p (List.mem_cons_of_mem _ hp)) hs⟩
    · exact .inr ⟨by rw [h1]; exact hk, front_congr _ hc hf⟩
where
  mem_alos : ∀ (sk : SkL) {k : Nat}, k ∈ alos sk → (k, Sk.a) ∈ sk
    | [], k, h => by simp [alos] at h
    | (j, s) :: r, k, h => by
      cases s with
      | a =>
        rcases List.mem_cons.1 (by simpa [alos] using h : k ∈ j :: alos r) with rfl | h
        · simp
        · exact List.mem_cons_of_mem _ (mem_alos r h)
      | _ => exact List.mem_cons_of_mem _ (mem_alos r (by simpa [alos] using h))
  front_congr {S S' : Nat → Bool} {ε ε' : Nat → Value} {L Lx : HL} (sk : SkL) (hc : ∀ p ∈ sk, S' p.1 = S p.1 ∧ ε' p.1 = ε p.1) (h : Front P l (alos sk) L S ε Lx) : Front P l (alos sk) L S' ε' Lx := by
    obtain ⟨bs, h1, hp⟩ := h
    have hm : ∀ k ∈ alos sk, S' k = S k ∧ ε' k = ε k := fun k hk => hc (k, Sk.a) (mem_alos sk hk)
    refine ⟨bs, fun k hk hs => by rw [(hm k hk).2]; exact h1 k hk (by rw [← (hm k hk).1]; exact hs), ?_⟩
    rw [List.filter_congr (fun k hk => (hm k hk).1)]
    exact hp

def binAll (dn : List Nat) (es : List Edge) : Bool := es.all fun e => !Region.binds .any e || dn.any (Nat.beq e.on)
def skChk (l : List Oper) : List Nat → SkL → Bool
  | _, [] => true
  | dn, (k, s) :: r => (match l[k]? with | some o => binAll dn o.after.toList | none => false) && !dn.any (Nat.beq k) && !r.any (fun p => Nat.beq k p.1) && (s.isV || r.all fun p => p.2.isA || reachIn l.toArray 8 p.1 k) && skChk l (k :: dn) r

theorem skChk_spec {dn : List Nat} {k : Nat} {s : Sk} {r : SkL} (h : skChk l dn ((k, s) :: r) = true) : (∀ o, l[k]? = some o → ∀ e ∈ o.after, Region.binds .any e = true → e.on ∈ dn) ∧ (∀ p ∈ r, p.1 ≠ k) ∧ (s.isV = false → ∀ p ∈ r, p.2.isA = false → reachIn l.toArray 8 p.1 k = true) ∧ skChk l (k :: dn) r = true := by
  simp only [skChk, Bool.and_eq_true] at h
  obtain ⟨⟨⟨⟨h1, _⟩, h2⟩, h3⟩, h4⟩ := h
  refine ⟨fun o ho e he hb => ?_, fun p hp e => ?_, fun hs p hp ha => ?_, h4⟩
  · rw [ho] at h1
    simp only [binAll, List.all_eq_true] at h1
    have := h1 e (by simpa using he)
    rw [hb] at this
    simp only [Bool.not_true, Bool.false_or, List.any_eq_true] at this
    obtain ⟨x, hx, hxe⟩ := this
    rw [Nat.beq_eq] at hxe
    rw [hxe]; exact hx
  · have : (r.any fun p => Nat.beq k p.1) = true := List.any_eq_true.2 ⟨p, hp, by rw [Nat.beq_eq]; exact e.symm⟩
    rw [this] at h2
    cases h2
  · rw [hs, Bool.false_or] at h3
    have := List.all_eq_true.1 h3 p hp
    rw [ha, Bool.false_or] at this
    exact this

theorem mark_closed {S : Nat → Bool} {k : Nat} {o : Oper} (hc : Closed l.toArray S) (hk : l[k]? = some o) (hd : ∀ e ∈ o.after, Region.binds .any e = true → S e.on = true) : Closed l.toArray (mark S k) := by
  intro i oi hi hm e he hb
  by_cases hik : i = k
  · subst hik
    have : oi = o := by simpa [hk] using hi.symm
    subst this
    simp [mark, hd e he hb]
  · have : S i = true := by simpa [mark, hik] using hm
    simp [mark, hc i oi hi this e he hb]

def Cn (o : Oper) (ε : Nat → Value) (A B : Prop) : Prop := match o.guard with
  | none => A
  | some (j, want) => (ε j = .bool want → A) ∧ (ε j ≠ .bool want → B)
theorem Cn.mono {o : Oper} {ε : Nat → Value} {A B A' B' : Prop} (h : Cn o ε A B) (ha : A → A') (hb : B → B') : Cn o ε A' B' := by
  unfold Cn at *
  split at h <;> simp_all

theorem sh_step {S : Nat → Bool} {ε : Nat → Value} {k : Nat} {o : Oper} {ρ : Operand → Value} {w : World} {Lx : HL} (okG : okGuards l.toArray l = true) (hk : l[k]? = some o) (hc : Closed l.toArray S) (hSk : S k = false) (hd : ∀ e ∈ o.after, Region.binds .any e = true → S e.on = true)
    (hρ : ∀ x v, fev (frk l.toArray ε fr o.after.toList) x = some v → ρ x = v) (hst : St w0 X Lx w) : ∀ (pl : Pl) (sk : SkL) (dn : List Nat) (acc : Fr) (L Hn : HL), Ok P l fr w0 X fin pl sk acc L Hn → skChk l dn sk = true → (∀ j ∈ dn, S j = true → ε j = lv acc j) → (∃ s, (k, s) ∈ sk ∧ s.isA = false) → (∀ s, (k, s) ∈ sk → s.isA = false) → Sh P l S ε Lx pl sk L Hn →
    Cn o ε (Op1 P o ρ w fun v w' => ∃ Lx', Sh P l (mark S k) (upd ε k v) Lx' pl sk L Hn ∧ St w0 X Lx' w') (Sh P l (mark S k) (upd ε k undef) Lx pl sk L Hn)
  | .fin, sk, dn, acc, L, Hn, ho, _, _, ⟨s, hs, _⟩, _, _ => by
    obtain ⟨rfl, _⟩ := ho
    simp at hs
  | .val j u nx, sk, dn, acc, L, Hn, ho, hchk, hacc, ⟨s, hs, hsa⟩, hall, hsh => by
    obtain ⟨s', r', o', rfl, hsa', hr, hj, hv, hn⟩ := ho
    obtain ⟨c1, c2, c3, c4⟩ := skChk_spec hchk
    by_cases e : j = k
    · subst e
      have : o' = o := by rw [hk] at hj; injection hj with hj; exact hj.symm
      subst this
      have hfr : frk l.toArray ε fr o'.after.toList = frk l.toArray (lv acc) fr o'.after.toList := frk_congr _ fun e he hb => hacc _ (c1 o' hk e (by simpa using he) hb) (hd e (by simpa using he) hb)
      have hnew : ∀ v, Sh P l (mark S j) (upd ε j v) Lx nx r' L Hn := fun v => sh_congr nx r' _ L Hn hn (fun p hp => by
        have := c2 p hp
        simp [mark, upd, this]) hsh.2
      have hO : (∀ L', O P o' (frk l.toArray (lv acc) fr o'.after.toList) (St w0 X (L ++ L')) (fun v w => v = u ∧ St w0 X (L ++ L') w)) → Op1 P o' ρ w fun v w' => ∃ Lx', Sh P l (mark S j) (upd ε j v) Lx' (.val j u nx) ((j, s') :: r') L Hn ∧ St w0 X Lx' w' := by
        intro hO
        obtain ⟨L', hp⟩ := sh_keep nx r' _ L Hn hn hsh.2
        rw [hr, if_pos rfl] at hp
        rw [hfr] at hρ
        refine (hO L' ρ w hρ (hst.perm hp)).mono ?_
        rintro v w' ⟨rfl, h'⟩
        exact ⟨Lx, ⟨fun _ => by simp [upd], hnew v⟩, h'.perm hp.symm⟩
      unfold VSpec at hv
      unfold Cn
      cases hg : o'.guard with
      | none => rw [hg] at hv; exact hO hv
      | some q =>
        obtain ⟨g, want⟩ := q
        rw [hg] at hv
        obtain ⟨hej, _⟩ := okGuards_spec l.toArray l okG j o' g want hk hg
        obtain ⟨e, he, hb, hei⟩ := edgeTo_iff.1 hej
        have hgv : ε g = lv acc g := by rw [← hei]; exact hacc _ (c1 o' hk e he hb) (hd e he hb)
        simp only at hv ⊢
        rw [hgv]
        rcases hv with ⟨hy, hO'⟩ | ⟨hne, hu⟩
        · exact ⟨fun _ => hO hO', fun h => absurd hy h⟩
        · refine ⟨fun h => absurd h hne, fun _ => ⟨fun _ => by simp [upd, hu], hnew undef⟩⟩
    · have hmem : ∀ s, (k, s) ∈ (j, s') :: r' → (k, s) ∈ r' := fun s h => by
        rcases List.mem_cons.1 h with h | h
        · injection h with h _; exact absurd h.symm e
        · exact h
      refine (sh_step okG hk hc hSk hd hρ hst nx r' (j :: dn) ((j, u) :: acc) L Hn hn c4 ?_ ⟨s, hmem s hs, hsa⟩ (fun s h => hall s (List.mem_cons_of_mem _ h)) hsh.2).mono ?_ ?_
      · intro i hi hSi
        rw [lv_cons]
        rcases List.mem_cons.1 hi with rfl | hi
        · rw [if_pos rfl]; exact hsh.1 hSi
        · by_cases hji : j = i
          · subst hji; rw [if_pos rfl]; exact hsh.1 hSi
          · rw [if_neg hji]; exact hacc i hi hSi
      · intro h
        refine h.mono fun v w' ⟨Lx', h1, h2⟩ => ⟨Lx', ⟨fun hm => ?_, h1⟩, h2⟩
        simp only [mark, upd, if_neg e] at hm ⊢
        exact hsh.1 (by simpa [e] using hm)
      · intro h
        refine ⟨fun hm => ?_, h⟩
        simp only [mark, upd, if_neg e] at hm ⊢
        exact hsh.1 (by simpa [e] using hm)
  | .eff j hdd cc α C u N M nx, sk, dn, acc, L, Hn, ho, hchk, hacc, ⟨s, hs, hsa⟩, hall, hsh => by
    obtain ⟨r', o', rfl, hj, hg, hne, hpm, hO, hn⟩ := ho
    obtain ⟨c1, c2, c3, c4⟩ := skChk_spec hchk
    have hsv : (skE hdd).isV = false := by cases hdd <;> rfl
    by_cases e : j = k
    · subst e
      have : o' = o := by rw [hk] at hj; injection hj with hj; exact hj.symm
      subst this
      have hfr : frk l.toArray ε fr o'.after.toList = frk l.toArray (lv acc) fr o'.after.toList := frk_congr _ fun e he hb => hacc _ (c1 o' hk e (by simpa using he) hb) (hd e (by simpa using he) hb)
      have hal : alos ((j, skE hdd) :: r') = alos r' := by cases hdd <;> rfl
      rcases hsh with ⟨h, _⟩ | ⟨_, bs, hb1, hp⟩
      · rw [hSk] at h; cases h
      rw [hal] at hb1 hp
      have hA : Op1 P o' ρ w fun v w' => ∃ Lx', Sh P l (mark S j) (upd ε j v) Lx' (.eff j hdd cc α C u N M nx) ((j, skE hdd) :: r') L Hn ∧ St w0 X Lx' w' := by
        rw [hfr] at hρ
        refine (hO (hidn cc Hn ++ (alos r' |>.filter S |>.map fun k => (bs k, al P l k))) ρ w hρ (hst.perm (hp.trans (List.Perm.of_eq (by cases cc <;> simp [hidn, hidy]))))).mono ?_
        rintro v w' ⟨x, hC, rfl, h'⟩
        have hnk : ∀ p ∈ alos r', p ≠ j := fun p hp => c2 (p, Sk.a) (sh_congr.mem_alos r' hp)
        refine ⟨_, .inl ⟨by simp [mark], x, hC, by simp [upd], sh_fresh (nx x) r' _ _ _ (hn x hC) (fun p hp ha => ?_) ⟨bs, fun i hi hSi => ?_, ?_⟩⟩, h'⟩
        · have hne := c2 p hp
          have hreach := c3 hsv p hp ha
          simp only [mark, hne, decide_false, Bool.false_or]
          cases hSp : S p.1 with
          | false => rfl
          | true =>
            have := reach_spec hc 8 p.1 j hreach hSp
            rw [hSk] at this; cases this
        · have := hnk i hi
          simp only [mark, upd, this, decide_false, Bool.false_or, if_false] at hSi ⊢
          exact hb1 i hi hSi
        · have : (alos r').filter (mark S j) = (alos r').filter S := List.filter_congr fun i hi => by simp [mark, hnk i hi]
          rw [this, ← List.append_assoc]
      unfold Cn
      cases hgg : o'.guard with
      | none => exact hA
      | some q =>
        obtain ⟨g, want⟩ := q
        simp only [GOk, hgg] at hg
        obtain ⟨hej, _⟩ := okGuards_spec l.toArray l okG j o' g want hk hgg
        obtain ⟨e, he, hb, hei⟩ := edgeTo_iff.1 hej
        have hgv : ε g = lv acc g := by rw [← hei]; exact hacc _ (c1 o' hk e he hb) (hd e he hb)
        exact ⟨fun _ => hA, fun h => absurd (hgv.trans hg) h⟩
    · have hmem : ∀ s, (k, s) ∈ (j, skE hdd) :: r' → (k, s) ∈ r' := fun s h => by
        rcases List.mem_cons.1 h with h | h
        · injection h with h _; exact absurd h.symm e
        · exact h
      have hSj : S j = true := by
        have := reach_spec (mark_closed hc hk hd) 8 k j (c3 hsv _ (hmem s hs) hsa) (by simp [mark])
        simpa [mark, e] using this
      rcases hsh with ⟨_, x, hC, hx, hsh⟩ | ⟨h, _⟩
      rotate_left
      · rw [hSj] at h; cases h
      refine (sh_step okG hk hc hSk hd hρ hst (nx x) r' (j :: dn) ((j, u x) :: acc) _ _ (hn x hC) c4 ?_ ⟨s, hmem s hs, hsa⟩ (fun s h => hall s (List.mem_cons_of_mem _ h)) hsh).mono ?_ ?_
      · intro i hi hSi
        rw [lv_cons]
        by_cases hji : j = i
        · subst hji; rw [if_pos rfl]; exact hx
        · rw [if_neg hji]
          rcases List.mem_cons.1 hi with rfl | hi
          · exact absurd rfl hji
          · exact hacc i hi hSi
      · intro h
        refine h.mono fun v w' ⟨Lx', h1, h2⟩ => ⟨Lx', .inl ⟨by simp [mark, hSj], x, hC, by simp [upd, e, hx], h1⟩, h2⟩
      · intro h
        exact .inl ⟨by simp [mark, hSj], x, hC, by simp [upd, e, hx], h⟩
  | .alo j nx, sk, dn, acc, L, Hn, ho, hchk, hacc, ⟨s, hs, hsa⟩, hall, hsh => by
    obtain ⟨r', rfl, hn⟩ := ho
    obtain ⟨c1, c2, c3, c4⟩ := skChk_spec hchk
    by_cases e : j = k
    · subst e
      have := hall Sk.a (by simp)
      cases this
    · have hmem : ∀ s, (k, s) ∈ (j, Sk.a) :: r' → (k, s) ∈ r' := fun s h => by
        rcases List.mem_cons.1 h with h | h
        · injection h with h _; exact absurd h.symm e
        · exact h
      have hSj : S j = true := by
        have := reach_spec (mark_closed hc hk hd) 8 k j (c3 rfl _ (hmem s hs) hsa) (by simp [mark])
        simpa [mark, e] using this
      rcases hsh with ⟨_, x, hx, hsh⟩ | ⟨h, _⟩
      rotate_left
      · rw [hSj] at h; cases h
      refine (sh_step okG hk hc hSk hd hρ hst (nx x) r' (j :: dn) ((j, .pointer (some ⟨x, 0, none⟩)) :: acc) _ _ (hn x) c4 ?_ ⟨s, hmem s hs, hsa⟩ (fun s h => hall s (List.mem_cons_of_mem _ h)) hsh).mono ?_ ?_
      · intro i hi hSi
        rw [lv_cons]
        by_cases hji : j = i
        · subst hji; rw [if_pos rfl]; exact hx
        · rw [if_neg hji]
          rcases List.mem_cons.1 hi with rfl | hi
          · exact absurd rfl hji
          · exact hacc i hi hSi
      · intro h
        refine h.mono fun v w' ⟨Lx', h1, h2⟩ => ⟨Lx', .inl ⟨by simp [mark, hSj], x, by simp [upd, e, hx], h1⟩, h2⟩
      · intro h
        exact .inl ⟨by simp [mark, hSj], x, by simp [upd, e, hx], h⟩

theorem front_add {S : Nat → Bool} {ε : Nat → Value} {k b : Nat} {Lx L : HL} {ks : List Nat} (hn : ks.Nodup) (hk : k ∈ ks) (hSk : S k = false) (h : Front P l ks L S ε Lx) : Front P l ks L (mark S k) (upd ε k (.pointer (some ⟨b, 0, none⟩))) ((b, al P l k) :: Lx) := by
  obtain ⟨bs, h1, hp⟩ := h
  refine ⟨fun i => if i = k then b else bs i, fun i hi hm => ?_, ?_⟩
  · by_cases e : i = k
    · subst e; simp [upd]
    · simp only [upd, if_neg e]
      exact h1 i hi (by simpa [mark, e] using hm)
  · have key : ∀ (ks : List Nat), ks.Nodup → k ∈ ks → ((ks.filter (mark S k)).map fun i => ((if i = k then b else bs i), al P l i)).Perm ((b, al P l k) :: (ks.filter S).map fun i => (bs i, al P l i)) := by
      intro ks
      induction ks with
      | nil => intro _ h; simp at h
      | cons i r ih =>
        intro hn hm
        rw [List.nodup_cons] at hn
        by_cases e : i = k
        · subst e
          have h1 : ∀ j ∈ r, j ≠ i := fun j hj e => hn.1 (by rw [← e]; exact hj)
          have e1 : r.filter (mark S i) = r.filter S := List.filter_congr fun j hj => by simp [mark, h1 j hj]
          simp only [List.filter_cons, hSk, Bool.false_eq_true, if_false]
          rw [if_pos (by simp [mark]), e1, List.map_cons, if_pos rfl]
          refine List.Perm.cons _ (List.Perm.of_eq (List.map_congr_left fun j hj => ?_))
          rw [if_neg (h1 j (List.mem_filter.1 hj).1)]
        · have hm' : k ∈ r := by
            rcases List.mem_cons.1 hm with h | h
            · exact absurd h.symm e
            · exact h
          have := ih hn.2 hm'
          have em : mark S k i = S i := by simp [mark, e]
          simp only [List.filter_cons, em]
          cases hS : S i with
          | false => simpa using this
          | true =>
            simp only [if_true, List.map_cons, if_neg e]
            exact (this.cons _).trans (List.Perm.swap ..)
    exact (hp.cons _).trans (List.perm_middle.symm.trans ((key ks hn hk).symm.append_left L))

theorem sh_alo {S : Nat → Bool} {ε : Nat → Value} {k b : Nat} {Lx : HL} (hc : Closed l.toArray S) (hSk : S k = false) : ∀ (pl : Pl) (sk : SkL) (dn : List Nat) (acc : Fr) (L Hn : HL), Ok P l fr w0 X fin pl sk acc L Hn → skChk l dn sk = true → k ∈ alos sk → (alos sk).Nodup → Sh P l S ε Lx pl sk L Hn →
    Sh P l (mark S k) (upd ε k (.pointer (some ⟨b, 0, none⟩))) ((b, al P l k) :: Lx) pl sk L Hn
  | .fin, sk, dn, acc, L, Hn, ho, _, hk, _, _ => by
    obtain ⟨rfl, _⟩ := ho
    simp [alos] at hk
  | .val j u nx, sk, dn, acc, L, Hn, ho, hchk, hk, hnd, hsh => by
    obtain ⟨s', r', o', rfl, hsa', hr, hj, hv, hn⟩ := ho
    obtain ⟨c1, c2, c3, c4⟩ := skChk_spec hchk
    have hal : alos ((j, s') :: r') = alos r' := by cases s' <;> first | rfl | cases hsa'
    rw [hal] at hk hnd
    have e : k ≠ j := c2 (k, Sk.a) (sh_congr.mem_alos r' hk)
    refine ⟨fun hm => ?_, sh_alo hc hSk nx r' (j :: dn) _ L Hn hn c4 hk hnd hsh.2⟩
    have hm' : S j = true := by simpa [mark, Ne.symm e] using hm
    simp only [upd, if_neg (Ne.symm e)]
    exact hsh.1 hm'
  | .eff j hdd cc α C u N M nx, sk, dn, acc, L, Hn, ho, hchk, hk, hnd, hsh => by
    obtain ⟨r', o', rfl, hj, hg, hne, hpm, hO, hn⟩ := ho
    obtain ⟨c1, c2, c3, c4⟩ := skChk_spec hchk
    have hal : alos ((j, skE hdd) :: r') = alos r' := by cases hdd <;> rfl
    have hk' := hk
    have hnd' := hnd
    rw [hal] at hk' hnd'
    have e : k ≠ j := c2 (k, Sk.a) (sh_congr.mem_alos r' hk')
    rcases hsh with ⟨hS, x, hC, hx, hsh⟩ | ⟨hS, hf⟩
    · exact .inl ⟨by simp [mark, hS], x, hC, by simp [upd, Ne.symm e, hx], sh_alo hc hSk (nx x) r' (j :: dn) _ _ _ (hn x hC) c4 hk' hnd' hsh⟩
    · exact .inr ⟨by simp [mark, Ne.symm e, hS], front_add hnd hk hSk hf⟩
  | .alo j nx, sk, dn, acc, L, Hn, ho, hchk, hk, hnd, hsh => by
    obtain ⟨r', rfl, hn⟩ := ho
    obtain ⟨c1, c2, c3, c4⟩ := skChk_spec hchk
    have hal : alos ((j, Sk.a) :: r') = j :: alos r' := rfl
    have hnd' := hnd
    rw [hal, List.nodup_cons] at hnd'
    by_cases e : k = j
    · subst e
      rcases hsh with ⟨hS, _⟩ | ⟨_, bs, h1, hp⟩
      · rw [hSk] at hS; cases hS
      refine .inl ⟨by simp [mark], b, by simp [upd], sh_fresh (nx b) r' _ _ _ (hn b) (fun p hp ha => ?_) ⟨bs, fun i hi hSi => ?_, ?_⟩⟩
      · have hne := c2 p hp
        have hreach := c3 rfl p hp ha
        simp only [mark, hne, decide_false, Bool.false_or]
        cases hSp : S p.1 with
        | false => rfl
        | true =>
          have := reach_spec hc 8 p.1 k hreach hSp
          rw [hSk] at this; cases this
      · have : i ≠ k := c2 (i, Sk.a) (sh_congr.mem_alos r' hi)
        simp only [mark, upd, this, decide_false, Bool.false_or, if_false] at hSi ⊢
        exact h1 i (by rw [hal]; exact List.mem_cons_of_mem _ hi) hSi
      · have e1 : (alos r').filter (mark S k) = (alos r').filter S := List.filter_congr fun i hi => by
          have : i ≠ k := c2 (i, Sk.a) (sh_congr.mem_alos r' hi)
          simp [mark, this]
        rw [hal] at hp
        simp only [List.filter_cons, hSk, Bool.false_eq_true, if_false] at hp
        rw [e1, List.cons_append, List.cons_append]
        exact hp.cons _
    · have hk' : k ∈ alos r' := by
        rw [hal] at hk
        rcases List.mem_cons.1 hk with h | h
        · exact absurd h e
        · exact h
      rcases hsh with ⟨hS, x, hx, hsh⟩ | ⟨hS, hf⟩
      · exact .inl ⟨by simp [mark, hS], x, by simp [upd, Ne.symm e, hx], sh_alo hc hSk (nx x) r' (j :: dn) _ _ _ (hn x) c4 hk' hnd'.2 hsh⟩
      · exact .inr ⟨by simp [mark, Ne.symm e, hS], front_add hnd hk hSk hf⟩

theorem sh_fin {S : Nat → Bool} {ε : Nat → Value} {Lx : HL} : ∀ (pl : Pl) (sk : SkL) (dn : List Nat) (acc : Fr) (L Hn : HL), Ok P l fr w0 X fin pl sk acc L Hn → (∀ p ∈ sk, S p.1 = true) → (∀ j ∈ dn, ε j = lv acc j) → Sh P l S ε Lx pl sk L Hn → ∃ acc' L', fin acc' L' ∧ Lx.Perm L' ∧ (∀ j ∈ dn, ε j = lv acc' j) ∧ ∀ p ∈ sk, ε p.1 = lv acc' p.1
  | .fin, sk, dn, acc, L, Hn, ho, _, hacc, hsh => by
    obtain ⟨rfl, hf⟩ := ho
    exact ⟨acc, L ++ Hn, hf, hsh, hacc, by simp⟩
  | .val j u nx, sk, dn, acc, L, Hn, ho, hS, hacc, hsh => by
    obtain ⟨s', r', o', rfl, hsa', hr, hj, hv, hn⟩ := ho
    have hj' := hsh.1 (hS (j, s') (by simp))
    obtain ⟨acc', L', h1, h2, h3, h4⟩ := sh_fin nx r' (j :: dn) _ L Hn hn (fun p hp => hS p (List.mem_cons_of_mem _ hp)) (fun i hi => by
      rw [lv_cons]
      by_cases e : j = i
      · subst e; rw [if_pos rfl]; exact hj'
      · rw [if_neg e]
        rcases List.mem_cons.1 hi with h | h
        · exact absurd h.symm e
        · exact hacc i h) hsh.2
    refine ⟨acc', L', h1, h2, fun i hi => h3 i (List.mem_cons_of_mem _ hi), fun p hp => ?_⟩
    rcases List.mem_cons.1 hp with rfl | hp
    · exact h3 _ (by simp)
    · exact h4 p hp
  | .eff j hdd cc α C u N M nx, sk, dn, acc, L, Hn, ho, hS, hacc, hsh => by
    obtain ⟨r', o', rfl, hj, hg, hne, hpm, hO, hn⟩ := ho
    rcases hsh with ⟨_, x, hC, hj', hsh⟩ | ⟨h, _⟩
    rotate_left
    · have := hS (j, skE hdd) (by simp); simp only at this; rw [this] at h; cases h
    obtain ⟨acc', L', h1, h2, h3, h4⟩ := sh_fin (nx x) r' (j :: dn) _ _ _ (hn x hC) (fun p hp => hS p (List.mem_cons_of_mem _ hp)) (fun i hi => by
      rw [lv_cons]
      by_cases e : j = i
      · subst e; rw [if_pos rfl]; exact hj'
      · rw [if_neg e]
        rcases List.mem_cons.1 hi with h | h
        · exact absurd h.symm e
        · exact hacc i h) hsh
    refine ⟨acc', L', h1, h2, fun i hi => h3 i (List.mem_cons_of_mem _ hi), fun p hp => ?_⟩
    rcases List.mem_cons.1 hp with rfl | hp
    · exact h3 _ (by simp)
    · exact h4 p hp
  | .alo j nx, sk, dn, acc, L, Hn, ho, hS, hacc, hsh => by
    obtain ⟨r', rfl, hn⟩ := ho
    rcases hsh with ⟨_, x, hj', hsh⟩ | ⟨h, _⟩
    rotate_left
    · have := hS (j, Sk.a) (by simp); simp only at this; rw [this] at h; cases h
    obtain ⟨acc', L', h1, h2, h3, h4⟩ := sh_fin (nx x) r' (j :: dn) _ _ _ (hn x) (fun p hp => hS p (List.mem_cons_of_mem _ hp)) (fun i hi => by
      rw [lv_cons]
      by_cases e : j = i
      · subst e; rw [if_pos rfl]; exact hj'
      · rw [if_neg e]
        rcases List.mem_cons.1 hi with h | h
        · exact absurd h.symm e
        · exact hacc i h) hsh
    refine ⟨acc', L', h1, h2, fun i hi => h3 i (List.mem_cons_of_mem _ hi), fun p hp => ?_⟩
    rcases List.mem_cons.1 hp with rfl | hp
    · exact h3 _ (by simp)
    · exact h4 p hp

def aloOk (P : Program) (l : List Oper) (ks : List Nat) : Bool := ks.all fun k => match l[k]? with
  | some ⟨_, .alloc t, _, _, _, none⟩ => match P.info? t with
    | some i => i.zero.isSome
    | none => false
  | _ => false
theorem aloOk_spec {ks : List Nat} {k : Nat} (h : aloOk P l ks = true) (hk : k ∈ ks) : ∃ o, l[k]? = some o ∧ o.op = .alloc (tof l k) ∧ o.guard = none ∧ ∃ z, CZ P (tof l k) z := by
  have := List.all_eq_true.1 h k hk
  split at this
  · rename_i t _ _ _ ho
    have ht : tof l k = t := by simp [tof, ho]
    refine ⟨_, ho, by rw [ht], rfl, ?_⟩
    rw [ht]
    split at this
    · rename_i i hi
      obtain ⟨v, hv⟩ := Option.isSome_iff_exists.1 this
      exact ⟨v.cells.toList, ⟨⟨v, by simp, fun w => by simp [zeroValue, typeInfo, hi, hv]⟩⟩⟩
    · cases this
  · cases this

theorem skChk_uniq : ∀ (sk : SkL) (dn : List Nat), skChk l dn sk = true → ∀ (k : Nat) (s s' : Sk), (k, s) ∈ sk → (k, s') ∈ sk → s = s'
  | [], _, _, _, _, _, h, _ => by simp at h
  | (j, t) :: r, dn, hchk, k, s, s', h, h' => by
    obtain ⟨_, c2, _, c4⟩ := skChk_spec hchk
    rcases List.mem_cons.1 h with h | h <;> rcases List.mem_cons.1 h' with h' | h'
    · injection h with _ h; injection h' with _ h'; rw [h, h']
    · injection h with h _; exact absurd h (c2 _ h')
    · injection h' with h' _; exact absurd h' (c2 _ h)
    · exact skChk_uniq r _ c4 k s s' h h'
theorem skChk_nodup : ∀ (sk : SkL) (dn : List Nat), skChk l dn sk = true → (alos sk).Nodup
  | [], _, _ => by simp [alos]
  | (j, t) :: r, dn, hchk => by
    obtain ⟨_, c2, _, c4⟩ := skChk_spec hchk
    have ih := skChk_nodup r _ c4
    cases t with
    | a =>
      simp only [alos, List.nodup_cons]
      exact ⟨fun h => c2 _ (sh_congr.mem_alos r h) rfl, ih⟩
    | _ => simpa [alos] using ih

theorem mem_alos_of {k : Nat} : ∀ (sk : SkL), (k, Sk.a) ∈ sk → k ∈ alos sk
  | [], h => by simp at h
  | (j, t) :: r, h => by
    rcases List.mem_cons.1 h with h | h
    · injection h with h1 h2
      subst h1 h2
      simp [alos]
    · have := mem_alos_of r h
      cases t <;> simp [alos, this]

def covers (n0 : Nat) (sk : SkL) : Bool := ((List.range n0).all fun k => sk.any fun p => Nat.beq k p.1) && sk.all fun p => Nat.blt p.1 n0

def DW (P : Program) (l : List Oper) (fr : Fr) (w0 : World) (X : List Nat) (fin : Fr → HL → Prop) (sk : SkL) (acc : Fr) (L : HL) (Hn : HL := []) : Prop := ∃ pl, Ok P l fr w0 X fin pl sk acc L Hn
def finW (P : Program) (r : Option Nat) (l : List Oper) (n0 : Nat) (Q : Exit → Act → World → Prop) (nt : Nat) (D : List Deferred) (fr : Fr) (w0 : World) (X : List Nat) (acc : Fr) (L : HL) : Prop := TL P r l.toArray Q nt D (l.drop n0) (frAll l.toArray (lv acc) fr n0) (St w0 X L)

theorem t_drawWH {id : Nat} {L Hn : HL} (n0 : Nat) (sk : SkL) (h : DW P l fr w0 X (finW P r l n0 Q nt D fr w0 X) sk [] L Hn) (hn0 : Nat.ble n0 l.length = true) (ht : tailOk l n0 = true) (hck : skChk l [] sk = true) (hcv : covers n0 sk = true) (hal : aloOk P l (alos sk) = true) (hm : P.follows .mixedOrders = true) (ok : regionOk l = true) (hs : okSlots nt l = true) :
    T P r (.region id l.toArray true) Q nt D fr (St w0 X (L ++ Hn)) := by
  obtain ⟨pl, hpl⟩ := h
  have hn0' : n0 ≤ l.length := by simpa [Nat.ble_eq] using hn0
  have okG : okGuards l.toArray l = true := by
    simp only [regionOk, Bool.and_eq_true] at ok
    exact ok.1.2
  have hcov : ∀ k, k < n0 → ∃ s, (k, s) ∈ sk := by
    intro k hk
    simp only [covers, Bool.and_eq_true, List.all_eq_true, List.mem_range, List.any_eq_true] at hcv
    obtain ⟨p, hp, he⟩ := hcv.1 k hk
    rw [Nat.beq_eq] at he
    exact ⟨p.2, by rw [he]; exact hp⟩
  have hlt : ∀ p ∈ sk, p.1 < n0 := by
    intro p hp
    simp only [covers, Bool.and_eq_true, List.all_eq_true] at hcv
    simpa [Nat.blt_eq] using hcv.2 p hp
  have hfront : Front P l (alos sk) (L ++ Hn) (fun _ => false) (fun _ => undef) (L ++ Hn) := ⟨fun _ => 0, fun k _ (h : false = true) => Bool.noConfusion h, by
    have e0 : (alos sk).filter (fun _ => false) = [] := List.filter_eq_nil_iff.2 (by simp)
    rw [e0]; simp⟩
  refine t_drawG n0 (J := fun S ε w => ∃ Lx, Sh P l S ε Lx pl sk L Hn ∧ St w0 X Lx w) hn0' ht hm ok hs (fun w n hw => ⟨L ++ Hn, sh_fresh pl sk _ L Hn hpl (fun _ _ _ => rfl) hfront, hw.drew n⟩) ?_ ?_
  · intro k o hk ho S ε hc hSk hd
    obtain ⟨s, hks⟩ := hcov k hk
    cases hsa : s.isA with
    | false =>
      have step : ∀ (ρ : Operand → Value) (w : World), (∀ x v, fev (frk l.toArray ε fr o.after.toList) x = some v → ρ x = v) → ∀ Lx, Sh P l S ε Lx pl sk L Hn → St w0 X Lx w → _ := fun ρ w hρ Lx hsh hst =>
        sh_step okG ho hc hSk hd hρ hst pl sk [] [] L Hn hpl hck (by simp) ⟨s, hks, hsa⟩ (fun s' h' => by rw [skChk_uniq sk [] hck k s' s h' hks]; exact hsa) hsh
      unfold Cn at step
      cases hg : o.guard with
      | none =>
        simp only [hg] at step
        intro ρ w hρ ⟨Lx, hsh, hst⟩
        exact step ρ w hρ Lx hsh hst
      | some q =>
        obtain ⟨g, want⟩ := q
        simp only [hg] at step
        refine ⟨fun hy ρ w hρ ⟨Lx, hsh, hst⟩ => (step ρ w hρ Lx hsh hst).1 hy, fun hne w ⟨Lx, hsh, hst⟩ => ?_⟩
        classical
        have := (step (fun x => (fev (frk l.toArray ε fr o.after.toList) x).getD undef) w (fun x v hx => by simp [hx]) Lx hsh hst).2 hne
        exact ⟨Lx, this, hst⟩
    | true =>
      have hka : k ∈ alos sk := by
        have : s = .a := by cases s <;> first | rfl | cases hsa
        subst this
        exact mem_alos_of sk hks
      obtain ⟨o', ho', hop, hg, z, hz⟩ := aloOk_spec hal hka
      have : o' = o := by rw [ho] at ho'; injection ho' with h; exact h.symm
      subst this
      rw [hg]
      intro ρ w hρ ⟨Lx, hsh, hst⟩
      obtain ⟨dst, op, ty, pos, af, g⟩ := o'
      simp only at hop hg
      subst hop hg
      refine (o_alloc (P := P) (fr := frk l.toArray ε fr af.toList) (w0 := w0) (X := X) (L := Lx) (t := tof l k) (z := z) ρ w hρ hst).mono ?_
      rintro v w' ⟨b, rfl, h'⟩
      refine ⟨(b, al P l k) :: Lx, sh_alo hc hSk pl sk [] _ L Hn hpl hck hka (skChk_nodup sk [] hck) hsh, ?_⟩
      unfold al
      rw [zof_eq hz w]
      exact h'
  · intro ε a w ha ⟨Lx, hsh, hst⟩
    obtain ⟨acc', L', hf, hp, _, hv⟩ := sh_fin pl sk [] [] L Hn hpl (fun p hp => by simpa using hlt p hp) (by simp) hsh
    have : frAll l.toArray ε fr n0 = frAll l.toArray (lv acc') fr n0 := frAll_congr _ fun i hi => by
      obtain ⟨s, hs⟩ := hcov i hi
      exact hv _ hs
    rw [this] at ha
    exact hf a w ha (hst.perm hp)

theorem t_drawW {id : Nat} {L : HL} (n0 : Nat) (sk : SkL) (h : DW P l fr w0 X (finW P r l n0 Q nt D fr w0 X) sk [] L) (hn0 : Nat.ble n0 l.length = true) (ht : tailOk l n0 = true) (hck : skChk l [] sk = true) (hcv : covers n0 sk = true) (hal : aloOk P l (alos sk) = true) (hm : P.follows .mixedOrders = true) (ok : regionOk l = true) (hs : okSlots nt l = true) :
    T P r (.region id l.toArray true) Q nt D fr (St w0 X L) := by
  have := t_drawWH (id := id) n0 sk h hn0 ht hck hcv hal hm ok hs
  rwa [List.append_nil] at this

/-! ### one by one -/
def DW1 (P : Program) (l : List Oper) (fr : Fr) (w0 : World) (X : List Nat) (fin : Fr → HL → Prop) (k : Nat) (s : Sk) (o : Oper) (sk : SkL) (acc : Fr) (L : HL) (Hn : HL := []) : Prop := l[k]? = some o → DW P l fr w0 X fin ((k, s) :: sk) acc L Hn
variable {k j : Nat} {s : Sk} {o : Oper} {sk : SkL} {acc : Fr} {L Hn : HL} {d : Option Tmp} {op : Op} {ty : TypeId} {pos : String} {af : Array Edge} {u : Value} {want b : Bool} {g : Option (Nat × Bool)}
theorem dw_open (ho : l[k]? = some o) (h : DW1 P l fr w0 X fin k s o sk acc L Hn) : DW P l fr w0 X fin ((k, s) :: sk) acc L Hn := h ho
theorem dw_op (hs : s.isA = false) (hh : hdF sk = true) (h : ∀ L', O P ⟨d, op, ty, pos, af, none⟩ (frk l.toArray (lv acc) fr af.toList) (St w0 X (L ++ L')) (fun v w => v = u ∧ St w0 X (L ++ L') w)) (hr : DW P l fr w0 X fin sk ((k, u) :: acc) L Hn) : DW1 P l fr w0 X fin k s ⟨d, op, ty, pos, af, none⟩ sk acc L Hn := fun ho => by
  obtain ⟨pl, hp⟩ := hr
  exact ⟨.val k u pl, s, sk, _, rfl, hs, hh, ho, h, hp⟩
theorem dw_yes (hj : lv acc j = .bool want) (hs : s.isA = false) (hh : hdF sk = true) (h : ∀ L', O P ⟨d, op, ty, pos, af, some (j, want)⟩ (frk l.toArray (lv acc) fr af.toList) (St w0 X (L ++ L')) (fun v w => v = u ∧ St w0 X (L ++ L') w)) (hr : DW P l fr w0 X fin sk ((k, u) :: acc) L Hn) : DW1 P l fr w0 X fin k s ⟨d, op, ty, pos, af, some (j, want)⟩ sk acc L Hn := fun ho => by
  obtain ⟨pl, hp⟩ := hr
  exact ⟨.val k u pl, s, sk, _, rfl, hs, hh, ho, .inl ⟨hj, h⟩, hp⟩
theorem dw_no (hj : lv acc j = .bool b) (hb : (b == want) = false) (hs : s.isA = false) (hh : hdF sk = true) (hr : DW P l fr w0 X fin sk ((k, undef) :: acc) L Hn) : DW1 P l fr w0 X fin k s ⟨d, op, ty, pos, af, some (j, want)⟩ sk acc L Hn := fun ho => by
  obtain ⟨pl, hp⟩ := hr
  exact ⟨.val k undef pl, s, sk, _, rfl, hs, hh, ho, .inr ⟨by rw [hj]; intro e; injection e with e; subst e; simp at hb, rfl⟩, hp⟩
theorem dw_undef (hj : lv acc j = undef) (hs : s.isA = false) (hh : hdF sk = true) (hr : DW P l fr w0 X fin sk ((k, undef) :: acc) L Hn) : DW1 P l fr w0 X fin k s ⟨d, op, ty, pos, af, some (j, want)⟩ sk acc L Hn := fun ho => by
  obtain ⟨pl, hp⟩ := hr
  exact ⟨.val k undef pl, s, sk, _, rfl, hs, hh, ho, .inr ⟨by rw [hj]; intro e; simp [undef] at e, rfl⟩, hp⟩
theorem dw_alo {t : TypeId} {z : List Value} [hz : CZ P t z] (h : ∀ b, DW P l fr w0 X fin sk ((k, .pointer (some ⟨b, 0, none⟩)) :: acc) ((b, bx z t) :: L) Hn) : DW1 P l fr w0 X fin k .a ⟨d, .alloc t, ty, pos, af, none⟩ sk acc L Hn := fun ho => by
  have ht : tof l k = t := by simp [tof, ho]
  have e : al P l k = bx z t := by unfold al; rw [ht, zof_eq hz w0]
  classical
  refine ⟨.alo k fun b => (h b).choose, sk, rfl, fun b => ?_⟩
  rw [e]
  exact (h b).choose_spec
/-- what makes memory -/
theorem dw_eff {α : Type} (C : α → Prop) (u : α → Value) (N M : α → HL) (hh : hdF sk = true) (hg : GOk ⟨d, op, ty, pos, af, g⟩ acc) (hO : ∀ L', O P ⟨d, op, ty, pos, af, g⟩ (frk l.toArray (lv acc) fr af.toList) (St w0 X (L ++ L')) (fun v w => ∃ x, C x ∧ v = u x ∧ St w0 X (M x ++ L') w)) (hpm : ∀ x, C x → (M x).Perm (N x ++ L)) (h : ∀ x, C x → DW P l fr w0 X fin sk ((k, u x) :: acc) (M x) Hn) : DW1 P l fr w0 X fin k .e ⟨d, op, ty, pos, af, g⟩ sk acc L Hn := fun ho => by
  have h' : ∀ x, ∃ pl, C x → Ok P l fr w0 X fin pl sk ((k, u x) :: acc) (M x) Hn := fun x => by
    by_cases hx : C x
    · obtain ⟨pl, hp⟩ := h x hx
      exact ⟨pl, fun _ => hp⟩
    · exact ⟨.fin, fun hc => absurd hc hx⟩
  obtain ⟨f, hf⟩ := Classical.axiomOfChoice h'
  exact ⟨.eff k false false α C u N M f, sk, _, rfl, ho, hg, .inl hh, hpm, fun L' => by simpa [hidy] using hO L', hf⟩
/-- what makes memory, of which the newest block is turned next -/
theorem dw_effN {α : Type} (C : α → Prop) (u : α → Value) (N : α → HL) (hN : ∀ x, N x ≠ []) (hg : GOk ⟨d, op, ty, pos, af, g⟩ acc) (hO : ∀ L', O P ⟨d, op, ty, pos, af, g⟩ (frk l.toArray (lv acc) fr af.toList) (St w0 X (L ++ L')) (fun v w => ∃ x, C x ∧ v = u x ∧ St w0 X (N x ++ (L ++ L')) w)) (h : ∀ x, C x → DW P l fr w0 X fin sk ((k, u x) :: acc) (N x ++ L) Hn) : DW1 P l fr w0 X fin k .e ⟨d, op, ty, pos, af, g⟩ sk acc L Hn := fun ho => by
  have h' : ∀ x, ∃ pl, C x → Ok P l fr w0 X fin pl sk ((k, u x) :: acc) (N x ++ L) Hn := fun x => by
    by_cases hx : C x
    · obtain ⟨pl, hp⟩ := h x hx
      exact ⟨pl, fun _ => hp⟩
    · exact ⟨.fin, fun hc => absurd hc hx⟩
  obtain ⟨f, hf⟩ := Classical.axiomOfChoice h'
  exact ⟨.eff k false false α C u N (fun x => N x ++ L) f, sk, _, rfl, ho, hg, .inr fun x _ => ⟨hN x, rfl⟩, fun x _ => List.Perm.refl _, fun L' => by
    have := (hO L').mono fun v w ⟨x, h0, h1, h2⟩ => (⟨x, h0, h1, by rw [List.append_assoc]; exact h2⟩ : ∃ x, C x ∧ v = u x ∧ St w0 X (N x ++ L ++ L') w)
    simpa [hidy] using this, hf⟩
/-- what turns the newest block -/
theorem dw_hd {α : Type} {p : Nat × (Obj → Prop)} (C : α → Prop) (u : α → Value) (N : α → HL) (hN : ∀ x, N x ≠ []) (hg : GOk ⟨d, op, ty, pos, af, g⟩ acc) (hO : ∀ L', O P ⟨d, op, ty, pos, af, g⟩ (frk l.toArray (lv acc) fr af.toList) (St w0 X (p :: L ++ L')) (fun v w => ∃ x, C x ∧ v = u x ∧ St w0 X (N x ++ (L ++ L')) w)) (h : ∀ x, C x → DW P l fr w0 X fin sk ((k, u x) :: acc) (N x ++ L) Hn) : DW1 P l fr w0 X fin k .h ⟨d, op, ty, pos, af, g⟩ sk acc (p :: L) Hn := fun ho => by
  have h' : ∀ x, ∃ pl, C x → Ok P l fr w0 X fin pl sk ((k, u x) :: acc) (N x ++ L) Hn := fun x => by
    by_cases hx : C x
    · obtain ⟨pl, hp⟩ := h x hx
      exact ⟨pl, fun _ => hp⟩
    · exact ⟨.fin, fun hc => absurd hc hx⟩
  obtain ⟨f, hf⟩ := Classical.axiomOfChoice h'
  exact ⟨.eff k true false α C u N (fun x => N x ++ L) f, sk, _, rfl, ho, hg, .inr fun x _ => ⟨hN x, rfl⟩, fun x _ => List.Perm.refl _, fun L' => by
    have := (hO L').mono fun v w ⟨x, h0, h1, h2⟩ => (⟨x, h0, h1, by rw [List.append_assoc]; exact h2⟩ : ∃ x, C x ∧ v = u x ∧ St w0 X (N x ++ L ++ L') w)
    simpa [hidy] using this, hf⟩

/-- what turns the newest block, and the blocks that were kept apart -/
theorem dw_hdH {α : Type} {p : Nat × (Obj → Prop)} (C : α → Prop) (u : α → Value) (N : α → HL) (hh : hdF sk = true) (hg : GOk ⟨d, op, ty, pos, af, g⟩ acc) (hO : ∀ L', O P ⟨d, op, ty, pos, af, g⟩ (frk l.toArray (lv acc) fr af.toList) (St w0 X (p :: L ++ Hn ++ L')) (fun v w => ∃ x, C x ∧ v = u x ∧ St w0 X (N x ++ L ++ L') w)) (h : ∀ x, C x → DW P l fr w0 X fin sk ((k, u x) :: acc) (N x ++ L)) : DW1 P l fr w0 X fin k .h ⟨d, op, ty, pos, af, g⟩ sk acc (p :: L) Hn := fun ho => by
  have h' : ∀ x, ∃ pl, C x → Ok P l fr w0 X fin pl sk ((k, u x) :: acc) (N x ++ L) [] := fun x => by
    by_cases hx : C x
    · obtain ⟨pl, hp⟩ := h x hx
      exact ⟨pl, fun _ => hp⟩
    · exact ⟨.fin, fun hc => absurd hc hx⟩
  obtain ⟨f, hf⟩ := Classical.axiomOfChoice h'
  exact ⟨.eff k true true α C u N (fun x => N x ++ L) f, sk, _, rfl, ho, hg, .inl hh, fun x _ => List.Perm.refl _, hO, hf⟩

/-! ### what is kept of a frame -/
def keep (fr : Fr) : List Nat → Option Fr
  | [] => some []
  | t :: ts => match flook fr t with
    | none => none
    | some v => match keep fr ts with
      | none => none
      | some q => some ((t, v) :: q)
theorem keep_fle {fr : Fr} : ∀ (ts : List Nat) (fr' : Fr), keep fr ts = some fr' → fle fr' fr
  | [], fr', h => by simp [keep] at h; subst h; trivial
  | t :: ts, fr', h => by
    simp only [keep] at h
    cases hv : flook fr t with
    | none => rw [hv] at h; cases h
    | some v =>
      rw [hv] at h
      cases hq : keep fr ts with
      | none => rw [hq] at h; cases h
      | some q =>
        rw [hq] at h
        injection h with h
        subst h
        exact ⟨hv, keep_fle ts q hq⟩
def slotAt (ops : Array Oper) : Nat → Nat → Option Nat
  | 0, _ => none
  | n + 1, t => match dstOf ops n with
    | some t' => bif Nat.beq t' t then some n else slotAt ops n t
    | none => slotAt ops n t
def lookR (ops : Array Oper) (acc fr : Fr) (n0 t : Nat) : Option Value := match slotAt ops n0 t with
  | some i => flook acc i
  | none => flook fr t
def keepR (ops : Array Oper) (acc fr : Fr) (n0 : Nat) : List Nat → Option Fr
  | [] => some []
  | t :: ts => match lookR ops acc fr n0 t with
    | none => none
    | some v => match keepR ops acc fr n0 ts with
      | none => none
      | some q => some ((t, v) :: q)
theorem lookR_spec {ops : Array Oper} {acc fr : Fr} {t : Nat} {v : Value} : ∀ (n0 : Nat), lookR ops acc fr n0 t = some v → flook (frAll ops (lv acc) fr n0) t = some v
  | 0, h => h
  | n + 1, h => by
    unfold lookR at h
    simp only [slotAt] at h
    simp only [frAll]
    cases hd : dstOf ops n with
    | none =>
      rw [hd] at h
      exact lookR_spec n h
    | some t' =>
      rw [hd] at h
      simp only at h ⊢
      rw [flook_cons]
      by_cases e : t' = t
      · subst e
        simp only [Nat.beq_refl, cond_true] at h
        rw [if_pos rfl, lv, h]; rfl
      · have : Nat.beq t' t = false := by rw [← Bool.not_eq_true, Nat.beq_eq]; exact e
        rw [this] at h
        rw [if_neg e]
        exact lookR_spec n h
theorem keepR_fle {ops : Array Oper} {acc fr : Fr} {n0 : Nat} : ∀ (ts : List Nat) (fr' : Fr), keepR ops acc fr n0 ts = some fr' → fle fr' (frAll ops (lv acc) fr n0)
  | [], fr', h => by simp [keepR] at h; subst h; trivial
  | t :: ts, fr', h => by
    simp only [keepR] at h
    cases hv : lookR ops acc fr n0 t with
    | none => rw [hv] at h; cases h
    | some v =>
      rw [hv] at h
      cases hq : keepR ops acc fr n0 ts with
      | none => rw [hq] at h; cases h
      | some q =>
        rw [hq] at h
        injection h with h
        subst h
        exact ⟨lookR_spec n0 hv, keepR_fle ts q hq⟩
theorem dw_end {n0 : Nat} (ts : List Nat) {fr' : Fr} {rest : List Oper} (hk : keepR l.toArray acc fr n0 ts = some fr') (h : TL P r l.toArray Q nt D (l.drop n0) fr' (St w0 X L)) : DW P l fr w0 X (finW P r l n0 Q nt D fr w0 X) [] acc L :=
  ⟨.fin, rfl, tl_weak (keepR_fle ts _ hk) (fun _ h => by rw [List.append_nil] at h; exact h) h⟩

end
end Go.Proofs.Ytbgolbkolcmldaa

/-
  Steps that find their own facts; memory that a callee has made; loops that keep what they do not write.
-/
namespace Go.Proofs.Ytbgolbkolcmldaa
open Go.RowKit

variable {P : Program} {r : Option Nat} {Q : Exit → Act → World → Prop} {nt : Nat} {D : List Deferred} {fr : Fr} {I : World → Prop}
variable {w0 : World} {X : List Nat} {L : HL} {ops : Array Oper} {rest : List Oper} {d : Nat}
variable {dd : Option Tmp} {ty t t' : TypeId} {pos : String} {af : Array Edge} {g : Option (Nat × Bool)} {x y c : Operand} {u : Value}

/-! ### cells of old -/
def Cl (w : World) (b k : Nat) (v : Value) : Prop := b < w.heap.size ∧ w.cell? ⟨b, k, none⟩ = some v
def ClA (w : World) (b k : Nat) (cs : List Value) : Prop := b < w.heap.size ∧ ∀ j v, cs[j]? = some v → w.cell? ⟨b, k + j, none⟩ = some v
theorem o_loadC {b k : Nat} {v : Value} [CSc P t] (hx : fev fr x = some (.pointer (some ⟨b, k, none⟩))) (h : Cl w0 b k v) : Pv P ⟨dd, .load t x, ty, pos, af, g⟩ fr (St w0 [] L) v := o_loadO hx h.1 h.2
theorem o_loadCF {b k j : Nat} {cs : List Value} {v : Value} [CSc P t] (hx : fev fr x = some (.pointer (some ⟨b, k + j, none⟩))) (h : ClA w0 b k cs) (hv : cs[j]? = some v) : Pv P ⟨dd, .load t x, ty, pos, af, g⟩ fr (St w0 [] L) v := o_loadO hx h.1 (h.2 j v hv)
theorem o_loadCA {b k n : Nat} {cs : List Value} [CAg P t n] (hx : fev fr x = some (.pointer (some ⟨b, k, none⟩))) (h : ClA w0 b k cs) (hl : cs.length = n) : Pv P ⟨dd, .load t x, ty, pos, af, g⟩ fr (St w0 [] L) (.agg cs.toArray) := o_loadOA hx hl h.1 h.2

theorem o_loadCX {b k : Nat} {v : Value} [CSc P t] (hx : fev fr x = some (.pointer (some ⟨b, k, none⟩))) (h : Cl w0 b k v) (hn : b ∉ X) : Pv P ⟨dd, .load t x, ty, pos, af, g⟩ fr (St w0 X L) v :=
  o_load hx fun w hw => by rw [hw.oldCell (a := ⟨b, k, none⟩) h.1 hn]; exact h.2
theorem o_loadCFX {b k j : Nat} {cs : List Value} {v : Value} [CSc P t] (hx : fev fr x = some (.pointer (some ⟨b, k + j, none⟩))) (h : ClA w0 b k cs) (hn : b ∉ X) (hv : cs[j]? = some v) : Pv P ⟨dd, .load t x, ty, pos, af, g⟩ fr (St w0 X L) v := o_loadCX hx ⟨h.1, h.2 j v hv⟩ hn
theorem o_loadCAX {b k n : Nat} {cs : List Value} [CAg P t n] (hx : fev fr x = some (.pointer (some ⟨b, k, none⟩))) (h : ClA w0 b k cs) (hn : b ∉ X) (hl : cs.length = n) : Pv P ⟨dd, .load t x, ty, pos, af, g⟩ fr (St w0 X L) (.agg cs.toArray) :=
  o_loadA hx hl fun w hw j v hj => by rw [hw.oldCell (a := ⟨b, k + j, none⟩) h.1 hn]; exact h.2 j v hj

/-! ### memory that a callee has made -/
def seg (w w' : World) : HL := (List.range' w.heap.size (w'.heap.size - w.heap.size)).map fun b => (b, fun o => w'.heap[b]? = some o)

theorem St.addSeg {w w' : World} (h : St w0 X L w) (e : Ext w w') : St w0 X (L ++ seg w w') w' := by
  refine (h.ext e).addAll ?_ ?_
  · intro p hp
    obtain ⟨b, hb, rfl⟩ := List.mem_map.1 hp
    simp only [List.mem_range'_1] at hb
    have hs := e.size
    refine ⟨⟨_, Array.getElem?_eq_getElem (by omega), Array.getElem?_eq_getElem (by omega)⟩, .inl (Nat.le_trans h.size hb.1), fun hm => ?_⟩
    obtain ⟨q, hq, hqe⟩ := List.mem_map.1 hm
    have := h.lt hq
    simp only at hqe
    omega
  · have : (seg w w').map (·.1) = List.range' w.heap.size (w'.heap.size - w.heap.size) := by
      unfold seg
      rw [List.map_map]
      simp [Function.comp_def]
    rw [this]
    exact List.nodup_range'

theorem St.segGet {w w1 w2 : World} (h : St w0 X L w) (hm : ∀ p ∈ seg w1 w2, p ∈ L) {b : Nat} (h1 : w1.heap.size ≤ b) (h2 : b < w2.heap.size) : w.heap[b]? = w2.heap[b]? := by
  have hp : (b, fun o => w2.heap[b]? = some o) ∈ seg w1 w2 := List.mem_map.2 ⟨b, by simp only [List.mem_range'_1]; omega, rfl⟩
  obtain ⟨o, ho, hq⟩ := h.here _ (hm _ hp)
  exact ho.trans hq.symm

/-- cells of blocks that a callee has made -/
def Cs (w1 w2 : World) (b k : Nat) (v : Value) : Prop := w1.heap.size ≤ b ∧ w2.cell? ⟨b, k, none⟩ = some v
def CsA (w1 w2 : World) (b k : Nat) (cs : List Value) : Prop := (w1.heap.size ≤ b ∧ b < w2.heap.size) ∧ ∀ j v, cs[j]? = some v → w2.cell? ⟨b, k + j, none⟩ = some v
theorem cell_lt {w : World} {b k : Nat} {v : Value} (h : w.cell? ⟨b, k, none⟩ = some v) : b < w.heap.size := by
  rcases Nat.lt_or_ge b w.heap.size with hlt | hge
  · exact hlt
  · simp [World.cell?, Array.getElem?_eq_none hge] at h
theorem o_loadS {w1 w2 : World} {b k : Nat} {v : Value} [CSc P t] (hx : fev fr x = some (.pointer (some ⟨b, k, none⟩))) (h : Cs w1 w2 b k v) (hm : ∀ p ∈ seg w1 w2, p ∈ L) : Pv P ⟨dd, .load t x, ty, pos, af, g⟩ fr (St w0 X L) v :=
  o_load hx fun w hw => by rw [World.cell?_of_block (hw.segGet hm h.1 (cell_lt h.2))]; exact h.2
theorem o_loadSF {w1 w2 : World} {b k j : Nat} {cs : List Value} {v : Value} [CSc P t] (hx : fev fr x = some (.pointer (some ⟨b, k + j, none⟩))) (h : CsA w1 w2 b k cs) (hv : cs[j]? = some v) (hm : ∀ p ∈ seg w1 w2, p ∈ L) : Pv P ⟨dd, .load t x, ty, pos, af, g⟩ fr (St w0 X L) v :=
  o_loadS hx ⟨h.1.1, h.2 j v hv⟩ hm
theorem o_loadSA {w1 w2 : World} {b k n : Nat} {cs : List Value} [CAg P t n] (hx : fev fr x = some (.pointer (some ⟨b, k, none⟩))) (h : CsA w1 w2 b k cs) (hl : cs.length = n) (hm : ∀ p ∈ seg w1 w2, p ∈ L) : Pv P ⟨dd, .load t x, ty, pos, af, g⟩ fr (St w0 X L) (.agg cs.toArray) :=
  o_loadA hx hl fun w hw j v hj => by rw [World.cell?_of_block (hw.segGet hm h.1.1 h.1.2)]; exact h.2 j v hj

/-- a slice all of whose cells lie in blocks from n on, below m -/
def RdI (n m : Nat) (w : World) (sz : Nat) (v : Value) (xs : List Value) : Prop :=
  ∃ A len cap, v = .slice A len cap ∧ xs.length = len * sz ∧ len ≤ cap ∧ cap ≤ maxLen ∧ (0 < len → ∃ b off, A = some ⟨b, off, none⟩ ∧ n ≤ b ∧ b < m ∧ b < w.heap.size ∧ ∀ j u, xs[j]? = some u → w.cell? ⟨b, off + j, none⟩ = some u)
theorem RdI.rd {n m : Nat} {w : World} {sz : Nat} {v : Value} {xs : List Value} (h : RdI n m w sz v xs) : Rd w sz v xs := by
  obtain ⟨A, len, cap, hv, hl, h1, h2, hr⟩ := h
  refine ⟨A, len, cap, hv, hl, h1, h2, fun h0 => ?_⟩
  obtain ⟨b, off, ha, _, _, hb, hc⟩ := hr h0
  exact ⟨b, off, ha, hb, hc⟩
theorem RdI.move {n m : Nat} {w w' : World} {sz : Nat} {v : Value} {xs : List Value} (h : RdI n m w sz v xs) (hb : ∀ b, n ≤ b → b < m → w'.heap[b]? = w.heap[b]?) : RdI n m w' sz v xs := by
  obtain ⟨A, len, cap, hv, hl, h1, h2, hr⟩ := h
  refine ⟨A, len, cap, hv, hl, h1, h2, fun h0 => ?_⟩
  obtain ⟨b, off, ha, hn, hm, hlt, hc⟩ := hr h0
  have hbb := hb b hn hm
  refine ⟨b, off, ha, hn, hm, ?_, fun j u hj => by rw [World.cell?_of_block hbb]; exact hc j u hj⟩
  rw [Array.getElem?_eq_getElem hlt] at hbb
  exact (Array.getElem?_eq_some_iff.1 hbb).1
theorem RdI.wide {n m n' m' : Nat} {w : World} {sz : Nat} {v : Value} {xs : List Value} (h : RdI n m w sz v xs) (hn : n' ≤ n) (hm : m ≤ m') : RdI n' m' w sz v xs := by
  obtain ⟨A, len, cap, hv, hl, h1, h2, hr⟩ := h
  refine ⟨A, len, cap, hv, hl, h1, h2, fun h0 => ?_⟩
  obtain ⟨b, off, ha, h3, h4, h5⟩ := hr h0
  exact ⟨b, off, ha, by omega, by omega, h5⟩
theorem RdI.top {n m n' : Nat} {w : World} {sz : Nat} {v : Value} {xs : List Value} (h : RdI n m w sz v xs) (hn : n' ≤ n) : RdI n' w.heap.size w sz v xs := by
  obtain ⟨A, len, cap, hv, hl, h1, h2, hr⟩ := h
  refine ⟨A, len, cap, hv, hl, h1, h2, fun h0 => ?_⟩
  obtain ⟨b, off, ha, h3, h4, h5, h6⟩ := hr h0
  exact ⟨b, off, ha, by omega, h5, h5, h6⟩
theorem OwnsV.rdI {v : Value} {e sz n : Nat} {xs : List Value} {Lv L' : HL} {w w' : World} (h : OwnsV v e sz n xs Lv) (hs : St w [] L' w') (hm : ∀ p ∈ Lv, p ∈ L') : RdI w.heap.size w'.heap.size w' sz v xs := by
  rcases h with ⟨rfl, rfl, rfl, rfl⟩ | ⟨b, cap, rfl, rfl⟩
  · exact ⟨none, 0, 0, rfl, by simp, Nat.le_refl _, by unfold maxLen; omega, fun h => absurd h (Nat.lt_irrefl 0)⟩
  · have hb := hm (b, row e sz n cap xs) (by simp)
    obtain ⟨o, ho, cur, rfl, h1, h2, h3, h4, h5⟩ := hs.here _ hb
    have hlt := (Array.getElem?_eq_some_iff.1 ho).1
    have hmine := hs.mine _ hb
    simp at hmine
    exact ⟨_, n, cap, rfl, h3, h4, h5, fun _ => ⟨b, 0, rfl, hmine, hlt, hlt, fun j u hj => by rw [Nat.zero_add]; exact hs.rowCell hb hj⟩⟩
theorem bx_rdI {e sz n b : Nat} {cs : List Value} {L' : HL} {w w' : World} (hs : St w [] L' w') (hm : (b, bx cs e) ∈ L') (hl : cs.length = n * sz) (hn : n ≤ maxLen) : RdI w.heap.size w'.heap.size w' sz (.slice (some ⟨b, 0, none⟩) n n) cs := by
  have ho := hs.get hm
  have hlt := (Array.getElem?_eq_some_iff.1 ho).1
  have hmine := hs.mine _ hm
  simp at hmine
  exact ⟨_, n, n, rfl, hl, Nat.le_refl _, hn, fun _ => ⟨b, 0, rfl, hmine, hlt, hlt, fun j u hj => by rw [Nat.zero_add, hs.cell hm, hj]⟩⟩
theorem nil_rdI (n m : Nat) (w : World) (sz : Nat) : RdI n m w sz (.slice none 0 0) [] := ⟨none, 0, 0, rfl, by simp, Nat.le_refl _, by unfold maxLen; omega, fun h => absurd h (Nat.lt_irrefl 0)⟩

/-- the blocks of a callee's as they are later -/
theorem St.sg {w w1 w2 : World} (h : St w0 X L w) (hm : ∀ p ∈ seg w1 w2, p ∈ L) : ∀ b, w1.heap.size ≤ b → b < w2.heap.size → w.heap[b]? = w2.heap[b]? := fun _ h1 h2 => h.segGet hm h1 h2

def frkN (ops : Array Oper) (acc fr : Fr) : List Edge → Fr
  | [] => fr
  | e :: r => bif Region.binds .any e then (match dstOf ops e.on with
    | some t => (match flook acc e.on with
      | some v => (t, v) :: frkN ops acc fr r
      | none => (t, undef) :: frkN ops acc fr r)
    | none => frkN ops acc fr r) else frkN ops acc fr r
theorem frkN_eq {ops : Array Oper} {acc fr : Fr} : ∀ (es : List Edge), frkN ops acc fr es = frk ops (lv acc) fr es
  | [] => rfl
  | e :: r => by
    simp only [frkN, frk]
    rw [frkN_eq r]
    cases Region.binds .any e with
    | false => rfl
    | true =>
      simp only [cond_true]
      cases dstOf ops e.on with
      | none => rfl
      | some t =>
        simp only [lv]
        cases flook acc e.on <;> rfl

/-- a call whose result is memory of its own -/
theorem tl_callR {f : FuncId} {args : Array Operand} {ts : Array TypeId} {vs : List Value} {Post : World → Value → World → Prop} [CFn P f] (hc : ∀ w, St w0 X L w → Calls P f vs.toArray w (Ret w (Post w))) (hv : fevs fr args.toList = some vs) (hd : Nat.ble nt d = false)
    (h : ∀ w1 w2 v, St w0 X L w1 → Ext w1 w2 → Post w1 v w2 → TL P r ops Q nt D rest ((d, v) :: fr) (St w0 X (L ++ seg w1 w2))) : TL P r ops Q nt D (⟨some d, .call ⟨.value (.func f), args, ts⟩, ty, pos, af, none⟩ :: rest) fr (St w0 X L) :=
  tl_op hd rfl (o_ret hv hc) fun v a w' ha hw => by
    obtain ⟨w, hw, he, hpost⟩ := hw
    exact h w w' v hw he hpost a w' ha (hw.addSeg he)
/-- a call whose result is a value -/
theorem tl_callV {f : FuncId} {args : Array Operand} {ts : Array TypeId} {vs : List Value} [CFn P f] (hc : ∀ w, St w0 X L w → Calls P f vs.toArray w (Ret w fun v _ => v = u)) (hv : fevs fr args.toList = some vs) (hd : Nat.ble nt d = false)
    (h : TL P r ops Q nt D rest ((d, u) :: fr) (St w0 X L)) : TL P r ops Q nt D (⟨some d, .call ⟨.value (.func f), args, ts⟩, ty, pos, af, none⟩ :: rest) fr (St w0 X L) :=
  tl_op hd rfl (o_ret (Post := fun _ v _ => v = u) hv hc) fun v a w' ha hw => by
    obtain ⟨w, hw, he, rfl⟩ := hw
    exact h a w' ha (hw.ext he)
section
variable {l : List Oper} {fin : Fr → HL → Prop} {k j : Nat} {s : Sk} {sk : SkL} {acc : Fr} {Hn : HL} {want b : Bool}
theorem dw_callR {f : FuncId} {args : Array Operand} {ts : Array TypeId} {vs : List Value} {Post : World → Value → World → Prop} [CFn P f] (hc : ∀ L' w, St w0 X (L ++ L') w → Calls P f vs.toArray w (Ret w (Post w))) (hv : fevs (frkN l.toArray acc fr af.toList) args.toList = some vs) (hg : GOk ⟨dd, .call ⟨.value (.func f), args, ts⟩, ty, pos, af, g⟩ acc) (hh : hdF sk = true)
    (h : ∀ w1 w2 v L', St w0 X (L ++ L') w1 → Ext w1 w2 → Post w1 v w2 → DW P l fr w0 X fin sk ((k, v) :: acc) (L ++ seg w1 w2) Hn) : DW1 P l fr w0 X fin k .e ⟨dd, .call ⟨.value (.func f), args, ts⟩, ty, pos, af, g⟩ sk acc L Hn :=
  by
  rw [frkN_eq] at hv
  exact dw_eff (α := World × World × Value) (fun x => (∃ L', St w0 X (L ++ L') x.1) ∧ Ext x.1 x.2.1 ∧ Post x.1 x.2.2 x.2.1) (fun x => x.2.2) (fun x => seg x.1 x.2.1) (fun x => L ++ seg x.1 x.2.1) hh hg
    (fun L' => (o_ret hv (hc L')).mono fun v w' ⟨w, hw, he, hp⟩ => ⟨(w, w', v), ⟨⟨L', hw⟩, he, hp⟩, rfl, (hw.addSeg he).perm (by
      rw [List.append_assoc, List.append_assoc]
      exact List.perm_append_comm.append_left L)⟩)
    (fun x _ => List.perm_append_comm) fun x ⟨⟨L', hx⟩, he, hp⟩ => h x.1 x.2.1 x.2.2 L' hx he hp
end

/-! ### structs that are built -/
class CBd (P : Program) (t : TypeId) (places : outParam (List (Nat × Nat))) (z : outParam (List Value)) : Prop where
  run : ∀ (parts : List (Nat × Value)) (cs : Array Value) (w : World), Instr.fill (places[·]?) z.toArray parts = some cs → (Instr.build t parts.toArray).run P w = .ok (.agg cs) w
def putL (z : List Value) (off : Nat) : List Value → List Value
  | [] => z
  | c :: cs => putL (z.set off c) (off + 1) cs
def cellsL : Value → List Value
  | .agg cs => cs.toList
  | v => [v]
def fillL (places : List (Nat × Nat)) (z : List Value) : List (Nat × Value) → Option (List Value)
  | [] => some z
  | (i, v) :: r => match places[i]? with
    | none => none
    | some (off, n) => bif Nat.beq (cellsL v).length n && Nat.ble (off + n) z.length then fillL places (putL z off (cellsL v)) r else none
def forceL : List Value → Option (List Value)
  | [] => some []
  | v :: r => match forceL r with
    | some q => some (v :: q)
    | none => none
def buildL (places : List (Nat × Nat)) (z : List Value) (parts : List (Nat × Value)) : Option (List Value) := match fillL places z parts with
  | some cs => forceL cs
  | none => none
theorem forceL_eq : ∀ {l q : List Value}, forceL l = some q → q = l
  | [], q, h => by simp [forceL] at h; exact h
  | v :: r, q, h => by
    simp only [forceL] at h
    cases hr : forceL r with
    | none => rw [hr] at h; cases h
    | some q' => rw [hr] at h; injection h with h; rw [← h, forceL_eq hr]
theorem putL_length (cs : List Value) : ∀ (z : List Value) (off : Nat), (putL z off cs).length = z.length := by
  induction cs with
  | nil => intro z off; rfl
  | cons c cs ih => intro z off; simp [putL, ih]
theorem cells_eq (v : Value) : v.cells.toList = cellsL v := by cases v <;> rfl
theorem putL_spec (off : Nat) : ∀ (cs : List Value) (m : Nat) (z : List Value), (cs.zipIdx m).foldl (fun (a : Array Value) (p : Value × Nat) => a.setIfInBounds (off + p.2) p.1) z.toArray = (putL z (off + m) cs).toArray
  | [], m, z => rfl
  | c :: cs, m, z => by
    simp only [List.zipIdx_cons, List.foldl_cons, putL]
    rw [List.setIfInBounds_toArray, putL_spec off cs (m + 1)]
    rfl
theorem fillL_spec (places : List (Nat × Nat)) : ∀ (parts : List (Nat × Value)) (z cs : List Value), fillL places z parts = some cs → Instr.fill (places[·]?) z.toArray parts = some cs.toArray
  | [], z, cs, h => by simp [fillL] at h; subst h; rfl
  | (i, v) :: r, z, cs, h => by
    simp only [fillL] at h
    cases hp : places[i]? with
    | none => rw [hp] at h; cases h
    | some q =>
      obtain ⟨off, n⟩ := q
      rw [hp] at h
      simp only at h
      cases hb : (Nat.beq (cellsL v).length n && Nat.ble (off + n) z.length) with
      | false => rw [hb] at h; cases h
      | true =>
        rw [hb] at h
        simp only [Bool.and_eq_true, Nat.beq_eq, Nat.ble_eq] at hb
        have hcs : v.cells.size = n := by rw [← hb.1, ← cells_eq]; simp
        simp only [cond_true] at h
        simp only [Instr.fill, hp]
        rw [if_neg (by simp [hcs]; omega)]
        have ef : v.cells.zipIdx.foldl (fun (cs : Array Value) (x : Value × Nat) => cs.setIfInBounds (off + x.2) x.1) z.toArray = (putL z off (cellsL v)).toArray := by
          rw [← Array.foldl_toList, Array.toList_zipIdx, cells_eq]
          exact putL_spec off (cellsL v) 0 z
        have := fillL_spec places r (putL z off (cellsL v)) cs h
        rw [← ef] at this
        exact this
theorem o_bd {places : List (Nat × Nat)} {z cs vs : List Value} {parts : Array (Nat × Operand)} [h : CBd P t places z] (hv : fevs fr (parts.toList.map (·.2)) = some vs) (hb : buildL places z ((parts.toList.map (·.1)).zip vs) = some cs) : Pv P ⟨dd, .build t parts, ty, pos, af, g⟩ fr I (.agg cs.toArray) :=
  o_build vs hv fun w => by
    refine h.run _ _ w ?_
    unfold buildL at hb
    cases hf : fillL places z ((parts.toList.map (·.1)).zip vs) with
    | none => rw [hf] at hb; cases hb
    | some cs' =>
      rw [hf] at hb
      have := forceL_eq hb
      subst this
      exact fillL_spec places _ z _ hf

/-! ### loops that keep what they do not write -/
theorem fle_append : ∀ (a b fr : Fr), fle a fr → fle b fr → fle (a ++ b) fr
  | [], b, fr, _, h => h
  | (i, v) :: a, b, fr, h, h' => ⟨h.1, fle_append a b fr h.2 h'⟩
def LoopQ {α : Type} (nt : Nat) (D : List Deferred) (w0 : World) (X : List Nat) (st : α → Fr) (fr0 : Fr) (C : α → Prop) (J : α → HL) (μ : α → Nat) (x : α) (Q : Exit → Act → World → Prop) : Exit → Act → World → Prop := Exit.then (fun a w => ∃ x', Ag nt D (st x' ++ fr0) a ∧ (C x' ∧ St w0 X (J x') w) ∧ μ x' < μ x) Q
theorem t_loopK {α : Type} {cd : Code} (ks : List Nat) {fr0 : Fr} (st : α → Fr) (C : α → Prop) (J : α → HL) (μ : α → Nat) (x0 : α) (hk : keep fr ks = some fr0) (hf : fle (st x0) fr) (hC : C x0) (hJ : ∀ w, St w0 X L w → St w0 X (J x0) w)
    (hb : ∀ x, C x → T P r cd (LoopQ nt D w0 X st fr0 C J μ x Q) nt D (st x ++ fr0) (St w0 X (J x))) : T P r (.loop cd) Q nt D fr (St w0 X L) :=
  t_loopC (fun x => st x ++ fr0) C (fun x => St w0 X (J x)) μ x0 hC (fle_append _ _ _ hf (keep_fle ks _ hk)) hJ hb
theorem xt_roundK {α : Type} {fr0 : Fr} {st : α → Fr} {C : α → Prop} {J : α → HL} {μ : α → Nat} {x : α} (x' : α) (hk : keep fr (fr0.map (·.1)) = some fr0) (hf : fle (st x') fr) (hC : C x') (hm : μ x' < μ x) (hJ : ∀ w, I w → St w0 X (J x') w) :
    Xt P .normal (LoopQ nt D w0 X st fr0 C J μ x Q) nt D fr I :=
  xt_roundC x' (fle_append _ _ _ hf (keep_fle _ _ hk)) hC hJ hm
theorem xt_loop_exit {α : Type} {fr0 : Fr} {st : α → Fr} {C : α → Prop} {J : α → HL} {μ : α → Nat} {x : α} {id : Nat} (h : Xt P (.exit id) Q nt D fr I) : Xt P (.exit id) (LoopQ nt D w0 X st fr0 C J μ x Q) nt D fr I := fun a w ha hw => h a w ha hw
theorem xt_loop_ret {α : Type} {fr0 : Fr} {st : α → Fr} {C : α → Prop} {J : α → HL} {μ : α → Nat} {x : α} (h : Xt P .ret Q nt D fr I) : Xt P .ret (LoopQ nt D w0 X st fr0 C J μ x Q) nt D fr I := fun a w ha hw => h a w ha hw
/-- fewer blocks, by their places -/
theorem St.pick {L' : HL} {w : World} (h : St w0 X L w) (is : List Nat) (hn : is.Nodup) (he : is.filterMap (fun i => L[i]?) = L') : St w0 X L' w := by
  subst he
  refine h.sub (fun p hp => ?_) ?_
  · obtain ⟨i, _, hi⟩ := List.mem_filterMap.1 hp
    exact List.mem_of_getElem? hi
  · rw [List.map_filterMap]
    refine nodup_filterMap hn fun a _ a' _ b ha ha' => ?_
    simp only [Option.map_eq_some_iff] at ha ha'
    obtain ⟨p, hp, rfl⟩ := ha
    obtain ⟨p', hp', he⟩ := ha'
    have hnd := h.apart
    have h1 : (L.map (·.1))[a]? = some p.1 := by simp [hp]
    have h2 : (L.map (·.1))[a']? = some p.1 := by simp [hp', he]
    have hlt := (List.getElem?_eq_some_iff.1 h1).1
    exact (List.getElem?_inj hlt hnd).1 (h1.trans h2.symm)
theorem St.weak {L' : HL} {w : World} (h : St w0 X (L ++ L') w) : St w0 X L w := h.sublist (List.sublist_append_left ..)

def lputF : HL → Nat → (Obj → Prop) → Option HL
  | [], _, _ => none
  | (b, _) :: r, 0, q => some ((b, q) :: r)
  | p :: r, i + 1, q => match lputF r i q with
    | some r' => some (p :: r')
    | none => none
theorem lputF_eq {q : Obj → Prop} : ∀ {L : HL} {i : Nat} {L' : HL}, lputF L i q = some L' → lput L i q = L'
  | [], _, _, h => by simp [lputF] at h
  | p :: r, 0, L', h => by simp [lputF] at h; subst h; rfl
  | p :: r, i + 1, L', h => by
    simp only [lputF] at h
    cases hr : lputF r i q with
    | none => rw [hr] at h; cases h
    | some r' => rw [hr] at h; injection h with h; rw [← h, lput, lputF_eq hr]
def setF : List Value → Nat → Value → Option (List Value)
  | [], _, _ => none
  | _ :: r, 0, v => some (v :: r)
  | u :: r, k + 1, v => match setF r k v with
    | some r' => some (u :: r')
    | none => none
theorem setF_eq {v : Value} : ∀ {cs : List Value} {k : Nat} {cs' : List Value}, setF cs k v = some cs' → cs.set k v = cs' ∧ k < cs.length
  | [], _, _, h => by simp [setF] at h
  | u :: r, 0, cs', h => by simp [setF] at h; subst h; simp
  | u :: r, k + 1, cs', h => by
    simp only [setF] at h
    cases hr : setF r k v with
    | none => rw [hr] at h; cases h
    | some r' =>
      rw [hr] at h
      injection h with h
      obtain ⟨h1, h2⟩ := setF_eq hr
      rw [← h]
      exact ⟨by simp [h1], by simpa using h2⟩
theorem o_storeN (i : Nat) {b k : Nat} {cs cs' : List Value} {e : TypeId} {v : Value} {L' : HL} [CSc P t] (hx : fev fr x = some (.pointer (some ⟨b, k, none⟩))) (hy : fev fr y = some v) (hL : L[i]? = some (b, bx cs e)) (h1 : v.oneCell' = true) (hs : setF cs k v = some cs') (hp : lputF L i (bx cs' e) = some L') :
    O P ⟨dd, .store t x y, ty, pos, af, g⟩ fr (St w0 X L) (fun _ w => St w0 X L' w) := by
  obtain ⟨e1, e2⟩ := setF_eq hs
  have := o_storeB (P := P) (t := t) (d := dd) (ty := ty) (pos := pos) (af := af) (g := g) (w0 := w0) (X := X) i hx hy hL (by rw [Nat.blt_eq]; exact e2) h1
  rwa [e1, lputF_eq hp] at this
theorem o_storeAN (i : Nat) {b n : Nat} {cs vs : List Value} {e : TypeId} {L' : HL} [CAg P t n] (hx : fev fr x = some (.pointer (some ⟨b, 0, none⟩))) (hy : fev fr y = some (.agg vs.toArray)) (hL : L[i]? = some (b, bx cs e)) (hl : vs.length = n) (hc : cs.length = n) (h1 : vs.all (·.oneCell') = true) (hp : lputF L i (bx vs e) = some L') :
    O P ⟨dd, .store t x y, ty, pos, af, g⟩ fr (St w0 X L) (fun _ w => St w0 X L' w) := by
  have := o_storeBA (P := P) (t := t) (d := dd) (ty := ty) (pos := pos) (af := af) (g := g) (w0 := w0) (X := X) i hx hy hL hl hc h1
  rwa [lputF_eq hp] at this

/-- a store of what is there -/
theorem o_storeSame (i : Nat) {b n : Nat} {cs : List Value} {e : TypeId} [CAg P t n] (hx : fev fr x = some (.pointer (some ⟨b, 0, none⟩))) (hy : fev fr y = some (.agg cs.toArray)) (hL : L[i]? = some (b, bx cs e)) (hl : cs.length = n) (h1 : cs.all (·.oneCell') = true) :
    O P ⟨dd, .store t x y, ty, pos, af, g⟩ fr (St w0 X L) (fun v w => v = undef ∧ St w0 X L w) := by
  have hput : lput L i (bx cs e) = L := by
    apply List.ext_getElem?
    intro j
    rw [lput_get]
    by_cases hj : j = i
    · subst hj; rw [if_pos rfl, hL]; rfl
    · rw [if_neg hj]
  intro ρ w hρ hw
  have h := o_storeBA (P := P) (t := t) (d := dd) (ty := ty) (pos := pos) (af := af) (g := g) (w0 := w0) (X := X) i hx hy hL hl hl h1 ρ w hρ hw
  unfold Op1 at *
  have hex : ∃ w', (execOp ρ ⟨dd, .store t x y, ty, pos, af, g⟩).run P w = .ok .skip w' := by
    have hg := hw.get (List.mem_of_getElem? hL)
    have := run_storeVar_ag (P := P) (t := t) (w := w) (b := b) (k := 0) hl (fun v hv => List.all_eq_true.1 h1 v hv) (fun j hj => by rw [cell_of hg]; simp; omega) (fun j _ => frozen_of hg)
    exact ⟨w.setCells b 0 cs, by simp [execOp, hρ _ _ hx, hρ _ _ hy, Instr.storeAt, Instr.sureAddr, this]⟩
  obtain ⟨w', he⟩ := hex
  rw [he] at h ⊢
  rw [hput] at h
  exact ⟨rfl, h⟩

/-! ### steps that find their own facts -/
theorem t_condT {a b : Code} (hc : fev fr c = some (.bool true)) (h : T P r a Q nt D fr I) : T P r (.cond c a b) Q nt D fr I := t_cond hc (fun _ => h) (fun e => by cases e)
theorem t_condF {a b : Code} (hc : fev fr c = some (.bool false)) (h : T P r b Q nt D fr I) : T P r (.cond c a b) Q nt D fr I := t_cond hc (fun e => by cases e) (fun _ => h)
theorem s_load (h : TL P r ops Q nt D (⟨some d, .load t x, ty, pos, af, none⟩ :: rest) fr I) : TL P r ops Q nt D (⟨some d, .load t x, ty, pos, af, none⟩ :: rest) fr I := h
theorem s_bin {bop : BinOp} (h : TL P r ops Q nt D (⟨some d, .binOp bop t x y t', ty, pos, af, none⟩ :: rest) fr I) : TL P r ops Q nt D (⟨some d, .binOp bop t x y t', ty, pos, af, none⟩ :: rest) fr I := h
theorem s_pick (h : TL P r ops Q nt D (⟨some d, .pick c x y, ty, pos, af, none⟩ :: rest) fr I) : TL P r ops Q nt D (⟨some d, .pick c x y, ty, pos, af, none⟩ :: rest) fr I := h
theorem s_build {parts : Array (Nat × Operand)} (h : TL P r ops Q nt D (⟨some d, .build t parts, ty, pos, af, none⟩ :: rest) fr I) : TL P r ops Q nt D (⟨some d, .build t parts, ty, pos, af, none⟩ :: rest) fr I := h
theorem s_index (h : TL P r ops Q nt D (⟨some d, .indexAddr t x y, ty, pos, af, none⟩ :: rest) fr I) : TL P r ops Q nt D (⟨some d, .indexAddr t x y, ty, pos, af, none⟩ :: rest) fr I := h
theorem s_unop {uop : UnOp} (h : TL P r ops Q nt D (⟨some d, .unOp uop t x, ty, pos, af, none⟩ :: rest) fr I) : TL P r ops Q nt D (⟨some d, .unOp uop t x, ty, pos, af, none⟩ :: rest) fr I := h
theorem s_conv (h : TL P r ops Q nt D (⟨some d, .convert t t' x, ty, pos, af, none⟩ :: rest) fr I) : TL P r ops Q nt D (⟨some d, .convert t t' x, ty, pos, af, none⟩ :: rest) fr I := h
theorem s_call {f : FuncId} {args : Array Operand} {ts : Array TypeId} (h : TL P r ops Q nt D (⟨some d, .call ⟨.value (.func f), args, ts⟩, ty, pos, af, none⟩ :: rest) fr I) : TL P r ops Q nt D (⟨some d, .call ⟨.value (.func f), args, ts⟩, ty, pos, af, none⟩ :: rest) fr I := h
theorem s_store (h : TL P r ops Q nt D (⟨none, .store t x y, ty, pos, af, none⟩ :: rest) fr I) : TL P r ops Q nt D (⟨none, .store t x y, ty, pos, af, none⟩ :: rest) fr I := h
def cellsO : Value → Option (List Value)
  | .agg cs => forceL cs.toList
  | v => some [v]
theorem cellsO_eq {v : Value} {cs : List Value} (h : cellsO v = some cs) : v.cells.toList = cs := by
  cases v <;> first | (simp only [cellsO, Option.some.injEq] at h; subst h; rfl) | exact (forceL_eq h).symm
theorem s_box (h : TL P r ops Q nt D (⟨some d, .box t x, ty, pos, af, none⟩ :: rest) fr I) : TL P r ops Q nt D (⟨some d, .box t x, ty, pos, af, none⟩ :: rest) fr I := h
theorem g_box {cs : List Value} {v : Value} (h : ∀ b, TL P r ops Q nt D rest ((d, .pointer (some ⟨b, 0, none⟩)) :: fr) (St w0 X ((b, bx cs t) :: L))) (hx : fev fr x = some v := by rfl) (hc : cellsO v = some cs := by rfl) (hd : Nat.ble nt d = false := by rfl) : TL P r ops Q nt D (⟨some d, .box t x, ty, pos, af, none⟩ :: rest) fr (St w0 X L) := tl_box (o_box hx (cellsO_eq hc)) hd h
theorem g_load (h : TL P r ops Q nt D rest ((d, u) :: fr) I)
    (ho : O P ⟨some d, .load t x, ty, pos, af, none⟩ fr I (fun v w => v = u ∧ I w) := by first | exact o_loadB 0 rfl rfl rfl | exact o_loadB 1 rfl rfl rfl | exact o_loadB 2 rfl rfl rfl | exact o_loadB 3 rfl rfl rfl | exact o_loadB 4 rfl rfl rfl | exact o_loadB 5 rfl rfl rfl | exact o_loadB 6 rfl rfl rfl | exact o_loadBA 0 rfl rfl rfl | exact o_loadBA 1 rfl rfl rfl | exact o_loadBA 2 rfl rfl rfl | exact o_loadBA 3 rfl rfl rfl | exact o_loadBA 4 rfl rfl rfl | exact o_loadBA 5 rfl rfl rfl | exact o_loadC rfl (by assumption) | exact o_loadCF rfl (by assumption) (by rfl) | exact o_loadCA rfl (by assumption) (by rfl) | exact o_loadCX rfl (by assumption) (by assumption) | exact o_loadCFX rfl (by assumption) (by assumption) (by rfl) | exact o_loadCAX rfl (by assumption) (by assumption) (by rfl) | exact o_loadS rfl (by assumption) (by intro p hp; simp [hp]) | exact o_loadSF rfl (by assumption) (by rfl) (by intro p hp; simp [hp]) | exact o_loadSA rfl (by assumption) (by rfl) (by intro p hp; simp [hp]))
    (hd : Nat.ble nt d = false := by rfl) : TL P r ops Q nt D (⟨some d, .load t x, ty, pos, af, none⟩ :: rest) fr I := tl_val ho hd rfl h
theorem g_bin {op : BinOp} (h : TL P r ops Q nt D rest ((d, u) :: fr) I)
    (ho : O P ⟨some d, .binOp op t x y t', ty, pos, af, none⟩ fr I (fun v w => v = u ∧ I w) := by first | exact o_add64 rfl rfl (by omega) | exact o_sub64 rfl rfl (by omega) | exact o_mul64 rfl rfl (by first | assumption | omega) | exact o_eqls rfl rfl | exact o_neqs rfl rfl)
    (hd : Nat.ble nt d = false := by rfl) : TL P r ops Q nt D (⟨some d, .binOp op t x y t', ty, pos, af, none⟩ :: rest) fr I := tl_val ho hd rfl h
theorem g_pick (h : TL P r ops Q nt D rest ((d, u) :: fr) I)
    (ho : O P ⟨some d, .pick c x y, ty, pos, af, none⟩ fr I (fun v w => v = u ∧ I w) := by first | exact o_pick_t rfl rfl | exact o_pick_f rfl rfl)
    (hd : Nat.ble nt d = false := by rfl) : TL P r ops Q nt D (⟨some d, .pick c x y, ty, pos, af, none⟩ :: rest) fr I := tl_val ho hd rfl h
theorem g_build {parts : Array (Nat × Operand)} (h : TL P r ops Q nt D rest ((d, u) :: fr) I)
    (ho : O P ⟨some d, .build t parts, ty, pos, af, none⟩ fr I (fun v w => v = u ∧ I w) := by exact o_bd rfl rfl)
    (hd : Nat.ble nt d = false := by rfl) : TL P r ops Q nt D (⟨some d, .build t parts, ty, pos, af, none⟩ :: rest) fr I := tl_val ho hd rfl h
theorem g_index (h : TL P r ops Q nt D rest ((d, u) :: fr) I)
    (ho : O P ⟨some d, .indexAddr t x y, ty, pos, af, none⟩ fr I (fun v w => v = u ∧ I w) := by exact o_indexAddr rfl rfl (by omega))
    (hd : Nat.ble nt d = false := by rfl) : TL P r ops Q nt D (⟨some d, .indexAddr t x y, ty, pos, af, none⟩ :: rest) fr I := tl_val ho hd rfl h
theorem g_store {I' : World → Prop} (h : TL P r ops Q nt D rest fr I')
    (ho : O P ⟨none, .store t x y, ty, pos, af, none⟩ fr I (fun _ w => I' w) := by first | exact o_storeN 0 rfl rfl rfl rfl rfl rfl | exact o_storeN 1 rfl rfl rfl rfl rfl rfl | exact o_storeN 2 rfl rfl rfl rfl rfl rfl | exact o_storeN 3 rfl rfl rfl rfl rfl rfl | exact o_storeN 4 rfl rfl rfl rfl rfl rfl | exact o_storeN 5 rfl rfl rfl rfl rfl rfl | exact o_storeAN 0 rfl rfl rfl rfl rfl rfl rfl | exact o_storeAN 1 rfl rfl rfl rfl rfl rfl rfl | exact o_storeAN 2 rfl rfl rfl rfl rfl rfl rfl | exact o_storeAN 3 rfl rfl rfl rfl rfl rfl rfl | exact o_storeAN 4 rfl rfl rfl rfl rfl rfl rfl | exact o_storeAN 5 rfl rfl rfl rfl rfl rfl rfl) : TL P r ops Q nt D (⟨none, .store t x y, ty, pos, af, none⟩ :: rest) fr I := tl_unit ho rfl h
theorem g_unop {op : UnOp} (h : TL P r ops Q nt D rest ((d, u) :: fr) I)
    (ho : O P ⟨some d, .unOp op t x, ty, pos, af, none⟩ fr I (fun v w => v = u ∧ I w) := by first | exact o_neg64 rfl (by omega))
    (hd : Nat.ble nt d = false := by rfl) : TL P r ops Q nt D (⟨some d, .unOp op t x, ty, pos, af, none⟩ :: rest) fr I := tl_val ho hd rfl h
theorem o_convI {k : IntKind} {a : Int} (hx : fev fr x = some (.int k a)) [hs : CInt P t k] [hd : CInt P t' .i64] (h : -9223372036854775808 ≤ a ∧ a ≤ 9223372036854775807) : Pv P ⟨dd, .convert t t' x, ty, pos, af, g⟩ fr I (.int .i64 a) := by
  have := o_convert (P := P) (I := I) (d := dd) (ty := ty) (t := t) (t' := t') (pos := pos) (af := af) (g := g) hx
  rwa [fits64 h] at this
theorem g_conv (h : TL P r ops Q nt D rest ((d, u) :: fr) I)
    (ho : O P ⟨some d, .convert t t' x, ty, pos, af, none⟩ fr I (fun v w => v = u ∧ I w) := by first | exact o_convI rfl (by omega))
    (hd : Nat.ble nt d = false := by rfl) : TL P r ops Q nt D (⟨some d, .convert t t' x, ty, pos, af, none⟩ :: rest) fr I := tl_val ho hd rfl h
class CDet (P : Program) (f : FuncId) (vs : List Value) (u : outParam Value) : Prop where
  det : Det P f vs u
theorem g_call {f : FuncId} {args : Array Operand} {ts : Array TypeId} {vs : List Value} (h : TL P r ops Q nt D rest ((d, u) :: fr) (St w0 X L)) [CFn P f] (hv : fevs fr args.toList = some vs := by rfl) (hc : CDet P f vs u := by infer_instance)
    (hd : Nat.ble nt d = false := by rfl) : TL P r ops Q nt D (⟨some d, .call ⟨.value (.func f), args, ts⟩, ty, pos, af, none⟩ :: rest) fr (St w0 X L) := tl_val (o_det hc.det hv) hd rfl h

section
variable {l : List Oper} {fin : Fr → HL → Prop} {k j : Nat} {s : Sk} {sk : SkL} {acc : Fr} {Hn : HL} {want b : Bool} {off : Nat → Nat → Option Nat} {kd : Nat → Nat} {op : Op} {o : Oper}
theorem dw_opN (hs : s.isA = false) (hh : hdF sk = true) (h : ∀ L', O P ⟨dd, op, ty, pos, af, none⟩ (frkN l.toArray acc fr af.toList) (St w0 X (L ++ L')) (fun v w => v = u ∧ St w0 X (L ++ L') w)) (hr : DW P l fr w0 X fin sk ((k, u) :: acc) L Hn) : DW1 P l fr w0 X fin k s ⟨dd, op, ty, pos, af, none⟩ sk acc L Hn := by
  rw [frkN_eq] at h
  exact dw_op hs hh h hr
theorem dw_yesN (hj : lv acc j = .bool want) (hs : s.isA = false) (hh : hdF sk = true) (h : ∀ L', O P ⟨dd, op, ty, pos, af, some (j, want)⟩ (frkN l.toArray acc fr af.toList) (St w0 X (L ++ L')) (fun v w => v = u ∧ St w0 X (L ++ L') w)) (hr : DW P l fr w0 X fin sk ((k, u) :: acc) L Hn) : DW1 P l fr w0 X fin k s ⟨dd, op, ty, pos, af, some (j, want)⟩ sk acc L Hn := by
  rw [frkN_eq] at h
  exact dw_yes hj hs hh h hr
theorem w_open (h : DW1 P l fr w0 X fin k s o sk acc L Hn) (ho : l[k]? = some o := by rfl) : DW P l fr w0 X fin ((k, s) :: sk) acc L Hn := h ho
theorem dw_opG (hg : GOk ⟨dd, op, ty, pos, af, g⟩ acc) (hs : s.isA = false) (hh : hdF sk = true) (h : ∀ L', O P ⟨dd, op, ty, pos, af, g⟩ (frkN l.toArray acc fr af.toList) (St w0 X (L ++ L')) (fun v w => v = u ∧ St w0 X (L ++ L') w)) (hr : DW P l fr w0 X fin sk ((k, u) :: acc) L Hn) : DW1 P l fr w0 X fin k s ⟨dd, op, ty, pos, af, g⟩ sk acc L Hn := by
  rw [frkN_eq] at h
  cases g with
  | none => exact dw_op hs hh h hr
  | some q =>
    obtain ⟨j, want⟩ := q
    exact dw_yes hg hs hh h hr
theorem sw_g (h : DW1 P l fr w0 X fin k s ⟨dd, op, ty, pos, af, some (j, want)⟩ sk acc L Hn) : DW1 P l fr w0 X fin k s ⟨dd, op, ty, pos, af, some (j, want)⟩ sk acc L Hn := h
theorem w_p (ht : Tab P off kd) (h : DW P l fr w0 X fin sk ((k, u) :: acc) L Hn) (hu : stepP off kd (frkN l.toArray acc fr af.toList) op = some u := by rfl) (hg : GOk ⟨dd, op, ty, pos, af, g⟩ acc := by first | trivial | rfl) (hs : s.isA = false := by rfl) (hh : hdF sk = true := by rfl) : DW1 P l fr w0 X fin k s ⟨dd, op, ty, pos, af, g⟩ sk acc L Hn := dw_opG hg hs hh (fun _ => stepP_spec ht hu) h
theorem w_no (h : DW P l fr w0 X fin sk ((k, undef) :: acc) L Hn) (hj : lv acc j = .bool b := by rfl) (hb : (b == want) = false := by rfl) (hs : s.isA = false := by rfl) (hh : hdF sk = true := by rfl) : DW1 P l fr w0 X fin k s ⟨dd, op, ty, pos, af, some (j, want)⟩ sk acc L Hn := dw_no hj hb hs hh h
theorem w_un (h : DW P l fr w0 X fin sk ((k, undef) :: acc) L Hn) (hj : lv acc j = undef := by rfl) (hs : s.isA = false := by rfl) (hh : hdF sk = true := by rfl) : DW1 P l fr w0 X fin k s ⟨dd, op, ty, pos, af, some (j, want)⟩ sk acc L Hn := dw_undef hj hs hh h
theorem sw_load (h : DW1 P l fr w0 X fin k s ⟨dd, .load t x, ty, pos, af, g⟩ sk acc L Hn) : DW1 P l fr w0 X fin k s ⟨dd, .load t x, ty, pos, af, g⟩ sk acc L Hn := h
theorem w_load (h : DW P l fr w0 X fin sk ((k, u) :: acc) L Hn) (ho : ∀ L', O P ⟨dd, .load t x, ty, pos, af, g⟩ (frkN l.toArray acc fr af.toList) (St w0 X (L ++ L')) (fun v w => v = u ∧ St w0 X (L ++ L') w) := by intro L'; first | exact o_loadB 0 rfl rfl rfl | exact o_loadB 1 rfl rfl rfl | exact o_loadB 2 rfl rfl rfl | exact o_loadB 3 rfl rfl rfl | exact o_loadB 4 rfl rfl rfl | exact o_loadB 5 rfl rfl rfl | exact o_loadB 6 rfl rfl rfl | exact o_loadBA 0 rfl rfl rfl | exact o_loadBA 1 rfl rfl rfl | exact o_loadBA 2 rfl rfl rfl | exact o_loadBA 3 rfl rfl rfl | exact o_loadBA 4 rfl rfl rfl | exact o_loadBA 5 rfl rfl rfl | exact o_loadC rfl (by assumption) | exact o_loadCF rfl (by assumption) (by rfl) | exact o_loadCA rfl (by assumption) (by rfl) | exact o_loadCX rfl (by assumption) (by assumption) | exact o_loadCFX rfl (by assumption) (by assumption) (by rfl) | exact o_loadCAX rfl (by assumption) (by assumption) (by rfl) | exact o_loadS rfl (by assumption) (by intro p hp; simp [hp]) | exact o_loadSF rfl (by assumption) (by rfl) (by intro p hp; simp [hp]) | exact o_loadSA rfl (by assumption) (by rfl) (by intro p hp; simp [hp])) (hg : GOk ⟨dd, .load t x, ty, pos, af, g⟩ acc := by first | trivial | rfl) (hs : s.isA = false := by rfl) (hh : hdF sk = true := by rfl) : DW1 P l fr w0 X fin k s ⟨dd, .load t x, ty, pos, af, g⟩ sk acc L Hn := dw_opG hg hs hh ho h
theorem sw_bin {bop : BinOp} (h : DW1 P l fr w0 X fin k s ⟨dd, .binOp bop t x y t', ty, pos, af, g⟩ sk acc L Hn) : DW1 P l fr w0 X fin k s ⟨dd, .binOp bop t x y t', ty, pos, af, g⟩ sk acc L Hn := h
theorem w_bin {bop : BinOp} (h : DW P l fr w0 X fin sk ((k, u) :: acc) L Hn) (ho : ∀ L', O P ⟨dd, .binOp bop t x y t', ty, pos, af, g⟩ (frkN l.toArray acc fr af.toList) (St w0 X (L ++ L')) (fun v w => v = u ∧ St w0 X (L ++ L') w) := by intro L'; first | exact o_add64 rfl rfl (by omega) | exact o_sub64 rfl rfl (by omega) | exact o_mul64 rfl rfl (by first | assumption | omega) | exact o_eqls rfl rfl | exact o_neqs rfl rfl) (hg : GOk ⟨dd, .binOp bop t x y t', ty, pos, af, g⟩ acc := by first | trivial | rfl) (hs : s.isA = false := by rfl) (hh : hdF sk = true := by rfl) : DW1 P l fr w0 X fin k s ⟨dd, .binOp bop t x y t', ty, pos, af, g⟩ sk acc L Hn := dw_opG hg hs hh ho h
theorem sw_pick (h : DW1 P l fr w0 X fin k s ⟨dd, .pick c x y, ty, pos, af, g⟩ sk acc L Hn) : DW1 P l fr w0 X fin k s ⟨dd, .pick c x y, ty, pos, af, g⟩ sk acc L Hn := h
theorem w_pick (h : DW P l fr w0 X fin sk ((k, u) :: acc) L Hn) (ho : ∀ L', O P ⟨dd, .pick c x y, ty, pos, af, g⟩ (frkN l.toArray acc fr af.toList) (St w0 X (L ++ L')) (fun v w => v = u ∧ St w0 X (L ++ L') w) := by intro L'; first | exact o_pick_t rfl rfl | exact o_pick_f rfl rfl) (hg : GOk ⟨dd, .pick c x y, ty, pos, af, g⟩ acc := by first | trivial | rfl) (hs : s.isA = false := by rfl) (hh : hdF sk = true := by rfl) : DW1 P l fr w0 X fin k s ⟨dd, .pick c x y, ty, pos, af, g⟩ sk acc L Hn := dw_opG hg hs hh ho h
theorem sw_build {parts : Array (Nat × Operand)} (h : DW1 P l fr w0 X fin k s ⟨dd, .build t parts, ty, pos, af, g⟩ sk acc L Hn) : DW1 P l fr w0 X fin k s ⟨dd, .build t parts, ty, pos, af, g⟩ sk acc L Hn := h
theorem w_build {parts : Array (Nat × Operand)} (h : DW P l fr w0 X fin sk ((k, u) :: acc) L Hn) (ho : ∀ L', O P ⟨dd, .build t parts, ty, pos, af, g⟩ (frkN l.toArray acc fr af.toList) (St w0 X (L ++ L')) (fun v w => v = u ∧ St w0 X (L ++ L') w) := by intro L'; exact o_bd rfl rfl) (hg : GOk ⟨dd, .build t parts, ty, pos, af, g⟩ acc := by first | trivial | rfl) (hs : s.isA = false := by rfl) (hh : hdF sk = true := by rfl) : DW1 P l fr w0 X fin k s ⟨dd, .build t parts, ty, pos, af, g⟩ sk acc L Hn := dw_opG hg hs hh ho h
theorem sw_index (h : DW1 P l fr w0 X fin k s ⟨dd, .indexAddr t x y, ty, pos, af, g⟩ sk acc L Hn) : DW1 P l fr w0 X fin k s ⟨dd, .indexAddr t x y, ty, pos, af, g⟩ sk acc L Hn := h
theorem w_index (h : DW P l fr w0 X fin sk ((k, u) :: acc) L Hn) (ho : ∀ L', O P ⟨dd, .indexAddr t x y, ty, pos, af, g⟩ (frkN l.toArray acc fr af.toList) (St w0 X (L ++ L')) (fun v w => v = u ∧ St w0 X (L ++ L') w) := by intro L'; exact o_indexAddr rfl rfl (by omega)) (hg : GOk ⟨dd, .indexAddr t x y, ty, pos, af, g⟩ acc := by first | trivial | rfl) (hs : s.isA = false := by rfl) (hh : hdF sk = true := by rfl) : DW1 P l fr w0 X fin k s ⟨dd, .indexAddr t x y, ty, pos, af, g⟩ sk acc L Hn := dw_opG hg hs hh ho h
theorem sw_unop {uop : UnOp} (h : DW1 P l fr w0 X fin k s ⟨dd, .unOp uop t x, ty, pos, af, g⟩ sk acc L Hn) : DW1 P l fr w0 X fin k s ⟨dd, .unOp uop t x, ty, pos, af, g⟩ sk acc L Hn := h
theorem w_unop {uop : UnOp} (h : DW P l fr w0 X fin sk ((k, u) :: acc) L Hn) (ho : ∀ L', O P ⟨dd, .unOp uop t x, ty, pos, af, g⟩ (frkN l.toArray acc fr af.toList) (St w0 X (L ++ L')) (fun v w => v = u ∧ St w0 X (L ++ L') w) := by intro L'; exact o_neg64 rfl (by omega)) (hg : GOk ⟨dd, .unOp uop t x, ty, pos, af, g⟩ acc := by first | trivial | rfl) (hs : s.isA = false := by rfl) (hh : hdF sk = true := by rfl) : DW1 P l fr w0 X fin k s ⟨dd, .unOp uop t x, ty, pos, af, g⟩ sk acc L Hn := dw_opG hg hs hh ho h
theorem sw_conv (h : DW1 P l fr w0 X fin k s ⟨dd, .convert t t' x, ty, pos, af, g⟩ sk acc L Hn) : DW1 P l fr w0 X fin k s ⟨dd, .convert t t' x, ty, pos, af, g⟩ sk acc L Hn := h
theorem w_conv (h : DW P l fr w0 X fin sk ((k, u) :: acc) L Hn) (ho : ∀ L', O P ⟨dd, .convert t t' x, ty, pos, af, g⟩ (frkN l.toArray acc fr af.toList) (St w0 X (L ++ L')) (fun v w => v = u ∧ St w0 X (L ++ L') w) := by intro L'; exact o_convI rfl (by omega)) (hg : GOk ⟨dd, .convert t t' x, ty, pos, af, g⟩ acc := by first | trivial | rfl) (hs : s.isA = false := by rfl) (hh : hdF sk = true := by rfl) : DW1 P l fr w0 X fin k s ⟨dd, .convert t t' x, ty, pos, af, g⟩ sk acc L Hn := dw_opG hg hs hh ho h
theorem sw_store (h : DW1 P l fr w0 X fin k s ⟨dd, .store t x y, ty, pos, af, g⟩ sk acc L Hn) : DW1 P l fr w0 X fin k s ⟨dd, .store t x y, ty, pos, af, g⟩ sk acc L Hn := h
theorem w_store (h : DW P l fr w0 X fin sk ((k, u) :: acc) L Hn) (ho : ∀ L', O P ⟨dd, .store t x y, ty, pos, af, g⟩ (frkN l.toArray acc fr af.toList) (St w0 X (L ++ L')) (fun v w => v = u ∧ St w0 X (L ++ L') w) := by intro L'; first | exact o_storeSame 0 rfl rfl rfl rfl rfl | exact o_storeSame 1 rfl rfl rfl rfl rfl | exact o_storeSame 2 rfl rfl rfl rfl rfl) (hg : GOk ⟨dd, .store t x y, ty, pos, af, g⟩ acc := by first | trivial | rfl) (hs : s.isA = false := by rfl) (hh : hdF sk = true := by rfl) : DW1 P l fr w0 X fin k s ⟨dd, .store t x y, ty, pos, af, g⟩ sk acc L Hn := dw_opG hg hs hh ho h
theorem sw_call {f : FuncId} {args : Array Operand} {ts : Array TypeId} (h : DW1 P l fr w0 X fin k s ⟨dd, .call ⟨.value (.func f), args, ts⟩, ty, pos, af, g⟩ sk acc L Hn) : DW1 P l fr w0 X fin k s ⟨dd, .call ⟨.value (.func f), args, ts⟩, ty, pos, af, g⟩ sk acc L Hn := h
theorem w_call {f : FuncId} {args : Array Operand} {ts : Array TypeId} {vs : List Value} [CFn P f] (h : DW P l fr w0 X fin sk ((k, u) :: acc) L Hn) (hv : fevs (frkN l.toArray acc fr af.toList) args.toList = some vs := by rfl) (hc : CDet P f vs u := by infer_instance) (hg : GOk ⟨dd, .call ⟨.value (.func f), args, ts⟩, ty, pos, af, g⟩ acc := by first | trivial | rfl) (hs : s.isA = false := by rfl) (hh : hdF sk = true := by rfl) : DW1 P l fr w0 X fin k s ⟨dd, .call ⟨.value (.func f), args, ts⟩, ty, pos, af, g⟩ sk acc L Hn := dw_opG hg hs hh (fun _ => o_det hc.det hv) h
theorem sw_put {t : TypeId} {x y : Operand} (h : DW1 P l fr w0 X fin k .h ⟨none, .store t x y, ty, pos, af, none⟩ sk acc L Hn) : DW1 P l fr w0 X fin k .h ⟨none, .store t x y, ty, pos, af, none⟩ sk acc L Hn := h
theorem w_put {bb : Nat} {t : TypeId} {x y : Operand} {v : Value} {cs cs' : List Value} {e : TypeId} (h : DW P l fr w0 X fin sk ((k, undef) :: acc) ((bb, bx cs' e) :: L) Hn) (hx : fev (frkN l.toArray acc fr af.toList) x = some (.pointer (some ⟨bb, 0, none⟩)) := by rfl) (hy : fev (frkN l.toArray acc fr af.toList) y = some v := by rfl) (hst : Stores P t v cs' := by first | exact stores_sc rfl | exact stores_ag rfl rfl) (hl : Nat.beq cs.length cs'.length = true := by rfl) : DW1 P l fr w0 X fin k .h ⟨none, .store t x y, ty, pos, af, none⟩ sk acc ((bb, bx cs e) :: L) Hn := by
  rw [frkN_eq] at hx hy
  exact dw_hd (α := Unit) (fun _ => True) (fun _ => undef) (fun _ => [(bb, bx cs' e)]) (by simp) trivial (fun L' => o_ofu fun ρ w hρ hw => by
    have hg := hw.get (List.mem_cons_self ..)
    obtain ⟨w', h1, h2, h3⟩ := hst w bb e cs hg (by rw [Nat.beq_eq] at hl; exact hl)
    refine ⟨w', ?_, (), trivial, rfl, hw.put h2 h3 rfl⟩
    simp [execOp, hρ _ _ hx, hρ _ _ hy, Instr.storeAt, Instr.sureAddr, h1]) fun _ _ => h
theorem dw_callV {f : FuncId} {args : Array Operand} {ts : Array TypeId} {vs : List Value} [CFn P f] (hc : ∀ L' w, St w0 X (L ++ L') w → Calls P f vs.toArray w (Ret w fun v _ => v = u)) (hv : fevs (frkN l.toArray acc fr af.toList) args.toList = some vs) (hg : GOk ⟨dd, .call ⟨.value (.func f), args, ts⟩, ty, pos, af, g⟩ acc) (hs : s.isA = false) (hh : hdF sk = true)
    (h : DW P l fr w0 X fin sk ((k, u) :: acc) L Hn) : DW1 P l fr w0 X fin k s ⟨dd, .call ⟨.value (.func f), args, ts⟩, ty, pos, af, g⟩ sk acc L Hn :=
  dw_opG hg hs hh (fun L' => (o_ret (Post := fun _ v _ => v = u) hv (hc L')).mono fun v w' ⟨w, hw, he, hp⟩ => ⟨hp, hw.ext he⟩) h
end

/-! ### tests of several parts -/
theorem t_if {c : Operand} {reg A B : Code} {t : Nat} {fr0 : Fr} (ks : List Nat) (hks : keep fr ks = some fr0) (C : Prop) (h : ∀ Q', (∀ fr' b, keep fr' ks = some fr0 → flook fr' t = some (.bool b) → (b = true ↔ C) → Xt P .normal Q' nt D fr' I) → T P r reg Q' nt D fr I) (hc : c = .tmp t) (hA : C → T P r A Q nt D fr0 I) (hB : ¬ C → T P r B Q nt D fr0 I) : T P r (.seq reg (.cond c A B)) Q nt D fr I := by
  subst hc
  refine t_seq (h _ fun fr' b hk hb hC => ?_)
  refine xt_then (t_cond hb (fun e => ?_) (fun e => ?_))
  · exact t_weak (keep_fle _ _ hk) (fun _ h => h) (hA (hC.1 e))
  · exact t_weak (keep_fle _ _ hk) (fun _ h => h) (hB fun hc => by have := hC.2 hc; rw [e] at this; cases this)
theorem tl_if {A B : Code} {t : Nat} {fr0 : Fr} (ks : List Nat) (C : Prop) (hks : keep fr ks = some fr0) (h : ∀ Q', (∀ fr' b, keep fr' ks = some fr0 → flook fr' t = some (.bool b) → (b = true ↔ C) → Xt P .normal Q' nt D fr' I) → TL P r ops Q' nt D rest fr I) (hA : C → T P r A Q nt D fr0 I) (hB : ¬ C → T P r B Q nt D fr0 I) : TL P r ops (Kt P r (.cond (.tmp t) A B) Q) nt D rest fr I := by
  refine h _ fun fr' b hk hb hC => ?_
  refine xt_then (t_cond hb (fun e => ?_) (fun e => ?_))
  · exact t_weak (keep_fle _ _ hk) (fun _ h => h) (hA (hC.1 e))
  · exact t_weak (keep_fle _ _ hk) (fun _ h => h) (hB fun hc => by have := hC.2 hc; rw [e] at this; cases this)
theorem t_keep {cd : Code} {fr0 : Fr} (ks : List Nat) (hk : keep fr ks = some fr0) (h : T P r cd Q nt D fr0 I) : T P r cd Q nt D fr I := t_weak (keep_fle _ _ hk) (fun _ h => h) h

section
variable {l : List Oper} {n0 : Nat} {k j : Nat} {s : Sk} {sk : SkL} {acc : Fr} {Hn : HL} {want b : Bool} {o : Oper}
theorem ok_congr : ∀ (pl : Pl) (sk : SkL) (acc acc' : Fr) (L Hn : HL), (∀ i, lv acc i = lv acc' i) → Ok P l fr w0 X (finW P r l n0 Q nt D fr w0 X) pl sk acc L Hn → Ok P l fr w0 X (finW P r l n0 Q nt D fr w0 X) pl sk acc' L Hn
  | .fin, sk, acc, acc', L, Hn, he, h => by
    refine ⟨h.1, ?_⟩
    have := h.2
    unfold finW at *
    rw [show lv acc' = lv acc from funext fun i => (he i).symm]
    exact this
  | .val k u nx, sk, acc, acc', L, Hn, he, h => by
    obtain ⟨s, r', o, h1, h2, h3, h4, h5, h6⟩ := h
    refine ⟨s, r', o, h1, h2, h3, h4, ?_, ok_congr nx r' _ _ L Hn (fun i => by rw [lv_cons, lv_cons, he i]) h6⟩
    unfold VSpec at *
    rw [show lv acc' = lv acc from funext fun i => (he i).symm]
    exact h5
  | .eff k hd c α C u N M nx, sk, acc, acc', L, Hn, he, h => by
    obtain ⟨r', o, h1, h2, h3, h4, h5, h6, h7⟩ := h
    refine ⟨r', o, h1, h2, ?_, h4, h5, ?_, fun x hx => ok_congr (nx x) r' _ _ _ _ (fun i => by rw [lv_cons, lv_cons, he i]) (h7 x hx)⟩
    · unfold GOk at *
      rw [show lv acc' = lv acc from funext fun i => (he i).symm]
      exact h3
    · rw [show lv acc' = lv acc from funext fun i => (he i).symm]
      exact h6
  | .alo k nx, sk, acc, acc', L, Hn, he, h => by
    obtain ⟨r', h1, h2⟩ := h
    exact ⟨r', h1, fun x => ok_congr (nx x) r' _ _ _ _ (fun i => by rw [lv_cons, lv_cons, he i]) (h2 x)⟩
theorem dw_guard (hj : lv acc j = .bool b) (ht : b = want → DW1 P l fr w0 X (finW P r l n0 Q nt D fr w0 X) k s o sk ((j, .bool want) :: acc) L Hn) (hf : b = !want → DW1 P l fr w0 X (finW P r l n0 Q nt D fr w0 X) k s o sk ((j, .bool (!want)) :: acc) L Hn) : DW1 P l fr w0 X (finW P r l n0 Q nt D fr w0 X) k s o sk acc L Hn := fun ho => by
  by_cases e : b = want
  · obtain ⟨pl, hp⟩ := ht e ho
    refine ⟨pl, ok_congr pl _ _ _ L Hn (fun i => ?_) hp⟩
    rw [lv_cons]
    by_cases h : j = i
    · subst h; rw [if_pos rfl, hj, e]
    · rw [if_neg h]
  · have e' : b = !want := by cases b <;> cases want <;> simp_all
    obtain ⟨pl, hp⟩ := hf e' ho
    refine ⟨pl, ok_congr pl _ _ _ L Hn (fun i => ?_) hp⟩
    rw [lv_cons]
    by_cases h : j = i
    · subst h; rw [if_pos rfl, hj, e']
    · rw [if_neg h]
end
end Go.Proofs.Ytbgolbkolcmldaa

/-
  Closed facts on structs that are built, written by a program (wip/types2.py).
-/
namespace Go.Proofs.Ytbgolbkolcmldaa
open Go.RowKit

def bdsem (places : List (Nat × Nat)) (z : List Value) (parts : List (Nat × Value)) : Sem Value := do
  let some cells := Instr.fill (places.toArray[·]?) z.toArray parts | stuck "build: no such field, or a part of the wrong size"
  pure (.agg cells)
theorem bdrun {P : Program} {t : TypeId} {places : List (Nat × Nat)} {z : List Value} {parts : List (Nat × Value)} {cs : Array Value} {w : World} (h : (Instr.build t parts.toArray).run P w = (bdsem places z parts).run P w) (hf : Instr.fill (places[·]?) z.toArray parts = some cs) : (Instr.build t parts.toArray).run P w = .ok (.agg cs) w := by
  rw [h, bdsem]
  have e : (fun (i : Nat) => places.toArray[i]?) = (fun (i : Nat) => places[i]?) := by funext i; simp
  rw [e, hf]
  rfl

instance : CBd Try.prog 7 [(0, 1), (1, 1), (2, 1), (3, 1)] [.int .i64 0, .int .i64 0, .bool false, .int .u8 0] := ⟨fun _ _ _ => bdrun (by kernel_rfl)⟩
instance : CBd Try.prog 8 [(0, 1), (1, 1), (2, 1), (3, 1)] [.int .i64 0, .int .i64 0, .bool false, .int .u8 0] := ⟨fun _ _ _ => bdrun (by kernel_rfl)⟩
instance : CBd Try.prog 13 [(0, 1), (1, 1)] [.string ⟨#[]⟩, .int .u64 0] := ⟨fun _ _ _ => bdrun (by kernel_rfl)⟩
instance : CBd Try.prog 14 [(0, 1), (1, 1)] [.string ⟨#[]⟩, .int .u64 0] := ⟨fun _ _ _ => bdrun (by kernel_rfl)⟩
instance : CBd Try.prog 18 [(0, 1)] [.pointer none] := ⟨fun _ _ _ => bdrun (by kernel_rfl)⟩
instance : CBd Try.prog 19 [(0, 1)] [.pointer none] := ⟨fun _ _ _ => bdrun (by kernel_rfl)⟩
instance : CBd Try.prog 23 [(0, 1), (1, 1)] [.int .i64 0, .int .i64 0] := ⟨fun _ _ _ => bdrun (by kernel_rfl)⟩
instance : CBd Try.prog 24 [(0, 1), (1, 1)] [.int .i64 0, .int .i64 0] := ⟨fun _ _ _ => bdrun (by kernel_rfl)⟩
instance : CBd Try.prog 29 [(0, 1), (1, 1), (2, 1), (3, 1), (4, 1)] [.int .i64 0, .int .i64 0, .int .i64 0, .int .i64 0, .slice none 0 0] := ⟨fun _ _ _ => bdrun (by kernel_rfl)⟩
instance : CBd Try.prog 30 [(0, 1), (1, 1), (2, 1), (3, 1), (4, 1)] [.int .i64 0, .int .i64 0, .int .i64 0, .int .i64 0, .slice none 0 0] := ⟨fun _ _ _ => bdrun (by kernel_rfl)⟩
instance : CBd Try.prog 51 [(0, 1), (1, 1), (2, 1), (3, 1)] [.slice none 0 0, .slice none 0 0, .slice none 0 0, .slice none 0 0] := ⟨fun _ _ _ => bdrun (by kernel_rfl)⟩
instance : CBd Try.prog 52 [(0, 1), (1, 1), (2, 1), (3, 1)] [.slice none 0 0, .slice none 0 0, .slice none 0 0, .slice none 0 0] := ⟨fun _ _ _ => bdrun (by kernel_rfl)⟩
instance : CBd Try.prog 70 [(0, 1), (1, 1)] [.int .i64 0, .int .i64 0] := ⟨fun _ _ _ => bdrun (by kernel_rfl)⟩
instance : CBd Try.prog 71 [(0, 1), (1, 1)] [.int .i64 0, .int .i64 0] := ⟨fun _ _ _ => bdrun (by kernel_rfl)⟩
instance : CBd Try.prog 74 [(0, 1), (1, 1), (2, 1)] [.int .i64 0, .int .i64 0, .string ⟨#[]⟩] := ⟨fun _ _ _ => bdrun (by kernel_rfl)⟩
instance : CBd Try.prog 75 [(0, 1), (1, 1), (2, 1)] [.int .i64 0, .int .i64 0, .string ⟨#[]⟩] := ⟨fun _ _ _ => bdrun (by kernel_rfl)⟩
instance : CBd Try.prog 82 [(0, 1), (1, 1), (2, 1), (3, 1), (4, 1)] [.int .i64 0, .int .i64 0, .int .i64 0, .int .i64 0, .int .i64 0] := ⟨fun _ _ _ => bdrun (by kernel_rfl)⟩
instance : CBd Try.prog 83 [(0, 1), (1, 1), (2, 1), (3, 1), (4, 1)] [.int .i64 0, .int .i64 0, .int .i64 0, .int .i64 0, .int .i64 0] := ⟨fun _ _ _ => bdrun (by kernel_rfl)⟩
instance : CBd Try.prog 88 [(0, 1), (1, 1), (2, 1)] [.int .i64 0, .int .i64 0, .int .i64 0] := ⟨fun _ _ _ => bdrun (by kernel_rfl)⟩
instance : CBd Try.prog 89 [(0, 1), (1, 1), (2, 1)] [.int .i64 0, .int .i64 0, .int .i64 0] := ⟨fun _ _ _ => bdrun (by kernel_rfl)⟩
instance : CBd Try.prog 107 [(0, 2), (2, 1)] [.int .i64 0, .int .i64 0, .int .i64 0] := ⟨fun _ _ _ => bdrun (by kernel_rfl)⟩
instance : CBd Try.prog 108 [(0, 2), (2, 1)] [.int .i64 0, .int .i64 0, .int .i64 0] := ⟨fun _ _ _ => bdrun (by kernel_rfl)⟩
instance : CBd Try.prog 122 [(0, 2), (2, 1)] [.int .i64 0, .int .i64 0, .bool false] := ⟨fun _ _ _ => bdrun (by kernel_rfl)⟩
instance : CBd Try.prog 123 [(0, 2), (2, 1)] [.int .i64 0, .int .i64 0, .bool false] := ⟨fun _ _ _ => bdrun (by kernel_rfl)⟩
instance : CBd Try.prog 144 [(0, 2), (2, 1)] [.int .i64 0, .int .i64 0, .bool false] := ⟨fun _ _ _ => bdrun (by kernel_rfl)⟩
instance : CBd Try.prog 145 [(0, 2), (2, 1)] [.int .i64 0, .int .i64 0, .bool false] := ⟨fun _ _ _ => bdrun (by kernel_rfl)⟩
instance : CBd Try.prog 173 [(0, 1), (1, 1), (2, 1), (3, 1)] [.pointer none, .pointer none, .pointer none, .string ⟨#[]⟩] := ⟨fun _ _ _ => bdrun (by kernel_rfl)⟩
instance : CBd Try.prog 174 [(0, 1), (1, 1), (2, 1), (3, 1)] [.pointer none, .pointer none, .pointer none, .string ⟨#[]⟩] := ⟨fun _ _ _ => bdrun (by kernel_rfl)⟩
instance : CBd Try.prog 185 [(0, 1), (1, 1), (2, 1), (3, 1), (4, 1), (5, 1), (6, 1), (7, 1), (8, 1), (9, 1), (10, 1)] [.int .u64 0, .int .u64 0, .int .u32 0, .int .u8 0, .int .u8 0, .int .u8 0, .int .u8 0, .nilFunc, .pointer none, .int .i32 0, .int .i32 0] := ⟨fun _ _ _ => bdrun (by kernel_rfl)⟩
instance : CBd Try.prog 186 [(0, 1), (1, 1), (2, 1), (3, 1), (4, 1), (5, 1), (6, 1), (7, 1), (8, 1), (9, 1), (10, 1)] [.int .u64 0, .int .u64 0, .int .u32 0, .int .u8 0, .int .u8 0, .int .u8 0, .int .u8 0, .nilFunc, .pointer none, .int .i32 0, .int .i32 0] := ⟨fun _ _ _ => bdrun (by kernel_rfl)⟩

end Go.Proofs.Ytbgolbkolcmldaa

/-
  Slices of the call's own, at the end of the list of known blocks: literals, one more element, all of another slice.
-/
namespace Go.Proofs.Ytbgolbkolcmldaa
open Go.RowKit

variable {P : Program} {r : Option Nat} {Q : Exit → Act → World → Prop} {nt : Nat} {D : List Deferred} {fr : Fr} {I : World → Prop}
variable {w0 : World} {X : List Nat} {L : HL} {ops : Array Oper} {rest : List Oper} {d : Nat}
variable {dd : Option Tmp} {ty t t' : TypeId} {pos : String} {af : Array Edge} {g : Option (Nat × Bool)} {x y c : Operand} {u : Value}

def takeF : Nat → HL → Option HL
  | 0, _ => some []
  | _ + 1, [] => none
  | n + 1, p :: r => match takeF n r with
    | some q => some (p :: q)
    | none => none
theorem takeF_eq : ∀ {n : Nat} {L F : HL}, takeF n L = some F → L = F ++ L.drop n
  | 0, L, F, h => by simp [takeF] at h; subst h; rfl
  | n + 1, [], F, h => by simp [takeF] at h
  | n + 1, p :: r, F, h => by
    simp only [takeF] at h
    cases hr : takeF n r with
    | none => rw [hr] at h; cases h
    | some q =>
      rw [hr] at h
      injection h with h
      rw [← h, List.cons_append, List.drop_succ_cons, ← takeF_eq hr]

/-- cells of values, one behind the other -/
def flatF : List Value → Option (List Value)
  | [] => some []
  | v :: r => match cellsO v with
    | none => none
    | some cs => match flatF r with
      | none => none
      | some q => forceL (cs ++ q)
theorem flatF_eq : ∀ {vs cs : List Value}, flatF vs = some cs → vs.flatMap (·.cells.toList) = cs
  | [], cs, h => by simp [flatF] at h; subst h; rfl
  | v :: r, cs, h => by
    simp only [flatF] at h
    cases hv : cellsO v with
    | none => rw [hv] at h; cases h
    | some c1 =>
      rw [hv] at h
      cases hr : flatF r with
      | none => rw [hr] at h; cases h
      | some q =>
        rw [hr] at h
        rw [forceL_eq h, List.flatMap_cons, cellsO_eq hv, flatF_eq hr]
def sizesOk (sz : Nat) : List Value → Bool
  | [] => true
  | v :: r => (match cellsO v with | some cs => Nat.beq cs.length sz | none => false) && sizesOk sz r
theorem sizesOk_eq {sz : Nat} : ∀ {vs : List Value}, sizesOk sz vs = true → ∀ v ∈ vs, v.cells.size = sz
  | [], _, v, h => by simp at h
  | u :: r, h, v, hv => by
    simp only [sizesOk, Bool.and_eq_true] at h
    rcases List.mem_cons.1 hv with rfl | hv
    · cases hc : cellsO v with
      | none => rw [hc] at h; cases h.1
      | some cs =>
        rw [hc] at h
        have := cellsO_eq hc
        simp only [Nat.beq_eq] at h
        rw [← h.1, ← this]; simp
    · exact sizesOk_eq h.2 v hv

theorem run_lit {e sz by_ n : Nat} {parts : List (Nat × Operand)} {vs cs : List Value} [hc : CSl P t e sz by_] (hn : vs.length = n) (hi : parts.map (·.1) = List.range' 0 n) (hz : sizesOk sz vs = true) (hf : flatF vs = some cs) (hsz : Nat.blt 0 sz = true) (h24 : Nat.ble (n * sz) 16777216 = true) (w : World) :
    (Instr.buildSlice t n ((parts.map (·.1)).zip vs).toArray).run P w = .ok (.slice (some ⟨w.heap.size, 0, none⟩) n n) (w.alloc (.cells cs.toArray e)) := by
  subst hn
  rw [hi, run_bs hsz vs (sizesOk_eq hz) h24 w, flatF_eq hf]
theorem s_lit {n : Nat} {parts : Array (Nat × Operand)} (h : TL P r ops Q nt D (⟨some d, .buildSlice t n parts, ty, pos, af, none⟩ :: rest) fr I) : TL P r ops Q nt D (⟨some d, .buildSlice t n parts, ty, pos, af, none⟩ :: rest) fr I := h
/-- a literal of a slice -/
theorem g_lit {e sz by_ n : Nat} {parts : Array (Nat × Operand)} {vs cs : List Value} [hc : CSl P t e sz by_] (h : ∀ b, TL P r ops Q nt D rest ((d, .slice (some ⟨b, 0, none⟩) n n) :: fr) (St w0 X ((b, bx cs e) :: L))) (hv : fevs fr (parts.toList.map (·.2)) = some vs := by rfl) (hn : vs.length = n := by rfl) (hi : parts.toList.map (·.1) = List.range' 0 n := by rfl) (hz : sizesOk sz vs = true := by rfl) (hf : flatF vs = some cs := by rfl) (hsz : Nat.blt 0 sz = true := by rfl) (h24 : Nat.ble (n * sz) 16777216 = true := by rfl) (hd : Nat.ble nt d = false := by rfl) :
    TL P r ops Q nt D (⟨some d, .buildSlice t n parts, ty, pos, af, none⟩ :: rest) fr (St w0 X L) :=
  tl_buildSlice vs cs hv (run_lit hn hi hz hf hsz h24) hd h
section
variable {l : List Oper} {fin : Fr → HL → Prop} {k j : Nat} {s : Sk} {sk : SkL} {acc : Fr} {Hn : HL}
theorem sw_lit {n : Nat} {parts : Array (Nat × Operand)} (h : DW1 P l fr w0 X fin k s ⟨dd, .buildSlice t n parts, ty, pos, af, g⟩ sk acc L Hn) : DW1 P l fr w0 X fin k s ⟨dd, .buildSlice t n parts, ty, pos, af, g⟩ sk acc L Hn := h
theorem o_lit {e sz by_ n : Nat} {parts : Array (Nat × Operand)} {vs cs : List Value} [hc : CSl P t e sz by_] (hv : fevs fr (parts.toList.map (·.2)) = some vs) (hn : vs.length = n) (hi : parts.toList.map (·.1) = List.range' 0 n) (hz : sizesOk sz vs = true) (hf : flatF vs = some cs) (hsz : Nat.blt 0 sz = true) (h24 : Nat.ble (n * sz) 16777216 = true) :
    O P ⟨dd, .buildSlice t n parts, ty, pos, af, g⟩ fr (St w0 X L) (fun v w => ∃ b, v = .slice (some ⟨b, 0, none⟩) n n ∧ St w0 X ((b, bx cs e) :: L) w) :=
  o_of fun ρ w hρ hw => by
    have key : ∀ (l : List (Nat × Operand)) (vs : List Value), fevs fr (l.map (·.2)) = some vs → l.map (fun p => (p.1, ρ p.2)) = (l.map (·.1)).zip vs := by
      intro l
      induction l with
      | nil => intro vs h; simp
      | cons p l ih =>
        intro vs h
        simp only [List.map_cons, fevs] at h
        split at h
        · cases h
        · rename_i v hv
          split at h
          · cases h
          · rename_i vs' hvs
            cases h
            simp [ih _ hvs, hρ _ _ hv]
    have e1 : parts.map (fun p => (p.1, ρ p.2)) = ((parts.toList.map (·.1)).zip vs).toArray := by
      apply Array.toList_inj.1
      simp [key parts.toList vs hv]
    refine ⟨_, _, ?_, w.heap.size, rfl, hw.alloc _ rfl⟩
    simp only [execOp]
    rw [e1]
    have := run_lit (P := P) (t := t) hn hi hz hf hsz h24 w
    simp [this]
/-- a literal within a region that draws its order; it may be turned next -/
theorem w_lit {e sz by_ n : Nat} {parts : Array (Nat × Operand)} {vs cs : List Value} [hc : CSl P t e sz by_] (h : ∀ b, DW P l fr w0 X fin sk ((k, .slice (some ⟨b, 0, none⟩) n n) :: acc) ((b, bx cs e) :: L) Hn) (hv : fevs (frkN l.toArray acc fr af.toList) (parts.toList.map (·.2)) = some vs := by rfl) (hn : vs.length = n := by rfl) (hi : parts.toList.map (·.1) = List.range' 0 n := by rfl) (hz : sizesOk sz vs = true := by rfl) (hf : flatF vs = some cs := by rfl) (hsz : Nat.blt 0 sz = true := by rfl) (h24 : Nat.ble (n * sz) 16777216 = true := by rfl) (hg : GOk ⟨dd, .buildSlice t n parts, ty, pos, af, g⟩ acc := by first | trivial | rfl) :
    DW1 P l fr w0 X fin k .e ⟨dd, .buildSlice t n parts, ty, pos, af, g⟩ sk acc L Hn := by
  rw [frkN_eq] at hv
  exact dw_effN (α := Nat) (fun _ => True) (fun b => .slice (some ⟨b, 0, none⟩) n n) (fun b => [(b, bx cs e)]) (by simp) hg (fun L' => (o_lit hv hn hi hz hf hsz h24).mono fun v w ⟨b, h1, h2⟩ => ⟨b, trivial, h1, h2⟩) fun b _ => h b
end

/-- one more, out of a literal: the slice's own blocks are the last ones known -/
theorem tl_app1 (nf : Nat) {e e1 sz by_ b1 n m c1 : Nat} {v : Value} {xs news : List Value} {Lv F : HL} [hc : CSl P t e sz by_] (hx : fev fr x = some v) (hy : fev fr y = some (.slice (some ⟨b1, 0, none⟩) m c1)) (ho : OwnsV v e sz n xs Lv) (h0 : L[0]? = some (b1, bx news e1)) (hF : takeF nf L.tail = some F) (hLv : L.tail.drop nf = Lv) (hsz : Nat.blt 0 sz = true) (hl : news.length = m * sz) (h1 : news.all (·.oneCell') = true) (hm : Nat.blt 0 m = true) (hd : Nat.ble nt d = false) (h63 : n + m ≤ 9223372036854775807) (hby : (n + m) * by_ ≤ 140737488355328)
    (h : ∀ b cap, TL P r ops Q nt D rest ((d, .slice (some ⟨b, 0, none⟩) (n + m) cap) :: fr) (St w0 X (F ++ [(b, row e sz (n + m) cap (xs ++ news))]))) : TL P r ops Q nt D (⟨some d, .call ⟨.builtin .append, #[x, y], #[t, t]⟩, ty, pos, af, none⟩ :: rest) fr (St w0 X L) := by
  have hL : L = (b1, bx news e1) :: (F ++ Lv) := by
    cases L with
    | nil => simp at h0
    | cons p tl =>
      simp only [List.getElem?_cons_zero, Option.some.injEq] at h0
      simp only [List.tail_cons] at hF hLv
      rw [h0, takeF_eq hF, hLv]
  subst hL
  refine tl_append (L := F) hx hy ho hsz (fun w hw => (hw.sublist (.cons _ (List.Sublist.refl _))).perm List.perm_append_comm) (fun w hw j v hj => by rw [add_mk, hw.cell (List.mem_cons_self ..), Nat.zero_add, hj]) hl (fun u hu => List.all_eq_true.1 h1 u hu) (by simpa [Nat.blt_eq] using hm) (by unfold maxLen; omega) hby hd fun b cap => ?_
  exact tl_imp (fun w hw => hw.perm (List.perm_append_comm (l₁ := [_]))) (h b cap)

theorem tl_app (F : HL) {e e1 sz by_ b1 n m c1 : Nat} {v : Value} {xs news : List Value} {Lv : HL} [hc : CSl P t e sz by_] (hx : fev fr x = some v) (hy : fev fr y = some (.slice (some ⟨b1, 0, none⟩) m c1)) (ho : OwnsV v e sz n xs Lv) (hL : L = (b1, bx news e1) :: (F ++ Lv)) (hsz : Nat.blt 0 sz = true) (hl : news.length = m * sz) (h1 : news.all (·.oneCell') = true) (hm : Nat.blt 0 m = true) (hd : Nat.ble nt d = false) (h63 : n + m ≤ 9223372036854775807) (hby : (n + m) * by_ ≤ 140737488355328)
    (h : ∀ b cap, TL P r ops Q nt D rest ((d, .slice (some ⟨b, 0, none⟩) (n + m) cap) :: fr) (St w0 X (F ++ [(b, row e sz (n + m) cap (xs ++ news))]))) : TL P r ops Q nt D (⟨some d, .call ⟨.builtin .append, #[x, y], #[t, t]⟩, ty, pos, af, none⟩ :: rest) fr (St w0 X L) := by
  subst hL
  refine tl_append (L := F) hx hy ho hsz (fun w hw => (hw.sublist (.cons _ (List.Sublist.refl _))).perm List.perm_append_comm) (fun w hw j v hj => by rw [add_mk, hw.cell (List.mem_cons_self ..), Nat.zero_add, hj]) hl (fun u hu => List.all_eq_true.1 h1 u hu) (by simpa [Nat.blt_eq] using hm) (by unfold maxLen; omega) hby hd fun b cap => ?_
  exact tl_imp (fun w hw => hw.perm (List.perm_append_comm (l₁ := [_]))) (h b cap)
/-- a slice that a callee has made, with its spare room -/
def Own (w w' : World) (v : Value) (e sz n : Nat) (xs : List Value) : Prop := (v = .slice none 0 0 ∧ n = 0 ∧ xs = []) ∨ ∃ b cap o, v = .slice (some ⟨b, 0, none⟩) n cap ∧ w.heap.size ≤ b ∧ w'.heap[b]? = some o ∧ row e sz n cap xs o
theorem OwnsV.own {v : Value} {e sz n : Nat} {xs : List Value} {Lv L' : HL} {w w' : World} (h : OwnsV v e sz n xs Lv) (hs : St w [] L' w') (hm : ∀ p ∈ Lv, p ∈ L') : Own w w' v e sz n xs := by
  rcases h with ⟨rfl, rfl, rfl, rfl⟩ | ⟨b, cap, rfl, rfl⟩
  · exact .inl ⟨rfl, rfl, rfl⟩
  · have hb := hm (b, row e sz n cap xs) (by simp)
    obtain ⟨o, ho, hq⟩ := hs.here _ hb
    have hmine := hs.mine _ hb
    simp at hmine
    exact .inr ⟨b, cap, o, rfl, hmine, ho, hq⟩
theorem Own.owns {w w' : World} {v : Value} {e sz n : Nat} {xs : List Value} (h : Own w w' v e sz n xs) (hs : St w0 X L w) (he : Ext w w') : ∃ Lv, OwnsV v e sz n xs Lv ∧ St w0 X (L ++ Lv) w' := by
  rcases h with ⟨rfl, rfl, rfl⟩ | ⟨b, cap, o, rfl, hb, ho, hq⟩
  · exact ⟨[], OwnsV.nil, by rw [List.append_nil]; exact hs.ext he⟩
  · exact ⟨[(b, row e sz n cap xs)], OwnsV.at_, (hs.addNew he hb ho hq).perm (List.perm_append_comm (l₁ := [_]))⟩
theorem Own.rdI {w w' : World} {v : Value} {e sz n : Nat} {xs : List Value} (h : Own w w' v e sz n xs) : RdI w.heap.size w'.heap.size w' sz v xs := by
  rcases h with ⟨rfl, rfl, rfl⟩ | ⟨b, cap, o, rfl, hb, ho, cur, rfl, h1, h2, h3, h4, h5⟩
  · exact nil_rdI _ _ _ _
  · have hlt := (Array.getElem?_eq_some_iff.1 ho).1
    refine ⟨_, n, cap, rfl, h3, h4, h5, fun _ => ⟨b, 0, rfl, hb, hlt, hlt, fun j u hj => ?_⟩⟩
    rw [Nat.zero_add, cell_of ho]
    rw [← h2, List.getElem?_take] at hj
    split at hj
    · simpa using hj
    · cases hj
/-- a call whose result is a slice of its own -/
theorem tl_callO {f : FuncId} {args : Array Operand} {ts : Array TypeId} {vs : List Value} {e sz n : Nat} {xs : List Value} [CFn P f] (hc : ∀ w, St w0 X L w → Calls P f vs.toArray w (Ret w fun v w' => Own w w' v e sz n xs)) (hv : fevs fr args.toList = some vs) (hd : Nat.ble nt d = false)
    (h : ∀ v Lv, OwnsV v e sz n xs Lv → TL P r ops Q nt D rest ((d, v) :: fr) (St w0 X (L ++ Lv))) : TL P r ops Q nt D (⟨some d, .call ⟨.value (.func f), args, ts⟩, ty, pos, af, none⟩ :: rest) fr (St w0 X L) :=
  tl_op hd rfl (o_ret (Post := fun w v w' => Own w w' v e sz n xs) hv hc) fun v a w' ha hw => by
    obtain ⟨w, hw, he, hpost⟩ := hw
    obtain ⟨Lv, h1, h2⟩ := hpost.owns hw he
    exact h v Lv h1 a w' ha h2
section
variable {l : List Oper} {fin : Fr → HL → Prop} {k j : Nat} {s : Sk} {sk : SkL} {acc : Fr} {Hn : HL}
theorem dw_callO {f : FuncId} {args : Array Operand} {ts : Array TypeId} {vs : List Value} {e sz n : Nat} {xs : List Value} [CFn P f] (hc : ∀ L' w, St w0 X (L ++ L') w → Calls P f vs.toArray w (Ret w fun v w' => Own w w' v e sz n xs)) (hv : fevs (frkN l.toArray acc fr af.toList) args.toList = some vs) (hg : GOk ⟨dd, .call ⟨.value (.func f), args, ts⟩, ty, pos, af, g⟩ acc) (hh : hdF sk = true)
    (h : ∀ v Lv, OwnsV v e sz n xs Lv → DW P l fr w0 X fin sk ((k, v) :: acc) (L ++ Lv) Hn) : DW1 P l fr w0 X fin k .e ⟨dd, .call ⟨.value (.func f), args, ts⟩, ty, pos, af, g⟩ sk acc L Hn := by
  rw [frkN_eq] at hv
  refine dw_eff (α := Value × HL) (fun x => OwnsV x.1 e sz n xs x.2) (fun x => x.1) (fun x => x.2) (fun x => L ++ x.2) hh hg (fun L' => (o_ret (Post := fun w v w' => Own w w' v e sz n xs) hv (hc L')).mono ?_) (fun x _ => List.perm_append_comm) fun x hx => h x.1 x.2 hx
  rintro v w' ⟨w, hw, he, hpost⟩
  obtain ⟨Lv, h1, h2⟩ := hpost.owns hw he
  exact ⟨(v, Lv), h1, rfl, h2.perm (by rw [List.append_assoc, List.append_assoc]; exact List.perm_append_comm.append_left L)⟩
end

theorem o_min3 {k : IntKind} {a b e : Int} {x1 x2 x3 : Operand} {ts : Array TypeId} (h1 : fev fr x1 = some (.int k a)) (h2 : fev fr x2 = some (.int k b)) (h3 : fev fr x3 = some (.int k e)) : Pv P ⟨dd, .call ⟨.builtin .min, #[x1, x2, x3], ts⟩, ty, pos, af, g⟩ fr I (.int k (min (min a b) e)) :=
  o_builtin [.int k a, .int k b, .int k e] (by simp [fevs, h1, h2, h3]) fun w c _ => by
    simp [builtin, Builtin.min_, Builtin.min2]; omega
theorem o_max3 {k : IntKind} {a b e : Int} {x1 x2 x3 : Operand} {ts : Array TypeId} (h1 : fev fr x1 = some (.int k a)) (h2 : fev fr x2 = some (.int k b)) (h3 : fev fr x3 = some (.int k e)) : Pv P ⟨dd, .call ⟨.builtin .max, #[x1, x2, x3], ts⟩, ty, pos, af, g⟩ fr I (.int k (max (max a b) e)) :=
  o_builtin [.int k a, .int k b, .int k e] (by simp [fevs, h1, h2, h3]) fun w c _ => by
    simp [builtin, Builtin.max_, Builtin.max2]; omega
theorem o_min4 {k : IntKind} {a b e f : Int} {x1 x2 x3 x4 : Operand} {ts : Array TypeId} (h1 : fev fr x1 = some (.int k a)) (h2 : fev fr x2 = some (.int k b)) (h3 : fev fr x3 = some (.int k e)) (h4 : fev fr x4 = some (.int k f)) : Pv P ⟨dd, .call ⟨.builtin .min, #[x1, x2, x3, x4], ts⟩, ty, pos, af, g⟩ fr I (.int k (min (min (min a b) e) f)) :=
  o_builtin [.int k a, .int k b, .int k e, .int k f] (by simp [fevs, h1, h2, h3, h4]) fun w c _ => by
    simp [builtin, Builtin.min_, Builtin.min2]; omega

/-- append of nothing -/
theorem run_append_none {e sz by_ : Nat} [hc : CSl P t e sz by_] {A : Option Addr} {n c : Nat} (hn : n ≤ c) {A' : Option Addr} {c' : Nat} (w : World) : (Builtin.append_ #[t, t] ty #[.slice A n c, .slice A' 0 c']).run P w = .ok (.slice A n c) w := by
  have e1 : (Builtin.lenOf (.slice A' 0 c')).run P w = .ok 0 w := by simp [Builtin.lenOf]
  have e2 : (Builtin.firstCells sz 0 (.slice A' 0 c')).run P w = .ok #[] w := by
    cases A' <;> simp [Builtin.firstCells, loadCells, loadCellsFrom]
  simp [Builtin.append_, run_underlying hc.under, run_sizeOf (t := t), e1, e2, hn]
  cases A <;> simp [storeCells]
theorem OwnsV.cap {v : Value} {e sz n : Nat} {xs : List Value} {Lv : HL} {w : World} (h : OwnsV v e sz n xs Lv) (hs : St w0 X (Lv ++ L) w) : ∃ A c, v = .slice A n c ∧ n ≤ c := by
  rcases h with ⟨rfl, rfl, rfl, rfl⟩ | ⟨b, cap, rfl, rfl⟩
  · exact ⟨none, 0, rfl, Nat.le_refl _⟩
  · obtain ⟨o, ho, cur, rfl, h1, h2, h3, h4, h5⟩ := hs.here (b, row e sz n cap xs) (by simp)
    exact ⟨_, _, rfl, h4⟩
/-- append of all of another slice -/
theorem o_appA (L0 : HL) {e sz by_ n m c1 : Nat} {v : Value} {A : Option Addr} {xs news : List Value} {Lv : HL} [hc : CSl P t e sz by_] (hx : fev fr x = some v) (hy : fev fr y = some (.slice A m c1)) (ho : OwnsV v e sz n xs Lv) (hL : ∀ w, I w → St w0 X (Lv ++ L0) w) (hn : 0 < m → ∃ a, A = some a ∧ ∀ w, I w → ∀ j u, news[j]? = some u → w.cell? (a.add j) = some u) (hsz : Nat.blt 0 sz = true) (hl : news.length = m * sz) (h1 : ∀ u ∈ news, u.oneCell' = true) (h63 : n + m ≤ 9223372036854775807) (hby : (n + m) * by_ ≤ 140737488355328) :
    O P ⟨dd, .call ⟨.builtin .append, #[x, y], #[t, t]⟩, ty, pos, af, g⟩ fr I (fun v' w => ∃ Lv', OwnsV v' e sz (n + m) (xs ++ news) Lv' ∧ St w0 X (L0 ++ Lv') w) := by
  have hsz' : 0 < sz := by simpa [Nat.blt_eq] using hsz
  refine o_of fun ρ w hρ hw => ?_
  by_cases hm : m = 0
  · subst hm
    have hnil : news = [] := List.length_eq_zero_iff.1 (by omega)
    subst hnil
    obtain ⟨A1, c, rfl, hle⟩ := ho.cap (hL w hw)
    refine ⟨_, w, ?_, Lv, by simpa using ho, (hL w hw).perm List.perm_append_comm⟩
    simp [execOp, resolve, hρ _ _ hx, hρ _ _ hy, invoke, builtin, run_append_none (P := P) (t := t) (ty := ty) hle]
  · obtain ⟨a, rfl, hcell⟩ := hn (by omega)
    obtain ⟨b, cap, w', hr, hs⟩ := run_append_st (P := P) (t := t) (ty := ty) (c := c1) hsz' ho hl h1 (by omega) (by unfold maxLen; omega) hby (hL w hw) (hcell w hw)
    refine ⟨_, w', ?_, _, OwnsV.at_, hs.perm (List.perm_append_comm (l₁ := [_]))⟩
    simp [execOp, resolve, hρ _ _ hx, hρ _ _ hy, invoke, builtin, hr]
theorem tl_appA (L0 : HL) {e sz by_ n m c1 : Nat} {v : Value} {A : Option Addr} {xs news : List Value} {Lv : HL} [hc : CSl P t e sz by_] (hx : fev fr x = some v) (hy : fev fr y = some (.slice A m c1)) (ho : OwnsV v e sz n xs Lv) (hL : ∀ w, I w → St w0 X (Lv ++ L0) w) (hn : 0 < m → ∃ a, A = some a ∧ ∀ w, I w → ∀ j u, news[j]? = some u → w.cell? (a.add j) = some u) (hsz : Nat.blt 0 sz = true) (hl : news.length = m * sz) (h1 : ∀ u ∈ news, u.oneCell' = true) (h63 : n + m ≤ 9223372036854775807) (hby : (n + m) * by_ ≤ 140737488355328) (hd : Nat.ble nt d = false)
    (h : ∀ v' Lv', OwnsV v' e sz (n + m) (xs ++ news) Lv' → TL P r ops Q nt D rest ((d, v') :: fr) (St w0 X (L0 ++ Lv'))) : TL P r ops Q nt D (⟨some d, .call ⟨.builtin .append, #[x, y], #[t, t]⟩, ty, pos, af, none⟩ :: rest) fr I :=
  tl_op hd rfl (o_appA L0 hx hy ho hL hn hsz hl h1 h63 hby) fun v' a w' ha hw => by
    obtain ⟨Lv', h1, h2⟩ := hw
    exact h v' Lv' h1 a w' ha h2
theorem fle_nil (fr : Fr) : fle [] fr := trivial

end Go.Proofs.Ytbgolbkolcmldaa

/-
  A range over a function whose rounds, and whose function, both make memory.
-/
namespace Go.Proofs.Ytbgolbkolcmldaa
open Go.RowKit

/-- the same below B, and at some blocks -/
structure Agr (B : Nat) (ids : List Nat) (w w' : World) : Prop where
  os : w'.os = w.os
  tape : w'.tape = w.tape
  output : w'.output = w.output
  size : w.heap.size ≤ w'.heap.size
  low : ∀ k, k < B → w'.heap[k]? = w.heap[k]?
  ids : ∀ k ∈ ids, w'.heap[k]? = w.heap[k]?
/-- what a round leaves alone: what lies at B or above and is not its own -/
structure Back (B : Nat) (ids ids' : List Nat) (w w' : World) : Prop where
  os : w'.os = w.os
  tape : w'.tape = w.tape
  output : w'.output = w.output
  size : w.heap.size ≤ w'.heap.size
  own : ∀ k, B ≤ k → k < w.heap.size → k ∉ ids → w'.heap[k]? = w.heap[k]?
  new : ∀ k ∈ ids', k ∈ ids ∨ w.heap.size ≤ k

def Iter2 {α : Type} (P : Program) (gf : FuncId) (cap : List Value) (Enc : Nat → List Nat → World → α → List Value → Prop) (xs : List α) (Data : World → Prop) : Prop :=
  ∀ (l B : Nat) (J : List α → List Nat → World → Prop) (W : World), W.heap.size = B → (∀ pre ids w w', J pre ids w → Agr B ids w w' → J pre ids w') → (∀ pre ids w, J pre ids w → (∀ k ∈ ids, B ≤ k ∧ k < w.heap.size) ∧ B ≤ w.heap.size ∧ Data w) →
    (∀ pre ids x W1 vs, (pre ++ [x]) <+: xs → J pre ids W1 → Enc B ids W1 x vs → Yields P l vs W1 fun W' => ∃ ids', J (pre ++ [x]) ids' W' ∧ Back B ids ids' W1 W') → J [] [] W →
    Calls P gf (.func (.yield l) #[] #[] :: cap).toArray W fun e W' => (∃ v, e = .returned v) ∧ ∃ ids, J xs ids W'

variable {P : Program} {r : Option Nat} {Q : Exit → Act → World → Prop} {nt : Nat} {D : List Deferred} {fr : Fr} {I : World → Prop}
variable {w0 : World} {X : List Nat} {L : HL}

/-- at the body's end -/
def Qround2 (W : World) (X : List Nat) (l : Nat) (rec : Loop) (LL : HL → Prop) : Exit → Act → World → Prop
  | .normal, _, w => ∃ L', LL L' ∧ St W X (L' ++ [(l, recO rec .busy)]) w
  | _, _, _ => False
theorem xt_roundEnd2 {W : World} {l : Nat} {rec : Loop} {LL : HL → Prop} (L' : HL) (hL : LL L') (h : ∀ w, St W X L w → St W X (L' ++ [(l, recO rec .busy)]) w) : Xt P .normal (Qround2 W X l rec LL) nt D fr (St W X L) := fun _ w _ hw => ⟨L', hL, h w hw⟩

theorem range_core2 {α : Type} {gf : FuncId} {cap : List Value} {Enc : Nat → List Nat → World → α → List Value → Prop} {xs : List α} {Data : World → Prop} (hit : Iter2 P gf cap Enc xs Data) (LL : List α → HL → Prop)
    (hdata : ∀ pre L w, LL pre L → St w0 X L w → Data w) {rec : Loop} {ps : List Nat} {assign body : Code} (hrp : rec.params = ps.toArray) (hra : rec.assign = assign) (hrb : rec.body = body) (hps : ∀ B ids w x vs, Enc B ids w x vs → vs.length = ps.length) (hpn : ∀ p ∈ ps, p < nt) (ha : Ag nt [] fr ⟨rec.tmps, []⟩) {l : Nat} {W1 : World} {L0 : HL}
    (hL0 : LL [] L0) (hW : St w0 X (L0 ++ [(l, recO rec .ready)]) W1)
    (hround : ∀ pre x L W vs B ids, (pre ++ [x]) <+: xs → LL pre L → St w0 X L W → Enc B ids W x vs → (∀ k ∈ l :: L.map (·.1), k < B ∨ k ∈ ids) → T P (some l) assign (Qbegin P l body (Qround2 W (l :: L.map (·.1)) l rec (LL (pre ++ [x])))) nt [] (fset ps vs fr) (St W (l :: L.map (·.1)) (L ++ [(l, recO rec .ready)]))) :
    Calls P gf (.func (.yield l) #[] #[] :: cap).toArray W1 fun e W' => (∃ v, e = .returned v) ∧ ∃ L, LL xs L ∧ St w0 X (L ++ [(l, recO rec .ready)]) W' := by
  have hlB : l < W1.heap.size := hW.lt (p := (l, recO rec .ready)) (by simp)
  have hfil : L0.map (·.1) = L0.map (·.1) := rfl
  have h0 : (L0.map (·.1)).filter (fun k => decide (W1.heap.size ≤ k)) = [] := by
    rw [List.filter_eq_nil_iff]
    intro k hk
    obtain ⟨p, hp, rfl⟩ := List.mem_map.1 hk
    have := hW.lt (p := p) (by simp [hp])
    simp; omega
  have main := hit l W1.heap.size (fun pre ids w => ∃ L, LL pre L ∧ St w0 X (L ++ [(l, recO rec .ready)]) w ∧ ids = (L.map (·.1)).filter (fun k => decide (W1.heap.size ≤ k)) ∧ W1.heap.size ≤ w.heap.size) W1 rfl ?_ ?_ ?_ ⟨L0, hL0, hW, h0.symm, Nat.le_refl _⟩
  · refine main.mono ?_
    rintro e W' ⟨he, ids, L, h1, h2, _⟩
    exact ⟨he, L, h1, h2⟩
  · rintro pre ids w w' ⟨L, h1, h, hids, hsz⟩ hs
    refine ⟨L, h1, ?_, hids, Nat.le_trans hsz hs.size⟩
    refine ⟨hs.os.trans h.os, hs.tape.trans h.tape, hs.output.trans h.output, Nat.le_trans h.size hs.size, fun k hk hx => (hs.low k (Nat.lt_of_lt_of_le hk hW.size)).trans (h.old k hk hx), ?_, h.mine, h.apart⟩
    intro p hp
    obtain ⟨o, ho, hq⟩ := h.here p hp
    refine ⟨o, ?_, hq⟩
    by_cases hlt : p.1 < W1.heap.size
    · exact (hs.low p.1 hlt).trans ho
    · refine (hs.ids p.1 ?_).trans ho
      rw [hids, List.mem_filter]
      rcases List.mem_append.1 hp with hp | hp
      · exact ⟨List.mem_map.2 ⟨p, hp, rfl⟩, by simp; omega⟩
      · simp at hp
        subst hp
        exact absurd hlB hlt
  · rintro pre ids w ⟨L, h1, h, hids, hsz⟩
    refine ⟨fun k hk => ?_, hsz, hdata pre L w h1 (h.sublist (List.sublist_append_left ..))⟩
    rw [hids, List.mem_filter] at hk
    obtain ⟨p, hp, rfl⟩ := List.mem_map.1 hk.1
    exact ⟨by simpa using hk.2, h.lt (p := p) (by simp [hp])⟩
  · rintro pre ids x Wy vs hpre ⟨L, hLL, hJ, hids, hsz⟩ hE
    obtain ⟨o, ho, hro⟩ := hJ.here (l, recO rec .ready) (by simp)
    rw [hro] at ho
    have hvs := hps _ _ _ _ _ hE
    have hy := run_yield (P := P) (args := vs.toArray) ho (by simp [hrp, hvs])
    refine ⟨_, _, _, _, hy, ?_⟩
    simp only [hra, hrb]
    refine roundIn_of_wpIn (F := Fence.wide) trivial ?_
    have hag : Ag nt [] (fset ps vs fr) ⟨(ps.zip vs).foldl (fun t q => t.setIfInBounds q.1 q.2) rec.tmps, []⟩ := Ag.fset ps vs fr rec.tmps hvs.symm hpn ha
    have htm : (rec.params.zip vs.toArray).foldl (fun tmps (q : Nat × Value) => tmps.setIfInBounds q.1 q.2) rec.tmps = (ps.zip vs).foldl (fun t q => t.setIfInBounds q.1 q.2) rec.tmps := by
      rw [hrp]
      simp
    have hst : St Wy (l :: L.map (·.1)) (L ++ [(l, recO rec .ready)]) Wy := ⟨rfl, rfl, rfl, Nat.le_refl _, fun _ _ _ => rfl, hJ.here, fun p hp => .inr (by
      rcases List.mem_append.1 hp with hp | hp
      · exact List.mem_cons_of_mem _ (List.mem_map.2 ⟨p, hp, rfl⟩)
      · simp at hp; subst hp; simp), hJ.apart⟩
    have hkB : ∀ k ∈ l :: L.map (·.1), k < W1.heap.size ∨ k ∈ ids := fun k hk => by
      by_cases hlt : k < W1.heap.size
      · exact .inl hlt
      · right
        rw [hids, List.mem_filter]
        rcases List.mem_cons.1 hk with rfl | hk
        · exact absurd hlB hlt
        · exact ⟨hk, by simp; omega⟩
    have hwp := hround pre x L Wy vs _ _ hpre hLL (hJ.sublist (List.sublist_append_left ..)) hE hkB _ Wy hag hst
    have := wpIn_mono (Q' := Exit.then (fun a₁ w₁ => ∃ w₂, (Instr.beginRound l).run P w₁ = .ok () w₂ ∧ body.wpIn (Fence.wide.inRound l) 0 P (roundPost P l fun e w' => e = .returned (.bool true) ∧ ∃ ids', (∃ L', LL (pre ++ [x]) L' ∧ St w0 X (L' ++ [(l, recO rec .ready)]) w' ∧ ids' = (L'.map (·.1)).filter (fun k => decide (W1.heap.size ≤ k)) ∧ W1.heap.size ≤ w'.heap.size) ∧ Back W1.heap.size ids ids' Wy w') a₁ w₂) (fun _ _ _ => False)) hwp ?_
    · rw [← htm] at this
      exact this
    · intro e a2 w2 hq
      cases e with
      | normal =>
        obtain ⟨w3, hb, hbody⟩ := hq
        refine ⟨w3, hb, wpIn_mono hbody ?_⟩
        intro e a4 w4 h4
        cases e with
        | normal =>
          obtain ⟨L', hL', h4⟩ : ∃ L', LL (pre ++ [x]) L' ∧ St Wy (l :: L.map (·.1)) (L' ++ [(l, recO rec .busy)]) w4 := h4
          obtain ⟨o4, ho4, hr4⟩ := h4.here (l, recO rec .busy) (by simp)
          rw [hr4] at ho4
          have h5 := h4.turn (o := .loop { rec with state := .ready, pending := none }) (q' := recO rec .ready) rfl
          have hmine : ∀ i ∈ l :: L.map (·.1), w0.heap.size ≤ i ∨ i ∈ X := fun i hi => by
            rcases List.mem_cons.1 hi with rfl | hi
            · exact hJ.mine (i, recO rec .ready) (by simp)
            · obtain ⟨p, hp, rfl⟩ := List.mem_map.1 hi
              exact hJ.mine p (by simp [hp])
          refine ⟨_, _, run_endRound none ho4, rfl, _, ⟨L', hL', ?_, rfl, Nat.le_trans hsz h5.size⟩, ?_⟩
          · refine ⟨h5.os.trans hJ.os, h5.tape.trans hJ.tape, h5.output.trans hJ.output, Nat.le_trans hJ.size h5.size, ?_, h5.here, ?_, h5.apart⟩
            · intro k hk hx
              refine (h5.old k (Nat.lt_of_lt_of_le hk hJ.size) ?_).trans (hJ.old k hk hx)
              intro hm
              rcases hmine k hm with h | h
              · omega
              · exact hx h
            · intro p hp
              rcases h5.mine p hp with h | h
              · exact .inl (Nat.le_trans hJ.size h)
              · exact hmine p.1 h
          · refine ⟨h5.os, h5.tape, h5.output, h5.size, fun k hB hlt hni => h5.old k hlt ?_, fun k hk => ?_⟩
            · intro hm
              rcases hkB k hm with h | h
              · omega
              · exact hni h
            · rw [List.mem_filter] at hk
              obtain ⟨p, hp, rfl⟩ := List.mem_map.1 hk.1
              have hge : W1.heap.size ≤ p.1 := by simpa using hk.2
              rcases h5.mine p (by simp [hp]) with h | h
              · exact .inr h
              · rcases hkB p.1 h with h | h
                · omega
                · exact .inl h
        | _ => exact h4.elim
      | _ => exact hq.elim

/-- the statement, outside every round -/
theorem t_range2 {α : Type} {gf : FuncId} {cap : List Value} {Enc : Nat → List Nat → World → α → List Value → Prop} {xs : List α} {Data : World → Prop} (hit : Iter2 P gf cap Enc xs Data) [hf : CFn P gf] {g : Operand} {ps : List Nat} {assign body : Code} (hg : fev fr g = some (.func (.func gf) #[] cap.toArray))
    (LL : List α → HL → Prop) {L0 : HL} (hL0 : LL [] L0) (hL : ∀ w, St w0 X L w → St w0 X L0 w) (hdata : ∀ pre L w, LL pre L → St w0 X L w → Data w) (hps : ∀ B ids w x vs, Enc B ids w x vs → vs.length = ps.length) (hpn : ps.all (fun p => Nat.blt p nt) = true)
    (hround : ∀ l db rec pre x L W vs B ids, (pre ++ [x]) <+: xs → LL pre L → St w0 X (L ++ [(db, defO)]) W → Enc B ids W x vs → (∀ k ∈ l :: (L ++ [(db, defO)]).map (·.1), k < B ∨ k ∈ ids) → T P (some l) assign (Qbegin P l body (Qround2 W (l :: (L ++ [(db, defO)]).map (·.1)) l rec (fun L' => ∃ L1, L' = L1 ++ [(db, defO)] ∧ LL (pre ++ [x]) L1))) nt [] (fset ps vs fr) (St W (l :: (L ++ [(db, defO)]).map (·.1)) ((L ++ [(db, defO)]) ++ [(l, recO rec .ready)])))
    (hdone : ∀ db L, LL xs L → Xt P .normal Q nt ({ target := .collected db, args := #[] } :: D) fr (St w0 X (L ++ [(db, defO)]))) : T P none (.rangeFunc g ps.toArray assign body) Q nt D fr (St w0 X L) := by
  intro a w ha hw
  refine wpIn_rangeFunc ?_
  intro fn hfn
  have hw1 := hL w hw
  obtain ⟨rec, hrec⟩ : ∃ rec : Loop, rec = { state := .ready, pending := none, fn, tmps := a.tmps, params := ps.toArray, assign, body, defers := w.heap.size } := ⟨_, rfl⟩
  have h1 := (hw1.alloc (.deferred (some [])) (q := defO) rfl).perm (List.perm_append_comm (l₁ := [(w.heap.size, defO)]))
  have h2 := (h1.alloc (.loop rec) (q := recO rec .ready) (by rw [hrec]; rfl)).perm (List.perm_append_comm (l₁ := [((w.alloc (.deferred (some []))).heap.size, recO rec .ready)]))
  simp only [World.size_alloc] at h2
  refine ⟨w.heap.size + 1, [{ target := .collected w.heap.size, args := #[] }], (w.alloc (.deferred (some []))).alloc (.loop rec), { target := .fn (.func gf) cap.toArray, args := #[.func (.yield (w.heap.size + 1)) #[] #[]] }, (w.alloc (.deferred (some []))).alloc (.loop rec), gf,
    #[.func (.yield (w.heap.size + 1)) #[] #[]] ++ cap.toArray, (w.alloc (.deferred (some []))).alloc (.loop rec), ?_, ?_, fun _ _ => trivial, ?_, fun h => by simp [Fence.wide] at h, ?_⟩
  · rw [hrec]; exact run_enterLoop_outer _ _ _ _ _
  · simp only [resolve, rangeCall, ha.eval hg]
    simp [Deferred.ofValue, Act.eval]
  · simp [invoke, hf.enters]
  · have hc := range_core2 (nt := nt) (fr := fr) (P := P) hit (fun pre L' => ∃ L1, L' = L1 ++ [(w.heap.size, defO)] ∧ LL pre L1) (fun pre L' w ⟨L1, e, hl⟩ h => hdata pre L1 w hl (by rw [e] at h; exact h.sublist (List.sublist_append_left ..))) (rec := rec) (ps := ps) (assign := assign) (body := body)
      (by rw [hrec]) (by rw [hrec]) (by rw [hrec]) hps (fun p hp => by have := List.all_eq_true.1 hpn p hp; simpa [Nat.blt_eq] using this) (by rw [hrec]; exact ⟨ha.size, rfl, ha.look⟩) (l := w.heap.size + 1) ⟨L0, rfl, hL0⟩ h2 (fun pre x L' W vs B ids hp ⟨L1, e, hl⟩ hs hE hk => by subst e; exact hround _ _ rec pre x L1 W vs B ids hp hl hs hE hk)
    have hc' : Calls P gf (#[.func (.yield (w.heap.size + 1)) #[] #[]] ++ cap.toArray) ((w.alloc (.deferred (some []))).alloc (.loop rec)) fun e W' => (∃ v, e = .returned v) ∧ ∃ L', (∃ L1, L' = L1 ++ [(w.heap.size, defO)] ∧ LL xs L1) ∧ St w0 X (L' ++ [(w.heap.size + 1, recO rec .ready)]) W' := by simpa using hc
    refine callsIn_any (hc'.mono ?_)
    rintro e W' ⟨⟨v, rfl⟩, L', ⟨L1, rfl, hl⟩, hst⟩
    obtain ⟨o, ho, hr⟩ := hst.here (w.heap.size + 1, recO rec .ready) (by simp)
    rw [hr] at ho
    refine ⟨none, _, run_endLoop ho (by simp), ?_⟩
    refine hdone w.heap.size L1 hl _ _ ⟨ha.size, by simp [ha.defers], ha.look⟩ ?_
    exact (hst.turn (q' := fun _ => True) trivial).sublist (List.sublist_append_left ..)

/-- the statement within a round of another loop -/
theorem t_rangeIn2 {α : Type} {gf : FuncId} {cap : List Value} {Enc : Nat → List Nat → World → α → List Value → Prop} {xs : List α} {Data : World → Prop} (hit : Iter2 P gf cap Enc xs Data) [hf : CFn P gf] {g : Operand} {ps : List Nat} {assign body : Code} {l₀ : Nat} {rec₀ : Loop} {st₀ : LoopState} (hl₀ : (l₀, recO rec₀ st₀) ∈ L) (hg : fev fr g = some (.func (.func gf) #[] cap.toArray))
    (LL : List α → HL → Prop) {L0 : HL} (hL0 : LL [] L0) (hL : ∀ w, St w0 X L w → St w0 X L0 w) (hdata : ∀ pre L w, LL pre L → St w0 X L w → Data w) (hps : ∀ B ids w x vs, Enc B ids w x vs → vs.length = ps.length) (hpn : ps.all (fun p => Nat.blt p nt) = true)
    (hround : ∀ l rec pre x L W vs B ids, (pre ++ [x]) <+: xs → LL pre L → St w0 X L W → Enc B ids W x vs → (∀ k ∈ l :: L.map (·.1), k < B ∨ k ∈ ids) → T P (some l) assign (Qbegin P l body (Qround2 W (l :: L.map (·.1)) l rec (LL (pre ++ [x])))) nt [] (fset ps vs fr) (St W (l :: L.map (·.1)) (L ++ [(l, recO rec .ready)])))
    (hdone : ∀ L, LL xs L → Xt P .normal Q nt D fr (St w0 X L)) : T P (some l₀) (.rangeFunc g ps.toArray assign body) Q nt D fr (St w0 X L) := by
  intro a w ha hw
  refine wpIn_rangeFunc ?_
  intro fn hfn
  have hw1 := hL w hw
  obtain ⟨o₀, ho₀, hr₀⟩ := hw.here _ hl₀
  rw [hr₀] at ho₀
  obtain ⟨rec, hrec⟩ : ∃ rec : Loop, rec = { state := .ready, pending := none, fn, tmps := a.tmps, params := ps.toArray, assign, body, defers := rec₀.defers } := ⟨_, rfl⟩
  have h2 := (hw1.alloc (.loop rec) (q := recO rec .ready) (by rw [hrec]; rfl)).perm (List.perm_append_comm (l₁ := [(w.heap.size, recO rec .ready)]))
  refine ⟨w.heap.size, [], w.alloc (.loop rec), { target := .fn (.func gf) cap.toArray, args := #[.func (.yield w.heap.size) #[] #[]] }, w.alloc (.loop rec), gf, #[.func (.yield w.heap.size) #[] #[]] ++ cap.toArray, w.alloc (.loop rec), ?_, ?_, fun _ _ => trivial, ?_, fun h => by simp [Fence.wide] at h, ?_⟩
  · rw [hrec]; exact run_enterLoop_inner ho₀ _ _ _ _ _
  · simp only [resolve, rangeCall, ha.eval hg]
    simp [Deferred.ofValue, Act.eval]
  · simp [invoke, hf.enters]
  · have hc := range_core2 (nt := nt) (fr := fr) (P := P) hit LL hdata (rec := rec) (ps := ps) (assign := assign) (body := body)
      (by rw [hrec]) (by rw [hrec]) (by rw [hrec]) hps (fun p hp => by have := List.all_eq_true.1 hpn p hp; simpa [Nat.blt_eq] using this) (by rw [hrec]; exact ⟨ha.size, rfl, ha.look⟩) (l := w.heap.size) hL0 h2 (fun pre x L W vs B ids hp hl hs hE hk => hround _ rec pre x L W vs B ids hp hl hs hE hk)
    have hc' : Calls P gf (#[.func (.yield w.heap.size) #[] #[]] ++ cap.toArray) (w.alloc (.loop rec)) fun e W' => (∃ v, e = .returned v) ∧ ∃ L', LL xs L' ∧ St w0 X (L' ++ [(w.heap.size, recO rec .ready)]) W' := by simpa using hc
    refine callsIn_any (hc'.mono ?_)
    rintro e W' ⟨⟨v, rfl⟩, L', hl, hst⟩
    obtain ⟨o, ho, hr⟩ := hst.here (w.heap.size, recO rec .ready) (by simp)
    rw [hr] at ho
    refine ⟨none, _, run_endLoop ho (by simp), ?_⟩
    refine hdone L' hl _ _ ⟨ha.size, by simp [ha.defers], ha.look⟩ ?_
    exact (hst.turn (q' := fun _ => True) trivial).sublist (List.sublist_append_left ..)


/-! ### the function's side -/
variable {ops : Array Oper} {rest : List Oper} {d : Nat} {ty t : TypeId} {pos : String} {af : Array Edge} {z : Operand} {dd : Option Tmp} {g : Option (Nat × Bool)} {x : Operand}

/-- what is known after a round: the function's own blocks are as they were, in a new world -/
theorem tl_yield2 {α : Type} {B l : Nat} {J : List α → List Nat → World → Prop} {Enc : Nat → List Nat → World → α → List Value → Prop} {xs : List α} {args : Array Operand} {ts : Array TypeId}
    (hloc : ∀ pre ids w w', J pre ids w → Agr B ids w w' → J pre ids w') (hfp : ∀ pre ids w, J pre ids w → ∀ k ∈ ids, k < w.heap.size) (hY : ∀ pre ids x W1 vs, (pre ++ [x]) <+: xs → J pre ids W1 → Enc B ids W1 x vs → Yields P l vs W1 fun W' => ∃ ids', J (pre ++ [x]) ids' W' ∧ Back B ids ids' W1 W')
    {pre : List α} {y : α} {ids : List Nat} {vs : List Value} (hpre : (pre ++ [y]) <+: xs) (hJ : J pre ids w0) (hX : ∀ k ∈ X, B ≤ k ∧ k ∉ ids) (hB : B ≤ w0.heap.size) (hz : fev fr z = some (.func (.yield l) #[] #[])) (hv : fevs fr args.toList = some vs) (hE : ∀ w, St w0 X L w → Enc B ids w y vs) (hd : Nat.ble nt d = false)
    (h : ∀ w1 ids', J (pre ++ [y]) ids' w1 → B ≤ w1.heap.size → (∀ k ∈ L.map (·.1), B ≤ k ∧ k ∉ ids') → TL P r ops Q nt D rest ((d, .bool true) :: fr) (St w1 (L.map (·.1)) L)) : TL P r ops Q nt D (⟨some d, .call ⟨.value z, args, ts⟩, ty, pos, af, none⟩ :: rest) fr (St w0 X L) := by
  refine tl_op hd rfl (R := fun v w => v = .bool true ∧ ∃ w1 ids', J (pre ++ [y]) ids' w1 ∧ B ≤ w1.heap.size ∧ (∀ k ∈ L.map (·.1), B ≤ k ∧ k ∉ ids') ∧ St w1 (L.map (·.1)) L w) (o_yield vs hz hv fun w hw => ?_) ?_
  · have hag : Agr B ids w0 w := ⟨hw.os, hw.tape, hw.output, hw.size, fun k hk => hw.old k (by omega) (fun hx => by have := (hX k hx).1; omega), fun k hk => hw.old k (hfp _ _ _ hJ k hk) (fun hx => (hX k hx).2 hk)⟩
    refine (hY pre ids y w vs hpre (hloc _ _ _ _ hJ hag) (hE w hw)).mono ?_
    rintro w' ⟨ids', hJ', hb⟩
    have hown : ∀ p ∈ L, p.1 ∉ ids := fun p hp hi => by
      rcases hw.mine p hp with h | h
      · have := hfp _ _ _ hJ p.1 hi; omega
      · exact (hX p.1 h).2 hi
    have hBp : ∀ p ∈ L, B ≤ p.1 := fun p hp => by
      rcases hw.mine p hp with h | h
      · omega
      · exact (hX p.1 h).1
    refine ⟨w', ids', hJ', Nat.le_trans (Nat.le_trans hB hw.size) hb.size, fun k hk => ?_, rfl, rfl, rfl, Nat.le_refl _, fun _ _ _ => rfl, fun p hp => ?_, fun p hp => .inr (List.mem_map.2 ⟨p, hp, rfl⟩), hw.apart⟩
    · obtain ⟨p, hp, rfl⟩ := List.mem_map.1 hk
      refine ⟨hBp p hp, fun hi => ?_⟩
      rcases hb.new p.1 hi with h | h
      · exact hown p hp h
      · have := hw.lt hp; omega
    · obtain ⟨o, ho, hq⟩ := hw.here p hp
      exact ⟨o, (hb.own p.1 (hBp p hp) (hw.lt hp) (hown p hp)).trans ho, hq⟩
  · rintro v a w ha ⟨rfl, w1, ids', h1, h2, h3, h4⟩
    exact h w1 ids' h1 h2 h3 a w ha h4

/-- a load out of memory that was there, and is not the function's own -/
theorem o_loadX {b k : Nat} {v : Value} [CSc P t] (hx : fev fr x = some (.pointer (some ⟨b, k, none⟩))) (hb : b < w0.heap.size) (hn : b ∉ X) (hc : w0.cell? ⟨b, k, none⟩ = some v) : Pv P ⟨dd, .load t x, ty, pos, af, g⟩ fr (St w0 X L) v :=
  o_load hx fun w hw => by rw [hw.oldCell (a := ⟨b, k, none⟩) hb hn]; exact hc
theorem o_loadXA {b k n : Nat} {cs : List Value} [CAg P t n] (hx : fev fr x = some (.pointer (some ⟨b, k, none⟩))) (hl : cs.length = n) (hb : b < w0.heap.size) (hn : b ∉ X) (hc : ∀ j v, cs[j]? = some v → w0.cell? ⟨b, k + j, none⟩ = some v) : Pv P ⟨dd, .load t x, ty, pos, af, g⟩ fr (St w0 X L) (.agg cs.toArray) :=
  o_loadA hx hl fun w hw j v hj => by rw [hw.oldCell (a := ⟨b, k + j, none⟩) hb hn]; exact hc j v hj
/-- the function's own blocks, seen anew -/
theorem St.rebase {w : World} (h : St w0 X L w) : St w (L.map (·.1)) L w := ⟨rfl, rfl, rfl, Nat.le_refl _, fun _ _ _ => rfl, h.here, fun p hp => .inr (List.mem_map.2 ⟨p, hp, rfl⟩), h.apart⟩

/-- at a loop's head, in a function that yields: the consumer's word, and the function's own blocks -/
def Hd (B : Nat) (Jp : List Nat → World → Prop) (L : HL) (w : World) : Prop := ∃ ids, Jp ids w ∧ B ≤ w.heap.size ∧ St w (L.map (·.1)) L w ∧ ∀ k ∈ L.map (·.1), B ≤ k ∧ k ∉ ids
theorem t_hd {cd : Code} {B : Nat} {Jp : List Nat → World → Prop} (h : ∀ w1 ids, Jp ids w1 → B ≤ w1.heap.size → (∀ k ∈ L.map (·.1), B ≤ k ∧ k ∉ ids) → T P r cd Q nt D fr (St w1 (L.map (·.1)) L)) : T P r cd Q nt D fr (Hd B Jp L) := fun a w ha ⟨ids, h1, h2, h3, h4⟩ => h w ids h1 h2 h4 a w ha h3
theorem St.hd {w : World} {B : Nat} {Jp : List Nat → World → Prop} {ids : List Nat} (h : St w0 X L w) (hJ : Jp ids w0) (hloc : ∀ ids w w', Jp ids w → Agr B ids w w' → Jp ids w') (hX : ∀ k ∈ X, B ≤ k ∧ k ∉ ids) (hB : B ≤ w0.heap.size) (hfp : ∀ k ∈ ids, k < w0.heap.size) : Hd B Jp L w := by
  refine ⟨ids, hloc _ _ _ hJ ⟨h.os, h.tape, h.output, h.size, fun k hk => h.old k (by omega) (fun hx => by have := (hX k hx).1; omega), fun k hk => h.old k (hfp k hk) (fun hx => (hX k hx).2 hk)⟩, Nat.le_trans hB h.size, h.rebase, fun k hk => ?_⟩
  obtain ⟨p, hp, rfl⟩ := List.mem_map.1 hk
  rcases h.mine p hp with h' | h'
  · exact ⟨by omega, fun hi => by have := hfp p.1 hi; omega⟩
  · exact hX p.1 h'

def LoopJ {α : Type} (nt : Nat) (D : List Deferred) (st : α → Fr) (fr0 : Fr) (C : α → Prop) (J : α → World → Prop) (μ : α → Nat) (x : α) (Q : Exit → Act → World → Prop) : Exit → Act → World → Prop := Exit.then (fun a w => ∃ x', Ag nt D (st x' ++ fr0) a ∧ (C x' ∧ J x' w) ∧ μ x' < μ x) Q
theorem t_loopJ {α : Type} {cd : Code} (ks : List Nat) {fr0 : Fr} (st : α → Fr) (C : α → Prop) (J : α → World → Prop) (μ : α → Nat) (x0 : α) (hk : keep fr ks = some fr0) (hf : fle (st x0) fr) (hC : C x0) (hJ : ∀ w, I w → J x0 w)
    (hb : ∀ x, C x → T P r cd (LoopJ nt D st fr0 C J μ x Q) nt D (st x ++ fr0) (J x)) : T P r (.loop cd) Q nt D fr I :=
  t_loopC (fun x => st x ++ fr0) C J μ x0 hC (fle_append _ _ _ hf (keep_fle ks _ hk)) hJ hb
theorem xt_roundJ {α : Type} {fr0 : Fr} {st : α → Fr} {C : α → Prop} {J : α → World → Prop} {μ : α → Nat} {x : α} (x' : α) (hk : keep fr (fr0.map (·.1)) = some fr0) (hf : fle (st x') fr) (hC : C x') (hm : μ x' < μ x) (hJ : ∀ w, I w → J x' w) :
    Xt P .normal (LoopJ nt D st fr0 C J μ x Q) nt D fr I :=
  xt_roundC x' (fle_append _ _ _ hf (keep_fle _ _ hk)) hC hJ hm
theorem xt_loopJ_exit {α : Type} {fr0 : Fr} {st : α → Fr} {C : α → Prop} {J : α → World → Prop} {μ : α → Nat} {x : α} {id : Nat} (h : Xt P (.exit id) Q nt D fr I) : Xt P (.exit id) (LoopJ nt D st fr0 C J μ x Q) nt D fr I := fun a w ha hw => h a w ha hw
theorem xt_loopJ_ret {α : Type} {fr0 : Fr} {st : α → Fr} {C : α → Prop} {J : α → World → Prop} {μ : α → Nat} {x : α} (h : Xt P .ret Q nt D fr I) : Xt P .ret (LoopJ nt D st fr0 C J μ x Q) nt D fr I := fun a w ha hw => h a w ha hw

/-! ### short names of the steps -/
abbrev Za := @t_seq
abbrev Zb := @t_region
abbrev Zc := @xt_then
abbrev Zd := @tl_nil
abbrev Ze := @t_block
abbrev Zf := @t_skip
abbrev Zg := @t_ret
abbrev Zh := @t_exit
abbrev Zi := @xt_blk
abbrev Zj := @xt_blk_exit
abbrev Zk := @xt_then_ret
abbrev Zl := @xt_then_exit
abbrev Zm := @xt_blk_ret
abbrev Zn := @xt_blk_other
abbrev Zo := @xt_round_exit
abbrev Zp := @xt_round_ret
abbrev Zq := @xt_loop_exit
abbrev Zr := @xt_loop_ret
abbrev Zs := @xt_loopJ_exit
abbrev Zt := @xt_loopJ_ret
abbrev Zu := @tl_run
abbrev Zv := @tl_guard_yes
abbrev Zw := @tl_guard_no
abbrev Zx := @tl_guard_undef
abbrev Zy := @s_load
abbrev Zz := @g_load
abbrev Ya := @s_pick
abbrev Yb := @g_pick
abbrev Yc := @s_bin
abbrev Yd := @g_bin
abbrev Ye := @s_store
abbrev Yf := @g_store
abbrev Yg := @s_box
abbrev Yh := @g_box
abbrev Yi := @tl_box
abbrev Yj := @o_box
abbrev Yk := @tl_alloc
abbrev Yl := @s_build
abbrev Ym := @g_build
abbrev Yn := @s_index
abbrev Yo := @g_index
abbrev Yp := @s_unop
abbrev Yq := @g_unop
abbrev Yr := @s_conv
abbrev Ys := @g_conv
abbrev Yt := @s_call
abbrev Yu := @g_call
abbrev Yv := @s_lit
abbrev Yw := @g_lit
abbrev Yx := @t_condT
abbrev Yy := @t_condF
abbrev Yz := @dw_open
abbrev Va := @sw_g
abbrev Vb := @w_no
abbrev Vc := @w_un
abbrev Vd := @w_p
abbrev Ve := @dw_alo
abbrev Vf := @sw_load
abbrev Vg := @w_load
abbrev Vh := @sw_pick
abbrev Vi := @w_pick
abbrev Vj := @sw_bin
abbrev Vk := @w_bin
abbrev Vl := @sw_index
abbrev Vm := @w_index
abbrev Vn := @sw_build
abbrev Vo := @w_build
abbrev Vp := @sw_call
abbrev Vq := @w_call
abbrev Vr := @sw_put
abbrev Vs := @w_put
abbrev Vt := @sw_store
abbrev Vu := @w_store
abbrev Vv := @sw_unop
abbrev Vw := @w_unop
abbrev Vx := @sw_conv
abbrev Vy := @w_conv
abbrev Vz := @sw_lit
abbrev Ua := @w_lit

end Go.Proofs.Ytbgolbkolcmldaa
