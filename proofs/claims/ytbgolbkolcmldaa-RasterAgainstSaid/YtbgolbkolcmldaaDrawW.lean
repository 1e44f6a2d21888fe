/-
  A region whose order Go leaves open, walked once, in an order of our own: values; calls and the like that make memory; new boxes that may come at any time.
-/
import Derived.Test.YtbgolbkolcmldaaRun
namespace Go.Proofs.Ytbgolbkolcmldaa
open Go.RowKit

variable {P : Program} {r : Option Nat} {Q : Exit → Act → World → Prop} {nt : Nat} {D : List Deferred} {fr : Fr} {w0 : World} {X : List Nat}

/-- v: a value; e: makes memory; h: likewise, and turns the newest block; a: a new box -/
inductive Sk where
  | v | e | h | a
def skE (hd : Bool) : Sk := bif hd then .h else .e
def Sk.isA : Sk → Bool | .a => true | _ => false
def Sk.isV : Sk → Bool | .v => true | _ => false

inductive Pl : Type 1 where
  | fin
  | val (k : Nat) (u : Value) (nx : Pl)
  | eff (k : Nat) (hd c : Bool) (α : Type) (C : α → Prop) (u : α → Value) (N : α → HL) (M : α → HL) (nx : α → Pl)
  | alo (k : Nat) (nx : Nat → Pl)

abbrev SkL := List (Nat × Sk)
def hdF : SkL → Bool
  | [] => true
  | (_, .v) :: r => hdF r
  | (_, .h) :: _ => false
  | _ => true
def alos : SkL → List Nat
  | [] => []
  | (k, .a) :: r => k :: alos r
  | _ :: r => alos r
def hidn (c : Bool) (Hn : HL) : HL := bif c then [] else Hn
def hidy (c : Bool) (Hn : HL) : HL := bif c then Hn else []
def dropHd (hd : Bool) (L : HL) : HL := if hd then L.tail else L
def tof (l : List Oper) (k : Nat) : TypeId := match l[k]? with
  | some ⟨_, .alloc t, _, _, _, _⟩ => t
  | _ => 0
def zof (P : Program) (t : TypeId) : List Value := match (P.info? t).bind (·.zero) with
  | some v => v.cells.toList
  | none => []
theorem zof_eq {t : TypeId} {z : List Value} (h : CZ P t z) (w : World) : zof P t = z := by
  obtain ⟨v, hv, hr⟩ := h.run
  have := hr w
  unfold zof
  cases hi : P.info? t with
  | none => simp [zeroValue, typeInfo, hi] at this
  | some i =>
    cases hz : i.zero with
    | none => simp [zeroValue, typeInfo, hi, hz] at this
    | some v' =>
      simp [zeroValue, typeInfo, hi, hz] at this
      subst this
      simp [hz, hv]
def al (P : Program) (l : List Oper) (k : Nat) : Obj → Prop := bx (zof P (tof l k)) (tof l k)

def VSpec (P : Program) (l : List Oper) (fr : Fr) (w0 : World) (X : List Nat) (o : Oper) (u : Value) (acc : Fr) (L : HL) : Prop := match o.guard with
  | none => ∀ L', O P o (frk l.toArray (lv acc) fr o.after.toList) (St w0 X (L ++ L')) (fun v w => v = u ∧ St w0 X (L ++ L') w)
  | some (j, want) => (lv acc j = .bool want ∧ ∀ L', O P o (frk l.toArray (lv acc) fr o.after.toList) (St w0 X (L ++ L')) (fun v w => v = u ∧ St w0 X (L ++ L') w)) ∨ (lv acc j ≠ .bool want ∧ u = undef)
def GOk (o : Oper) (acc : Fr) : Prop := match o.guard with
  | none => True
  | some (j, want) => lv acc j = .bool want

def Ok (P : Program) (l : List Oper) (fr : Fr) (w0 : World) (X : List Nat) (fin : Fr → HL → Prop) : Pl → SkL → Fr → HL → HL → Prop
  | .fin, sk, acc, L, Hn => sk = [] ∧ fin acc (L ++ Hn)
  | .val k u nx, sk, acc, L, Hn => ∃ s r o, sk = (k, s) :: r ∧ s.isA = false ∧ hdF r = true ∧ l[k]? = some o ∧ VSpec P l fr w0 X o u acc L ∧ Ok P l fr w0 X fin nx r ((k, u) :: acc) L Hn
  | .eff k hd c α C u N M nx, sk, acc, L, Hn => ∃ r o, sk = (k, skE hd) :: r ∧ l[k]? = some o ∧ GOk o acc ∧ (hdF r = true ∨ ∀ x, C x → N x ≠ [] ∧ M x = N x ++ dropHd hd L) ∧ (∀ x, C x → (M x).Perm (N x ++ dropHd hd L)) ∧
      (∀ L', O P o (frk l.toArray (lv acc) fr o.after.toList) (St w0 X (L ++ hidy c Hn ++ L')) (fun v w => ∃ x, C x ∧ v = u x ∧ St w0 X (M x ++ L') w)) ∧ ∀ x, C x → Ok P l fr w0 X fin (nx x) r ((k, u x) :: acc) (M x) (hidn c Hn)
  | .alo k nx, sk, acc, L, Hn => ∃ r, sk = (k, .a) :: r ∧ ∀ b, Ok P l fr w0 X fin (nx b) r ((k, .pointer (some ⟨b, 0, none⟩)) :: acc) ((b, al P l k) :: L) Hn

def Front (P : Program) (l : List Oper) (ks : List Nat) (L : HL) (S : Nat → Bool) (ε : Nat → Value) (Lx : HL) : Prop :=
  ∃ bs : Nat → Nat, (∀ k ∈ ks, S k = true → ε k = .pointer (some ⟨bs k, 0, none⟩)) ∧ Lx.Perm (L ++ (ks.filter S).map fun k => (bs k, al P l k))

def Sh (P : Program) (l : List Oper) (S : Nat → Bool) (ε : Nat → Value) (Lx : HL) : Pl → SkL → HL → HL → Prop
  | .fin, _, L, Hn => Lx.Perm (L ++ Hn)
  | .val k u nx, sk, L, Hn => (S k = true → ε k = u) ∧ Sh P l S ε Lx nx sk.tail L Hn
  | .eff k hd c _ C u N M nx, sk, L, Hn => (S k = true ∧ ∃ x, C x ∧ ε k = u x ∧ Sh P l S ε Lx (nx x) sk.tail (M x) (hidn c Hn)) ∨ (S k = false ∧ Front P l (alos sk) (L ++ Hn) S ε Lx)
  | .alo k nx, sk, L, Hn => (S k = true ∧ ∃ b, ε k = .pointer (some ⟨b, 0, none⟩) ∧ Sh P l S ε Lx (nx b) sk.tail ((b, al P l k) :: L) Hn) ∨ (S k = false ∧ Front P l (alos sk) (L ++ Hn) S ε Lx)

theorem perm_tail {Lx L L' : HL} (h : Lx.Perm (L ++ L')) : ∃ L'', Lx.Perm (L.tail ++ L'') := by
  cases L with
  | nil => exact ⟨L', h⟩
  | cons p t => exact ⟨p :: L', h.trans List.perm_middle.symm⟩

section
variable {l : List Oper} {fin : Fr → HL → Prop}

theorem sh_keep {S : Nat → Bool} {ε : Nat → Value} {Lx : HL} : ∀ (pl : Pl) (sk : SkL) (acc : Fr) (L Hn : HL), Ok P l fr w0 X fin pl sk acc L Hn → Sh P l S ε Lx pl sk L Hn → ∃ L', Lx.Perm ((if hdF sk then L else L.tail) ++ L')
  | .fin, sk, acc, L, Hn, ho, hs => by
    obtain ⟨rfl, _⟩ := ho
    exact ⟨Hn, hs⟩
  | .val k u nx, sk, acc, L, Hn, ho, hs => by
    obtain ⟨s, r, o, rfl, hsa, hr, _, _, hn⟩ := ho
    obtain ⟨L', hp⟩ := sh_keep nx r _ L Hn hn hs.2
    rw [hr, if_pos rfl] at hp
    split
    · exact ⟨L', hp⟩
    · exact perm_tail hp
  | .eff k hd c α C u N M nx, sk, acc, L, Hn, ho, hs => by
    obtain ⟨r, o, rfl, _, _, hne, hpm, _, hn⟩ := ho
    rcases hs with ⟨_, x, hC, _, hs⟩ | ⟨_, bs, _, hp⟩
    · obtain ⟨L', hp⟩ := sh_keep (nx x) r _ _ _ (hn x hC) hs
      have key : ∃ L'', Lx.Perm (dropHd hd L ++ L'') := by
        cases hr : hdF r with
        | true =>
          rw [hr, if_pos rfl] at hp
          exact ⟨N x ++ L', hp.trans (((hpm x hC).append_right L').trans ((List.perm_append_comm.append_right L').trans (by simp)))⟩
        | false =>
          rw [hr, if_neg (by simp)] at hp
          rcases hne with h | h
          · rw [hr] at h; cases h
          · obtain ⟨h1, h2⟩ := h x hC
            rw [h2] at hp
            cases hN : N x with
            | nil => exact absurd hN h1
            | cons p t =>
              rw [hN] at hp
              exact ⟨t ++ L', hp.trans ((List.perm_append_comm.append_right L').trans (by simp))⟩
      obtain ⟨L'', hp⟩ := key
      cases hd with
      | true => exact ⟨L'', by simpa [hdF, dropHd, skE] using hp⟩
      | false => exact ⟨L'', by simpa [hdF, dropHd, skE] using hp⟩
    · rw [List.append_assoc] at hp
      split
      · exact ⟨_, hp⟩
      · exact perm_tail hp
  | .alo k nx, sk, acc, L, Hn, ho, hs => by
    obtain ⟨r, rfl, hn⟩ := ho
    have e : hdF ((k, Sk.a) :: r) = true := rfl
    rw [e, if_pos rfl]
    rcases hs with ⟨_, b, _, hs⟩ | ⟨_, bs, _, hp⟩
    · obtain ⟨L', hp⟩ := sh_keep (nx b) r _ _ _ (hn b) hs
      split at hp
      · exact ⟨(b, al P l k) :: L', hp.trans (by simpa using (List.perm_middle (a := (b, al P l k)) (l₁ := L) (l₂ := L')).symm)⟩
      · exact ⟨L', hp⟩
    · rw [List.append_assoc] at hp
      exact ⟨_, hp⟩

theorem sh_fresh {S : Nat → Bool} {ε : Nat → Value} {Lx : HL} : ∀ (pl : Pl) (sk : SkL) (acc : Fr) (L Hn : HL), Ok P l fr w0 X fin pl sk acc L Hn → (∀ p ∈ sk, p.2.isA = false → S p.1 = false) → Front P l (alos sk) (L ++ Hn) S ε Lx → Sh P l S ε Lx pl sk L Hn
  | .fin, sk, acc, L, Hn, ho, _, hf => by
    obtain ⟨rfl, _⟩ := ho
    obtain ⟨bs, _, hp⟩ := hf
    have hp' : Lx.Perm (L ++ Hn) := by simpa [alos] using hp
    exact hp'
  | .val k u nx, sk, acc, L, Hn, ho, hS, hf => by
    obtain ⟨s, r, o, rfl, hsa, _, _, _, hn⟩ := ho
    have h0 := hS (k, s) (by simp) hsa
    refine ⟨fun (h : S k = true) => Bool.noConfusion (h0.symm.trans h), sh_fresh nx r _ L Hn hn (fun p hp => hS p (List.mem_cons_of_mem _ hp)) ?_⟩
    cases s <;> first | exact hf | cases hsa
  | .eff k hd c α C u N M nx, sk, acc, L, Hn, ho, hS, hf => by
    obtain ⟨r, o, rfl, _⟩ := ho
    exact .inr ⟨hS (k, skE hd) (by simp) (by cases hd <;> rfl), hf⟩
  | .alo k nx, sk, acc, L, Hn, ho, hS, hf => by
    obtain ⟨r, rfl, hn⟩ := ho
    cases hk : S k with
    | false => exact .inr ⟨hk, hf⟩
    | true =>
      obtain ⟨bs, h1, hp⟩ := hf
      refine .inl ⟨hk, bs k, h1 k (by simp [alos]) hk, sh_fresh (nx (bs k)) r _ _ _ (hn _) (fun p hp => hS p (List.mem_cons_of_mem _ hp)) ⟨bs, fun j hj => h1 j (by simp [alos, hj]), ?_⟩⟩
      simp only [alos, List.filter_cons, hk, if_true, List.map_cons] at hp
      exact hp.trans List.perm_middle

theorem sh_congr {S S' : Nat → Bool} {ε ε' : Nat → Value} {Lx : HL} : ∀ (pl : Pl) (sk : SkL) (acc : Fr) (L Hn : HL), Ok P l fr w0 X fin pl sk acc L Hn → (∀ p ∈ sk, S' p.1 = S p.1 ∧ ε' p.1 = ε p.1) → Sh P l S ε Lx pl sk L Hn → Sh P l S' ε' Lx pl sk L Hn
  | .fin, sk, acc, L, Hn, ho, _, hs => hs
  | .val k u nx, sk, acc, L, Hn, ho, hc, hs => by
    obtain ⟨s, r, o, rfl, _, _, _, _, hn⟩ := ho
    obtain ⟨h1, h2⟩ := hc (k, s) (by simp)
    simp only at h1 h2
    exact ⟨fun h => by rw [h2]; exact hs.1 (by rw [← h1]; exact h), sh_congr nx r _ L Hn hn (fun p hp => hc p (List.mem_cons_of_mem _ hp)) hs.2⟩
  | .eff k hd c α C u N M nx, sk, acc, L, Hn, ho, hc, hs => by
    obtain ⟨r, o, rfl, _, _, _, _, _, hn⟩ := ho
    obtain ⟨h1, h2⟩ := hc (k, skE hd) (by simp)
    simp only at h1 h2
    rcases hs with ⟨hk, x, hC, hx, hs⟩ | ⟨hk, hf⟩
    · exact .inl ⟨by rw [h1]; exact hk, x, hC, by rw [h2]; exact hx, sh_congr (nx x) r _ _ _ (hn x hC) (fun p hp => hc p (List.mem_cons_of_mem _ hp)) hs⟩
    · exact .inr ⟨by rw [h1]; exact hk, front_congr _ hc hf⟩
  | .alo k nx, sk, acc, L, Hn, ho, hc, hs => by
    obtain ⟨r, rfl, hn⟩ := ho
    obtain ⟨h1, h2⟩ := hc (k, Sk.a) (by simp)
    simp only at h1 h2
    rcases hs with ⟨hk, x, hx, hs⟩ | ⟨hk, hf⟩
    · exact .inl ⟨by rw [h1]; exact hk, x, by rw [h2]; exact hx, sh_congr (nx x) r _ _ _ (hn x) (fun p hp => hc p (List.mem_cons_of_mem _ hp)) hs⟩
    · exact .inr ⟨by rw [h1]; exact hk, front_congr _ hc hf⟩
where
  mem_alos : ∀ (sk : SkL) {k : Nat}, k ∈ alos sk → (k, Sk.a) ∈ sk
    | [], k, h => by simp [alos] at h
    | (j, s) :: r, k, h => by
      cases s with
      | a =>
        rcases List.mem_cons.1 (by simpa [alos] using h : k ∈ j :: alos r) with rfl | h
        · simp
        · exact List.mem_cons_of_mem _ (mem_alos r h)
      | _ => exact List.mem_cons_of_mem _ (mem_alos r (by simpa [alos] using h))
  front_congr {S S' : Nat → Bool} {ε ε' : Nat → Value} {L Lx : HL} (sk : SkL) (hc : ∀ p ∈ sk, S' p.1 = S p.1 ∧ ε' p.1 = ε p.1) (h : Front P l (alos sk) L S ε Lx) : Front P l (alos sk) L S' ε' Lx := by
    obtain ⟨bs, h1, hp⟩ := h
    have hm : ∀ k ∈ alos sk, S' k = S k ∧ ε' k = ε k := fun k hk => hc (k, Sk.a) (mem_alos sk hk)
    refine ⟨bs, fun k hk hs => by rw [(hm k hk).2]; exact h1 k hk (by rw [← (hm k hk).1]; exact hs), ?_⟩
    rw [List.filter_congr (fun k hk => (hm k hk).1)]
    exact hp

def binAll (dn : List Nat) (es : List Edge) : Bool := es.all fun e => !Region.binds .any e || dn.any (Nat.beq e.on)
def skChk (l : List Oper) : List Nat → SkL → Bool
  | _, [] => true
  | dn, (k, s) :: r => (match l[k]? with | some o => binAll dn o.after.toList | none => false) && !dn.any (Nat.beq k) && !r.any (fun p => Nat.beq k p.1) && (s.isV || r.all fun p => p.2.isA || reachIn l.toArray 8 p.1 k) && skChk l (k :: dn) r

theorem skChk_spec {dn : List Nat} {k : Nat} {s : Sk} {r : SkL} (h : skChk l dn ((k, s) :: r) = true) : (∀ o, l[k]? = some o → ∀ e ∈ o.after, Region.binds .any e = true → e.on ∈ dn) ∧ (∀ p ∈ r, p.1 ≠ k) ∧ (s.isV = false → ∀ p ∈ r, p.2.isA = false → reachIn l.toArray 8 p.1 k = true) ∧ skChk l (k :: dn) r = true := by
  simp only [skChk, Bool.and_eq_true] at h
  obtain ⟨⟨⟨⟨h1, _⟩, h2⟩, h3⟩, h4⟩ := h
  refine ⟨fun o ho e he hb => ?_, fun p hp e => ?_, fun hs p hp ha => ?_, h4⟩
  · rw [ho] at h1
    simp only [binAll, List.all_eq_true] at h1
    have := h1 e (by simpa using he)
    rw [hb] at this
    simp only [Bool.not_true, Bool.false_or, List.any_eq_true] at this
    obtain ⟨x, hx, hxe⟩ := this
    rw [Nat.beq_eq] at hxe
    rw [hxe]; exact hx
  · have : (r.any fun p => Nat.beq k p.1) = true := List.any_eq_true.2 ⟨p, hp, by rw [Nat.beq_eq]; exact e.symm⟩
    rw [this] at h2
    cases h2
  · rw [hs, Bool.false_or] at h3
    have := List.all_eq_true.1 h3 p hp
    rw [ha, Bool.false_or] at this
    exact this

theorem mark_closed {S : Nat → Bool} {k : Nat} {o : Oper} (hc : Closed l.toArray S) (hk : l[k]? = some o) (hd : ∀ e ∈ o.after, Region.binds .any e = true → S e.on = true) : Closed l.toArray (mark S k) := by
  intro i oi hi hm e he hb
  by_cases hik : i = k
  · subst hik
    have : oi = o := by simpa [hk] using hi.symm
    subst this
    simp [mark, hd e he hb]
  · have : S i = true := by simpa [mark, hik] using hm
    simp [mark, hc i oi hi this e he hb]

def Cn (o : Oper) (ε : Nat → Value) (A B : Prop) : Prop := match o.guard with
  | none => A
  | some (j, want) => (ε j = .bool want → A) ∧ (ε j ≠ .bool want → B)
theorem Cn.mono {o : Oper} {ε : Nat → Value} {A B A' B' : Prop} (h : Cn o ε A B) (ha : A → A') (hb : B → B') : Cn o ε A' B' := by
  unfold Cn at *
  split at h <;> simp_all

theorem sh_step {S : Nat → Bool} {ε : Nat → Value} {k : Nat} {o : Oper} {ρ : Operand → Value} {w : World} {Lx : HL} (okG : okGuards l.toArray l = true) (hk : l[k]? = some o) (hc : Closed l.toArray S) (hSk : S k = false) (hd : ∀ e ∈ o.after, Region.binds .any e = true → S e.on = true)
    (hρ : ∀ x v, fev (frk l.toArray ε fr o.after.toList) x = some v → ρ x = v) (hst : St w0 X Lx w) : ∀ (pl : Pl) (sk : SkL) (dn : List Nat) (acc : Fr) (L Hn : HL), Ok P l fr w0 X fin pl sk acc L Hn → skChk l dn sk = true → (∀ j ∈ dn, S j = true → ε j = lv acc j) → (∃ s, (k, s) ∈ sk ∧ s.isA = false) → (∀ s, (k, s) ∈ sk → s.isA = false) → Sh P l S ε Lx pl sk L Hn →
    Cn o ε (Op1 P o ρ w fun v w' => ∃ Lx', Sh P l (mark S k) (upd ε k v) Lx' pl sk L Hn ∧ St w0 X Lx' w') (Sh P l (mark S k) (upd ε k undef) Lx pl sk L Hn)
  | .fin, sk, dn, acc, L, Hn, ho, _, _, ⟨s, hs, _⟩, _, _ => by
    obtain ⟨rfl, _⟩ := ho
    simp at hs
  | .val j u nx, sk, dn, acc, L, Hn, ho, hchk, hacc, ⟨s, hs, hsa⟩, hall, hsh => by
    obtain ⟨s', r', o', rfl, hsa', hr, hj, hv, hn⟩ := ho
    obtain ⟨c1, c2, c3, c4⟩ := skChk_spec hchk
    by_cases e : j = k
    · subst e
      have : o' = o := by rw [hk] at hj; injection hj with hj; exact hj.symm
      subst this
      have hfr : frk l.toArray ε fr o'.after.toList = frk l.toArray (lv acc) fr o'.after.toList := frk_congr _ fun e he hb => hacc _ (c1 o' hk e (by simpa using he) hb) (hd e (by simpa using he) hb)
      have hnew : ∀ v, Sh P l (mark S j) (upd ε j v) Lx nx r' L Hn := fun v => sh_congr nx r' _ L Hn hn (fun p hp => by
        have := c2 p hp
        simp [mark, upd, this]) hsh.2
      have hO : (∀ L', O P o' (frk l.toArray (lv acc) fr o'.after.toList) (St w0 X (L ++ L')) (fun v w => v = u ∧ St w0 X (L ++ L') w)) → Op1 P o' ρ w fun v w' => ∃ Lx', Sh P l (mark S j) (upd ε j v) Lx' (.val j u nx) ((j, s') :: r') L Hn ∧ St w0 X Lx' w' := by
        intro hO
        obtain ⟨L', hp⟩ := sh_keep nx r' _ L Hn hn hsh.2
        rw [hr, if_pos rfl] at hp
        rw [hfr] at hρ
        refine (hO L' ρ w hρ (hst.perm hp)).mono ?_
        rintro v w' ⟨rfl, h'⟩
        exact ⟨Lx, ⟨fun _ => by simp [upd], hnew v⟩, h'.perm hp.symm⟩
      unfold VSpec at hv
      unfold Cn
      cases hg : o'.guard with
      | none => rw [hg] at hv; exact hO hv
      | some q =>
        obtain ⟨g, want⟩ := q
        rw [hg] at hv
        obtain ⟨hej, _⟩ := okGuards_spec l.toArray l okG j o' g want hk hg
        obtain ⟨e, he, hb, hei⟩ := edgeTo_iff.1 hej
        have hgv : ε g = lv acc g := by rw [← hei]; exact hacc _ (c1 o' hk e he hb) (hd e he hb)
        simp only at hv ⊢
        rw [hgv]
        rcases hv with ⟨hy, hO'⟩ | ⟨hne, hu⟩
        · exact ⟨fun _ => hO hO', fun h => absurd hy h⟩
        · refine ⟨fun h => absurd h hne, fun _ => ⟨fun _ => by simp [upd, hu], hnew undef⟩⟩
    · have hmem : ∀ s, (k, s) ∈ (j, s') :: r' → (k, s) ∈ r' := fun s h => by
        rcases List.mem_cons.1 h with h | h
        · injection h with h _; exact absurd h.symm e
        · exact h
      refine (sh_step okG hk hc hSk hd hρ hst nx r' (j :: dn) ((j, u) :: acc) L Hn hn c4 ?_ ⟨s, hmem s hs, hsa⟩ (fun s h => hall s (List.mem_cons_of_mem _ h)) hsh.2).mono ?_ ?_
      · intro i hi hSi
        rw [lv_cons]
        rcases List.mem_cons.1 hi with rfl | hi
        · rw [if_pos rfl]; exact hsh.1 hSi
        · by_cases hji : j = i
          · subst hji; rw [if_pos rfl]; exact hsh.1 hSi
          · rw [if_neg hji]; exact hacc i hi hSi
      · intro h
        refine h.mono fun v w' ⟨Lx', h1, h2⟩ => ⟨Lx', ⟨fun hm => ?_, h1⟩, h2⟩
        simp only [mark, upd, if_neg e] at hm ⊢
        exact hsh.1 (by simpa [e] using hm)
      · intro h
        refine ⟨fun hm => ?_, h⟩
        simp only [mark, upd, if_neg e] at hm ⊢
        exact hsh.1 (by simpa [e] using hm)
  | .eff j hdd cc α C u N M nx, sk, dn, acc, L, Hn, ho, hchk, hacc, ⟨s, hs, hsa⟩, hall, hsh => by
    obtain ⟨r', o', rfl, hj, hg, hne, hpm, hO, hn⟩ := ho
    obtain ⟨c1, c2, c3, c4⟩ := skChk_spec hchk
    have hsv : (skE hdd).isV = false := by cases hdd <;> rfl
    by_cases e : j = k
    · subst e
      have : o' = o := by rw [hk] at hj; injection hj with hj; exact hj.symm
      subst this
      have hfr : frk l.toArray ε fr o'.after.toList = frk l.toArray (lv acc) fr o'.after.toList := frk_congr _ fun e he hb => hacc _ (c1 o' hk e (by simpa using he) hb) (hd e (by simpa using he) hb)
      have hal : alos ((j, skE hdd) :: r') = alos r' := by cases hdd <;> rfl
      rcases hsh with ⟨h, _⟩ | ⟨_, bs, hb1, hp⟩
      · rw [hSk] at h; cases h
      rw [hal] at hb1 hp
      have hA : Op1 P o' ρ w fun v w' => ∃ Lx', Sh P l (mark S j) (upd ε j v) Lx' (.eff j hdd cc α C u N M nx) ((j, skE hdd) :: r') L Hn ∧ St w0 X Lx' w' := by
        rw [hfr] at hρ
        refine (hO (hidn cc Hn ++ (alos r' |>.filter S |>.map fun k => (bs k, al P l k))) ρ w hρ (hst.perm (hp.trans (List.Perm.of_eq (by cases cc <;> simp [hidn, hidy]))))).mono ?_
        rintro v w' ⟨x, hC, rfl, h'⟩
        have hnk : ∀ p ∈ alos r', p ≠ j := fun p hp => c2 (p, Sk.a) (sh_congr.mem_alos r' hp)
        refine ⟨_, .inl ⟨by simp [mark], x, hC, by simp [upd], sh_fresh (nx x) r' _ _ _ (hn x hC) (fun p hp ha => ?_) ⟨bs, fun i hi hSi => ?_, ?_⟩⟩, h'⟩
        · have hne := c2 p hp
          have hreach := c3 hsv p hp ha
          simp only [mark, hne, decide_false, Bool.false_or]
          cases hSp : S p.1 with
          | false => rfl
          | true =>
            have := reach_spec hc 8 p.1 j hreach hSp
            rw [hSk] at this; cases this
        · have := hnk i hi
          simp only [mark, upd, this, decide_false, Bool.false_or, if_false] at hSi ⊢
          exact hb1 i hi hSi
        · have : (alos r').filter (mark S j) = (alos r').filter S := List.filter_congr fun i hi => by simp [mark, hnk i hi]
          rw [this, ← List.append_assoc]
      unfold Cn
      cases hgg : o'.guard with
      | none => exact hA
      | some q =>
        obtain ⟨g, want⟩ := q
        simp only [GOk, hgg] at hg
        obtain ⟨hej, _⟩ := okGuards_spec l.toArray l okG j o' g want hk hgg
        obtain ⟨e, he, hb, hei⟩ := edgeTo_iff.1 hej
        have hgv : ε g = lv acc g := by rw [← hei]; exact hacc _ (c1 o' hk e he hb) (hd e he hb)
        exact ⟨fun _ => hA, fun h => absurd (hgv.trans hg) h⟩
    · have hmem : ∀ s, (k, s) ∈ (j, skE hdd) :: r' → (k, s) ∈ r' := fun s h => by
        rcases List.mem_cons.1 h with h | h
        · injection h with h _; exact absurd h.symm e
        · exact h
      have hSj : S j = true := by
        have := reach_spec (mark_closed hc hk hd) 8 k j (c3 hsv _ (hmem s hs) hsa) (by simp [mark])
        simpa [mark, e] using this
      rcases hsh with ⟨_, x, hC, hx, hsh⟩ | ⟨h, _⟩
      rotate_left
      · rw [hSj] at h; cases h
      refine (sh_step okG hk hc hSk hd hρ hst (nx x) r' (j :: dn) ((j, u x) :: acc) _ _ (hn x hC) c4 ?_ ⟨s, hmem s hs, hsa⟩ (fun s h => hall s (List.mem_cons_of_mem _ h)) hsh).mono ?_ ?_
      · intro i hi hSi
        rw [lv_cons]
        by_cases hji : j = i
        · subst hji; rw [if_pos rfl]; exact hx
        · rw [if_neg hji]
          rcases List.mem_cons.1 hi with rfl | hi
          · exact absurd rfl hji
          · exact hacc i hi hSi
      · intro h
        refine h.mono fun v w' ⟨Lx', h1, h2⟩ => ⟨Lx', .inl ⟨by simp [mark, hSj], x, hC, by simp [upd, e, hx], h1⟩, h2⟩
      · intro h
        exact .inl ⟨by simp [mark, hSj], x, hC, by simp [upd, e, hx], h⟩
  | .alo j nx, sk, dn, acc, L, Hn, ho, hchk, hacc, ⟨s, hs, hsa⟩, hall, hsh => by
    obtain ⟨r', rfl, hn⟩ := ho
    obtain ⟨c1, c2, c3, c4⟩ := skChk_spec hchk
    by_cases e : j = k
    · subst e
      have := hall Sk.a (by simp)
      cases this
    · have hmem : ∀ s, (k, s) ∈ (j, Sk.a) :: r' → (k, s) ∈ r' := fun s h => by
        rcases List.mem_cons.1 h with h | h
        · injection h with h _; exact absurd h.symm e
        · exact h
      have hSj : S j = true := by
        have := reach_spec (mark_closed hc hk hd) 8 k j (c3 rfl _ (hmem s hs) hsa) (by simp [mark])
        simpa [mark, e] using this
      rcases hsh with ⟨_, x, hx, hsh⟩ | ⟨h, _⟩
      rotate_left
      · rw [hSj] at h; cases h
      refine (sh_step okG hk hc hSk hd hρ hst (nx x) r' (j :: dn) ((j, .pointer (some ⟨x, 0, none⟩)) :: acc) _ _ (hn x) c4 ?_ ⟨s, hmem s hs, hsa⟩ (fun s h => hall s (List.mem_cons_of_mem _ h)) hsh).mono ?_ ?_
      · intro i hi hSi
        rw [lv_cons]
        by_cases hji : j = i
        · subst hji; rw [if_pos rfl]; exact hx
        · rw [if_neg hji]
          rcases List.mem_cons.1 hi with rfl | hi
          · exact absurd rfl hji
          · exact hacc i hi hSi
      · intro h
        refine h.mono fun v w' ⟨Lx', h1, h2⟩ => ⟨Lx', .inl ⟨by simp [mark, hSj], x, by simp [upd, e, hx], h1⟩, h2⟩
      · intro h
        exact .inl ⟨by simp [mark, hSj], x, by simp [upd, e, hx], h⟩

theorem front_add {S : Nat → Bool} {ε : Nat → Value} {k b : Nat} {Lx L : HL} {ks : List Nat} (hn : ks.Nodup) (hk : k ∈ ks) (hSk : S k = false) (h : Front P l ks L S ε Lx) : Front P l ks L (mark S k) (upd ε k (.pointer (some ⟨b, 0, none⟩))) ((b, al P l k) :: Lx) := by
  obtain ⟨bs, h1, hp⟩ := h
  refine ⟨fun i => if i = k then b else bs i, fun i hi hm => ?_, ?_⟩
  · by_cases e : i = k
    · subst e; simp [upd]
    · simp only [upd, if_neg e]
      exact h1 i hi (by simpa [mark, e] using hm)
  · have key : ∀ (ks : List Nat), ks.Nodup → k ∈ ks → ((ks.filter (mark S k)).map fun i => ((if i = k then b else bs i), al P l i)).Perm ((b, al P l k) :: (ks.filter S).map fun i => (bs i, al P l i)) := by
      intro ks
      induction ks with
      | nil => intro _ h; simp at h
      | cons i r ih =>
        intro hn hm
        rw [List.nodup_cons] at hn
        by_cases e : i = k
        · subst e
          have h1 : ∀ j ∈ r, j ≠ i := fun j hj e => hn.1 (by rw [← e]; exact hj)
          have e1 : r.filter (mark S i) = r.filter S := List.filter_congr fun j hj => by simp [mark, h1 j hj]
          simp only [List.filter_cons, hSk, Bool.false_eq_true, if_false]
          rw [if_pos (by simp [mark]), e1, List.map_cons, if_pos rfl]
          refine List.Perm.cons _ (List.Perm.of_eq (List.map_congr_left fun j hj => ?_))
          rw [if_neg (h1 j (List.mem_filter.1 hj).1)]
        · have hm' : k ∈ r := by
            rcases List.mem_cons.1 hm with h | h
            · exact absurd h.symm e
            · exact h
          have := ih hn.2 hm'
          have em : mark S k i = S i := by simp [mark, e]
          simp only [List.filter_cons, em]
          cases hS : S i with
          | false => simpa using this
          | true =>
            simp only [if_true, List.map_cons, if_neg e]
            exact (this.cons _).trans (List.Perm.swap ..)
    exact (hp.cons _).trans (List.perm_middle.symm.trans ((key ks hn hk).symm.append_left L))

theorem sh_alo {S : Nat → Bool} {ε : Nat → Value} {k b : Nat} {Lx : HL} (hc : Closed l.toArray S) (hSk : S k = false) : ∀ (pl : Pl) (sk : SkL) (dn : List Nat) (acc : Fr) (L Hn : HL), Ok P l fr w0 X fin pl sk acc L Hn → skChk l dn sk = true → k ∈ alos sk → (alos sk).Nodup → Sh P l S ε Lx pl sk L Hn →
    Sh P l (mark S k) (upd ε k (.pointer (some ⟨b, 0, none⟩))) ((b, al P l k) :: Lx) pl sk L Hn
  | .fin, sk, dn, acc, L, Hn, ho, _, hk, _, _ => by
    obtain ⟨rfl, _⟩ := ho
    simp [alos] at hk
  | .val j u nx, sk, dn, acc, L, Hn, ho, hchk, hk, hnd, hsh => by
    obtain ⟨s', r', o', rfl, hsa', hr, hj, hv, hn⟩ := ho
    obtain ⟨c1, c2, c3, c4⟩ := skChk_spec hchk
    have hal : alos ((j, s') :: r') = alos r' := by cases s' <;> first | rfl | cases hsa'
    rw [hal] at hk hnd
    have e : k ≠ j := c2 (k, Sk.a) (sh_congr.mem_alos r' hk)
    refine ⟨fun hm => ?_, sh_alo hc hSk nx r' (j :: dn) _ L Hn hn c4 hk hnd hsh.2⟩
    have hm' : S j = true := by simpa [mark, Ne.symm e] using hm
    simp only [upd, if_neg (Ne.symm e)]
    exact hsh.1 hm'
  | .eff j hdd cc α C u N M nx, sk, dn, acc, L, Hn, ho, hchk, hk, hnd, hsh => by
    obtain ⟨r', o', rfl, hj, hg, hne, hpm, hO, hn⟩ := ho
    obtain ⟨c1, c2, c3, c4⟩ := skChk_spec hchk
    have hal : alos ((j, skE hdd) :: r') = alos r' := by cases hdd <;> rfl
    have hk' := hk
    have hnd' := hnd
    rw [hal] at hk' hnd'
    have e : k ≠ j := c2 (k, Sk.a) (sh_congr.mem_alos r' hk')
    rcases hsh with ⟨hS, x, hC, hx, hsh⟩ | ⟨hS, hf⟩
    · exact .inl ⟨by simp [mark, hS], x, hC, by simp [upd, Ne.symm e, hx], sh_alo hc hSk (nx x) r' (j :: dn) _ _ _ (hn x hC) c4 hk' hnd' hsh⟩
    · exact .inr ⟨by simp [mark, Ne.symm e, hS], front_add hnd hk hSk hf⟩
  | .alo j nx, sk, dn, acc, L, Hn, ho, hchk, hk, hnd, hsh => by
    obtain ⟨r', rfl, hn⟩ := ho
    obtain ⟨c1, c2, c3, c4⟩ := skChk_spec hchk
    have hal : alos ((j, Sk.a) :: r') = j :: alos r' := rfl
    have hnd' := hnd
    rw [hal, List.nodup_cons] at hnd'
    by_cases e : k = j
    · subst e
      rcases hsh with ⟨hS, _⟩ | ⟨_, bs, h1, hp⟩
      · rw [hSk] at hS; cases hS
      refine .inl ⟨by simp [mark], b, by simp [upd], sh_fresh (nx b) r' _ _ _ (hn b) (fun p hp ha => ?_) ⟨bs, fun i hi hSi => ?_, ?_⟩⟩
      · have hne := c2 p hp
        have hreach := c3 rfl p hp ha
        simp only [mark, hne, decide_false, Bool.false_or]
        cases hSp : S p.1 with
        | false => rfl
        | true =>
          have := reach_spec hc 8 p.1 k hreach hSp
          rw [hSk] at this; cases this
      · have : i ≠ k := c2 (i, Sk.a) (sh_congr.mem_alos r' hi)
        simp only [mark, upd, this, decide_false, Bool.false_or, if_false] at hSi ⊢
        exact h1 i (by rw [hal]; exact List.mem_cons_of_mem _ hi) hSi
      · have e1 : (alos r').filter (mark S k) = (alos r').filter S := List.filter_congr fun i hi => by
          have : i ≠ k := c2 (i, Sk.a) (sh_congr.mem_alos r' hi)
          simp [mark, this]
        rw [hal] at hp
        simp only [List.filter_cons, hSk, Bool.false_eq_true, if_false] at hp
        rw [e1, List.cons_append, List.cons_append]
        exact hp.cons _
    · have hk' : k ∈ alos r' := by
        rw [hal] at hk
        rcases List.mem_cons.1 hk with h | h
        · exact absurd h e
        · exact h
      rcases hsh with ⟨hS, x, hx, hsh⟩ | ⟨hS, hf⟩
      · exact .inl ⟨by simp [mark, hS], x, by simp [upd, Ne.symm e, hx], sh_alo hc hSk (nx x) r' (j :: dn) _ _ _ (hn x) c4 hk' hnd'.2 hsh⟩
      · exact .inr ⟨by simp [mark, Ne.symm e, hS], front_add hnd hk hSk hf⟩

theorem sh_fin {S : Nat → Bool} {ε : Nat → Value} {Lx : HL} : ∀ (pl : Pl) (sk : SkL) (dn : List Nat) (acc : Fr) (L Hn : HL), Ok P l fr w0 X fin pl sk acc L Hn → (∀ p ∈ sk, S p.1 = true) → (∀ j ∈ dn, ε j = lv acc j) → Sh P l S ε Lx pl sk L Hn → ∃ acc' L', fin acc' L' ∧ Lx.Perm L' ∧ (∀ j ∈ dn, ε j = lv acc' j) ∧ ∀ p ∈ sk, ε p.1 = lv acc' p.1
  | .fin, sk, dn, acc, L, Hn, ho, _, hacc, hsh => by
    obtain ⟨rfl, hf⟩ := ho
    exact ⟨acc, L ++ Hn, hf, hsh, hacc, by simp⟩
  | .val j u nx, sk, dn, acc, L, Hn, ho, hS, hacc, hsh => by
    obtain ⟨s', r', o', rfl, hsa', hr, hj, hv, hn⟩ := ho
    have hj' := hsh.1 (hS (j, s') (by simp))
    obtain ⟨acc', L', h1, h2, h3, h4⟩ := sh_fin nx r' (j :: dn) _ L Hn hn (fun p hp => hS p (List.mem_cons_of_mem _ hp)) (fun i hi => by
      rw [lv_cons]
      by_cases e : j = i
      · subst e; rw [if_pos rfl]; exact hj'
      · rw [if_neg e]
        rcases List.mem_cons.1 hi with h | h
        · exact absurd h.symm e
        · exact hacc i h) hsh.2
    refine ⟨acc', L', h1, h2, fun i hi => h3 i (List.mem_cons_of_mem _ hi), fun p hp => ?_⟩
    rcases List.mem_cons.1 hp with rfl | hp
    · exact h3 _ (by simp)
    · exact h4 p hp
  | .eff j hdd cc α C u N M nx, sk, dn, acc, L, Hn, ho, hS, hacc, hsh => by
    obtain ⟨r', o', rfl, hj, hg, hne, hpm, hO, hn⟩ := ho
    rcases hsh with ⟨_, x, hC, hj', hsh⟩ | ⟨h, _⟩
    rotate_left
    · have := hS (j, skE hdd) (by simp); simp only at this; rw [this] at h; cases h
    obtain ⟨acc', L', h1, h2, h3, h4⟩ := sh_fin (nx x) r' (j :: dn) _ _ _ (hn x hC) (fun p hp => hS p (List.mem_cons_of_mem _ hp)) (fun i hi => by
      rw [lv_cons]
      by_cases e : j = i
      · subst e; rw [if_pos rfl]; exact hj'
      · rw [if_neg e]
        rcases List.mem_cons.1 hi with h | h
        · exact absurd h.symm e
        · exact hacc i h) hsh
    refine ⟨acc', L', h1, h2, fun i hi => h3 i (List.mem_cons_of_mem _ hi), fun p hp => ?_⟩
    rcases List.mem_cons.1 hp with rfl | hp
    · exact h3 _ (by simp)
    · exact h4 p hp
  | .alo j nx, sk, dn, acc, L, Hn, ho, hS, hacc, hsh => by
    obtain ⟨r', rfl, hn⟩ := ho
    rcases hsh with ⟨_, x, hj', hsh⟩ | ⟨h, _⟩
    rotate_left
    · have := hS (j, Sk.a) (by simp); simp only at this; rw [this] at h; cases h
    obtain ⟨acc', L', h1, h2, h3, h4⟩ := sh_fin (nx x) r' (j :: dn) _ _ _ (hn x) (fun p hp => hS p (List.mem_cons_of_mem _ hp)) (fun i hi => by
      rw [lv_cons]
      by_cases e : j = i
      · subst e; rw [if_pos rfl]; exact hj'
      · rw [if_neg e]
        rcases List.mem_cons.1 hi with h | h
        · exact absurd h.symm e
        · exact hacc i h) hsh
    refine ⟨acc', L', h1, h2, fun i hi => h3 i (List.mem_cons_of_mem _ hi), fun p hp => ?_⟩
    rcases List.mem_cons.1 hp with rfl | hp
    · exact h3 _ (by simp)
    · exact h4 p hp

def aloOk (P : Program) (l : List Oper) (ks : List Nat) : Bool := ks.all fun k => match l[k]? with
  | some ⟨_, .alloc t, _, _, _, none⟩ => match P.info? t with
    | some i => i.zero.isSome
    | none => false
  | _ => false
theorem aloOk_spec {ks : List Nat} {k : Nat} (h : aloOk P l ks = true) (hk : k ∈ ks) : ∃ o, l[k]? = some o ∧ o.op = .alloc (tof l k) ∧ o.guard = none ∧ ∃ z, CZ P (tof l k) z := by
  have := List.all_eq_true.1 h k hk
  split at this
  · rename_i t _ _ _ ho
    have ht : tof l k = t := by simp [tof, ho]
    refine ⟨_, ho, by rw [ht], rfl, ?_⟩
    rw [ht]
    split at this
    · rename_i i hi
      obtain ⟨v, hv⟩ := Option.isSome_iff_exists.1 this
      exact ⟨v.cells.toList, ⟨⟨v, by simp, fun w => by simp [zeroValue, typeInfo, hi, hv]⟩⟩⟩
    · cases this
  · cases this

theorem skChk_uniq : ∀ (sk : SkL) (dn : List Nat), skChk l dn sk = true → ∀ (k : Nat) (s s' : Sk), (k, s) ∈ sk → (k, s') ∈ sk → s = s'
  | [], _, _, _, _, _, h, _ => by simp at h
  | (j, t) :: r, dn, hchk, k, s, s', h, h' => by
    obtain ⟨_, c2, _, c4⟩ := skChk_spec hchk
    rcases List.mem_cons.1 h with h | h <;> rcases List.mem_cons.1 h' with h' | h'
    · injection h with _ h; injection h' with _ h'; rw [h, h']
    · injection h with h _; exact absurd h (c2 _ h')
    · injection h' with h' _; exact absurd h' (c2 _ h)
    · exact skChk_uniq r _ c4 k s s' h h'
theorem skChk_nodup : ∀ (sk : SkL) (dn : List Nat), skChk l dn sk = true → (alos sk).Nodup
  | [], _, _ => by simp [alos]
  | (j, t) :: r, dn, hchk => by
    obtain ⟨_, c2, _, c4⟩ := skChk_spec hchk
    have ih := skChk_nodup r _ c4
    cases t with
    | a =>
      simp only [alos, List.nodup_cons]
      exact ⟨fun h => c2 _ (sh_congr.mem_alos r h) rfl, ih⟩
    | _ => simpa [alos] using ih

theorem mem_alos_of {k : Nat} : ∀ (sk : SkL), (k, Sk.a) ∈ sk → k ∈ alos sk
  | [], h => by simp at h
  | (j, t) :: r, h => by
    rcases List.mem_cons.1 h with h | h
    · injection h with h1 h2
      subst h1 h2
      simp [alos]
    · have := mem_alos_of r h
      cases t <;> simp [alos, this]

def covers (n0 : Nat) (sk : SkL) : Bool := ((List.range n0).all fun k => sk.any fun p => Nat.beq k p.1) && sk.all fun p => Nat.blt p.1 n0

def DW (P : Program) (l : List Oper) (fr : Fr) (w0 : World) (X : List Nat) (fin : Fr → HL → Prop) (sk : SkL) (acc : Fr) (L : HL) (Hn : HL := []) : Prop := ∃ pl, Ok P l fr w0 X fin pl sk acc L Hn
def finW (P : Program) (r : Option Nat) (l : List Oper) (n0 : Nat) (Q : Exit → Act → World → Prop) (nt : Nat) (D : List Deferred) (fr : Fr) (w0 : World) (X : List Nat) (acc : Fr) (L : HL) : Prop := TL P r l.toArray Q nt D (l.drop n0) (frAll l.toArray (lv acc) fr n0) (St w0 X L)

theorem t_drawWH {id : Nat} {L Hn : HL} (n0 : Nat) (sk : SkL) (h : DW P l fr w0 X (finW P r l n0 Q nt D fr w0 X) sk [] L Hn) (hn0 : Nat.ble n0 l.length = true) (ht : tailOk l n0 = true) (hck : skChk l [] sk = true) (hcv : covers n0 sk = true) (hal : aloOk P l (alos sk) = true) (hm : P.follows .mixedOrders = true) (ok : regionOk l = true) (hs : okSlots nt l = true) :
    T P r (.region id l.toArray true) Q nt D fr (St w0 X (L ++ Hn)) := by
  obtain ⟨pl, hpl⟩ := h
  have hn0' : n0 ≤ l.length := by simpa [Nat.ble_eq] using hn0
  have okG : okGuards l.toArray l = true := by
    simp only [regionOk, Bool.and_eq_true] at ok
    exact ok.1.2
  have hcov : ∀ k, k < n0 → ∃ s, (k, s) ∈ sk := by
    intro k hk
    simp only [covers, Bool.and_eq_true, List.all_eq_true, List.mem_range, List.any_eq_true] at hcv
    obtain ⟨p, hp, he⟩ := hcv.1 k hk
    rw [Nat.beq_eq] at he
    exact ⟨p.2, by rw [he]; exact hp⟩
  have hlt : ∀ p ∈ sk, p.1 < n0 := by
    intro p hp
    simp only [covers, Bool.and_eq_true, List.all_eq_true] at hcv
    simpa [Nat.blt_eq] using hcv.2 p hp
  have hfront : Front P l (alos sk) (L ++ Hn) (fun _ => false) (fun _ => undef) (L ++ Hn) := ⟨fun _ => 0, fun k _ (h : false = true) => Bool.noConfusion h, by
    have e0 : (alos sk).filter (fun _ => false) = [] := List.filter_eq_nil_iff.2 (by simp)
    rw [e0]; simp⟩
  refine t_drawG n0 (J := fun S ε w => ∃ Lx, Sh P l S ε Lx pl sk L Hn ∧ St w0 X Lx w) hn0' ht hm ok hs (fun w n hw => ⟨L ++ Hn, sh_fresh pl sk _ L Hn hpl (fun _ _ _ => rfl) hfront, hw.drew n⟩) ?_ ?_
  · intro k o hk ho S ε hc hSk hd
    obtain ⟨s, hks⟩ := hcov k hk
    cases hsa : s.isA with
    | false =>
      have step : ∀ (ρ : Operand → Value) (w : World), (∀ x v, fev (frk l.toArray ε fr o.after.toList) x = some v → ρ x = v) → ∀ Lx, Sh P l S ε Lx pl sk L Hn → St w0 X Lx w → _ := fun ρ w hρ Lx hsh hst =>
        sh_step okG ho hc hSk hd hρ hst pl sk [] [] L Hn hpl hck (by simp) ⟨s, hks, hsa⟩ (fun s' h' => by rw [skChk_uniq sk [] hck k s' s h' hks]; exact hsa) hsh
      unfold Cn at step
      cases hg : o.guard with
      | none =>
        simp only [hg] at step
        intro ρ w hρ ⟨Lx, hsh, hst⟩
        exact step ρ w hρ Lx hsh hst
      | some q =>
        obtain ⟨g, want⟩ := q
        simp only [hg] at step
        refine ⟨fun hy ρ w hρ ⟨Lx, hsh, hst⟩ => (step ρ w hρ Lx hsh hst).1 hy, fun hne w ⟨Lx, hsh, hst⟩ => ?_⟩
        classical
        have := (step (fun x => (fev (frk l.toArray ε fr o.after.toList) x).getD undef) w (fun x v hx => by simp [hx]) Lx hsh hst).2 hne
        exact ⟨Lx, this, hst⟩
    | true =>
      have hka : k ∈ alos sk := by
        have : s = .a := by cases s <;> first | rfl | cases hsa
        subst this
        exact mem_alos_of sk hks
      obtain ⟨o', ho', hop, hg, z, hz⟩ := aloOk_spec hal hka
      have : o' = o := by rw [ho] at ho'; injection ho' with h; exact h.symm
      subst this
      rw [hg]
      intro ρ w hρ ⟨Lx, hsh, hst⟩
      obtain ⟨dst, op, ty, pos, af, g⟩ := o'
      simp only at hop hg
      subst hop hg
      refine (o_alloc (P := P) (fr := frk l.toArray ε fr af.toList) (w0 := w0) (X := X) (L := Lx) (t := tof l k) (z := z) ρ w hρ hst).mono ?_
      rintro v w' ⟨b, rfl, h'⟩
      refine ⟨(b, al P l k) :: Lx, sh_alo hc hSk pl sk [] _ L Hn hpl hck hka (skChk_nodup sk [] hck) hsh, ?_⟩
      unfold al
      rw [zof_eq hz w]
      exact h'
  · intro ε a w ha ⟨Lx, hsh, hst⟩
    obtain ⟨acc', L', hf, hp, _, hv⟩ := sh_fin pl sk [] [] L Hn hpl (fun p hp => by simpa using hlt p hp) (by simp) hsh
    have : frAll l.toArray ε fr n0 = frAll l.toArray (lv acc') fr n0 := frAll_congr _ fun i hi => by
      obtain ⟨s, hs⟩ := hcov i hi
      exact hv _ hs
    rw [this] at ha
    exact hf a w ha (hst.perm hp)

theorem t_drawW {id : Nat} {L : HL} (n0 : Nat) (sk : SkL) (h : DW P l fr w0 X (finW P r l n0 Q nt D fr w0 X) sk [] L) (hn0 : Nat.ble n0 l.length = true) (ht : tailOk l n0 = true) (hck : skChk l [] sk = true) (hcv : covers n0 sk = true) (hal : aloOk P l (alos sk) = true) (hm : P.follows .mixedOrders = true) (ok : regionOk l = true) (hs : okSlots nt l = true) :
    T P r (.region id l.toArray true) Q nt D fr (St w0 X L) := by
  have := t_drawWH (id := id) n0 sk h hn0 ht hck hcv hal hm ok hs
  rwa [List.append_nil] at this

/-! ### one by one -/
def DW1 (P : Program) (l : List Oper) (fr : Fr) (w0 : World) (X : List Nat) (fin : Fr → HL → Prop) (k : Nat) (s : Sk) (o : Oper) (sk : SkL) (acc : Fr) (L : HL) (Hn : HL := []) : Prop := l[k]? = some o → DW P l fr w0 X fin ((k, s) :: sk) acc L Hn
variable {k j : Nat} {s : Sk} {o : Oper} {sk : SkL} {acc : Fr} {L Hn : HL} {d : Option Tmp} {op : Op} {ty : TypeId} {pos : String} {af : Array Edge} {u : Value} {want b : Bool} {g : Option (Nat × Bool)}
theorem dw_open (ho : l[k]? = some o) (h : DW1 P l fr w0 X fin k s o sk acc L Hn) : DW P l fr w0 X fin ((k, s) :: sk) acc L Hn := h ho
theorem dw_op (hs : s.isA = false) (hh : hdF sk = true) (h : ∀ L', O P ⟨d, op, ty, pos, af, none⟩ (frk l.toArray (lv acc) fr af.toList) (St w0 X (L ++ L')) (fun v w => v = u ∧ St w0 X (L ++ L') w)) (hr : DW P l fr w0 X fin sk ((k, u) :: acc) L Hn) : DW1 P l fr w0 X fin k s ⟨d, op, ty, pos, af, none⟩ sk acc L Hn := fun ho => by
  obtain ⟨pl, hp⟩ := hr
  exact ⟨.val k u pl, s, sk, _, rfl, hs, hh, ho, h, hp⟩
theorem dw_yes (hj : lv acc j = .bool want) (hs : s.isA = false) (hh : hdF sk = true) (h : ∀ L', O P ⟨d, op, ty, pos, af, some (j, want)⟩ (frk l.toArray (lv acc) fr af.toList) (St w0 X (L ++ L')) (fun v w => v = u ∧ St w0 X (L ++ L') w)) (hr : DW P l fr w0 X fin sk ((k, u) :: acc) L Hn) : DW1 P l fr w0 X fin k s ⟨d, op, ty, pos, af, some (j, want)⟩ sk acc L Hn := fun ho => by
  obtain ⟨pl, hp⟩ := hr
  exact ⟨.val k u pl, s, sk, _, rfl, hs, hh, ho, .inl ⟨hj, h⟩, hp⟩
theorem dw_no (hj : lv acc j = .bool b) (hb : (b == want) = false) (hs : s.isA = false) (hh : hdF sk = true) (hr : DW P l fr w0 X fin sk ((k, undef) :: acc) L Hn) : DW1 P l fr w0 X fin k s ⟨d, op, ty, pos, af, some (j, want)⟩ sk acc L Hn := fun ho => by
  obtain ⟨pl, hp⟩ := hr
  exact ⟨.val k undef pl, s, sk, _, rfl, hs, hh, ho, .inr ⟨by rw [hj]; intro e; injection e with e; subst e; simp at hb, rfl⟩, hp⟩
theorem dw_undef (hj : lv acc j = undef) (hs : s.isA = false) (hh : hdF sk = true) (hr : DW P l fr w0 X fin sk ((k, undef) :: acc) L Hn) : DW1 P l fr w0 X fin k s ⟨d, op, ty, pos, af, some (j, want)⟩ sk acc L Hn := fun ho => by
  obtain ⟨pl, hp⟩ := hr
  exact ⟨.val k undef pl, s, sk, _, rfl, hs, hh, ho, .inr ⟨by rw [hj]; intro e; simp [undef] at e, rfl⟩, hp⟩
theorem dw_alo {t : TypeId} {z : List Value} [hz : CZ P t z] (h : ∀ b, DW P l fr w0 X fin sk ((k, .pointer (some ⟨b, 0, none⟩)) :: acc) ((b, bx z t) :: L) Hn) : DW1 P l fr w0 X fin k .a ⟨d, .alloc t, ty, pos, af, none⟩ sk acc L Hn := fun ho => by
  have ht : tof l k = t := by simp [tof, ho]
  have e : al P l k = bx z t := by unfold al; rw [ht, zof_eq hz w0]
  classical
  refine ⟨.alo k fun b => (h b).choose, sk, rfl, fun b => ?_⟩
  rw [e]
  exact (h b).choose_spec
/-- what makes memory -/
theorem dw_eff {α : Type} (C : α → Prop) (u : α → Value) (N M : α → HL) (hh : hdF sk = true) (hg : GOk ⟨d, op, ty, pos, af, g⟩ acc) (hO : ∀ L', O P ⟨d, op, ty, pos, af, g⟩ (frk l.toArray (lv acc) fr af.toList) (St w0 X (L ++ L')) (fun v w => ∃ x, C x ∧ v = u x ∧ St w0 X (M x ++ L') w)) (hpm : ∀ x, C x → (M x).Perm (N x ++ L)) (h : ∀ x, C x → DW P l fr w0 X fin sk ((k, u x) :: acc) (M x) Hn) : DW1 P l fr w0 X fin k .e ⟨d, op, ty, pos, af, g⟩ sk acc L Hn := fun ho => by
  have h' : ∀ x, ∃ pl, C x → Ok P l fr w0 X fin pl sk ((k, u x) :: acc) (M x) Hn := fun x => by
    by_cases hx : C x
    · obtain ⟨pl, hp⟩ := h x hx
      exact ⟨pl, fun _ => hp⟩
    · exact ⟨.fin, fun hc => absurd hc hx⟩
  obtain ⟨f, hf⟩ := Classical.axiomOfChoice h'
  exact ⟨.eff k false false α C u N M f, sk, _, rfl, ho, hg, .inl hh, hpm, fun L' => by simpa [hidy] using hO L', hf⟩
/-- what makes memory, of which the newest block is turned next -/
theorem dw_effN {α : Type} (C : α → Prop) (u : α → Value) (N : α → HL) (hN : ∀ x, N x ≠ []) (hg : GOk ⟨d, op, ty, pos, af, g⟩ acc) (hO : ∀ L', O P ⟨d, op, ty, pos, af, g⟩ (frk l.toArray (lv acc) fr af.toList) (St w0 X (L ++ L')) (fun v w => ∃ x, C x ∧ v = u x ∧ St w0 X (N x ++ (L ++ L')) w)) (h : ∀ x, C x → DW P l fr w0 X fin sk ((k, u x) :: acc) (N x ++ L) Hn) : DW1 P l fr w0 X fin k .e ⟨d, op, ty, pos, af, g⟩ sk acc L Hn := fun ho => by
  have h' : ∀ x, ∃ pl, C x → Ok P l fr w0 X fin pl sk ((k, u x) :: acc) (N x ++ L) Hn := fun x => by
    by_cases hx : C x
    · obtain ⟨pl, hp⟩ := h x hx
      exact ⟨pl, fun _ => hp⟩
    · exact ⟨.fin, fun hc => absurd hc hx⟩
  obtain ⟨f, hf⟩ := Classical.axiomOfChoice h'
  exact ⟨.eff k false false α C u N (fun x => N x ++ L) f, sk, _, rfl, ho, hg, .inr fun x _ => ⟨hN x, rfl⟩, fun x _ => List.Perm.refl _, fun L' => by
    have := (hO L').mono fun v w ⟨x, h0, h1, h2⟩ => (⟨x, h0, h1, by rw [List.append_assoc]; exact h2⟩ : ∃ x, C x ∧ v = u x ∧ St w0 X (N x ++ L ++ L') w)
    simpa [hidy] using this, hf⟩
/-- what turns the newest block -/
theorem dw_hd {α : Type} {p : Nat × (Obj → Prop)} (C : α → Prop) (u : α → Value) (N : α → HL) (hN : ∀ x, N x ≠ []) (hg : GOk ⟨d, op, ty, pos, af, g⟩ acc) (hO : ∀ L', O P ⟨d, op, ty, pos, af, g⟩ (frk l.toArray (lv acc) fr af.toList) (St w0 X (p :: L ++ L')) (fun v w => ∃ x, C x ∧ v = u x ∧ St w0 X (N x ++ (L ++ L')) w)) (h : ∀ x, C x → DW P l fr w0 X fin sk ((k, u x) :: acc) (N x ++ L) Hn) : DW1 P l fr w0 X fin k .h ⟨d, op, ty, pos, af, g⟩ sk acc (p :: L) Hn := fun ho => by
  have h' : ∀ x, ∃ pl, C x → Ok P l fr w0 X fin pl sk ((k, u x) :: acc) (N x ++ L) Hn := fun x => by
    by_cases hx : C x
    · obtain ⟨pl, hp⟩ := h x hx
      exact ⟨pl, fun _ => hp⟩
    · exact ⟨.fin, fun hc => absurd hc hx⟩
  obtain ⟨f, hf⟩ := Classical.axiomOfChoice h'
  exact ⟨.eff k true false α C u N (fun x => N x ++ L) f, sk, _, rfl, ho, hg, .inr fun x _ => ⟨hN x, rfl⟩, fun x _ => List.Perm.refl _, fun L' => by
    have := (hO L').mono fun v w ⟨x, h0, h1, h2⟩ => (⟨x, h0, h1, by rw [List.append_assoc]; exact h2⟩ : ∃ x, C x ∧ v = u x ∧ St w0 X (N x ++ L ++ L') w)
    simpa [hidy] using this, hf⟩

/-- what turns the newest block, and the blocks that were kept apart -/
theorem dw_hdH {α : Type} {p : Nat × (Obj → Prop)} (C : α → Prop) (u : α → Value) (N : α → HL) (hh : hdF sk = true) (hg : GOk ⟨d, op, ty, pos, af, g⟩ acc) (hO : ∀ L', O P ⟨d, op, ty, pos, af, g⟩ (frk l.toArray (lv acc) fr af.toList) (St w0 X (p :: L ++ Hn ++ L')) (fun v w => ∃ x, C x ∧ v = u x ∧ St w0 X (N x ++ L ++ L') w)) (h : ∀ x, C x → DW P l fr w0 X fin sk ((k, u x) :: acc) (N x ++ L)) : DW1 P l fr w0 X fin k .h ⟨d, op, ty, pos, af, g⟩ sk acc (p :: L) Hn := fun ho => by
  have h' : ∀ x, ∃ pl, C x → Ok P l fr w0 X fin pl sk ((k, u x) :: acc) (N x ++ L) [] := fun x => by
    by_cases hx : C x
    · obtain ⟨pl, hp⟩ := h x hx
      exact ⟨pl, fun _ => hp⟩
    · exact ⟨.fin, fun hc => absurd hc hx⟩
  obtain ⟨f, hf⟩ := Classical.axiomOfChoice h'
  exact ⟨.eff k true true α C u N (fun x => N x ++ L) f, sk, _, rfl, ho, hg, .inl hh, fun x _ => List.Perm.refl _, hO, hf⟩

/-! ### what is kept of a frame -/
def keep (fr : Fr) : List Nat → Option Fr
  | [] => some []
  | t :: ts => match flook fr t with
    | none => none
    | some v => match keep fr ts with
      | none => none
      | some q => some ((t, v) :: q)
theorem keep_fle {fr : Fr} : ∀ (ts : List Nat) (fr' : Fr), keep fr ts = some fr' → fle fr' fr
  | [], fr', h => by simp [keep] at h; subst h; trivial
  | t :: ts, fr', h => by
    simp only [keep] at h
    cases hv : flook fr t with
    | none => rw [hv] at h; cases h
    | some v =>
      rw [hv] at h
      cases hq : keep fr ts with
      | none => rw [hq] at h; cases h
      | some q =>
        rw [hq] at h
        injection h with h
        subst h
        exact ⟨hv, keep_fle ts q hq⟩
def slotAt (ops : Array Oper) : Nat → Nat → Option Nat
  | 0, _ => none
  | n + 1, t => match dstOf ops n with
    | some t' => bif Nat.beq t' t then some n else slotAt ops n t
    | none => slotAt ops n t
def lookR (ops : Array Oper) (acc fr : Fr) (n0 t : Nat) : Option Value := match slotAt ops n0 t with
  | some i => flook acc i
  | none => flook fr t
def keepR (ops : Array Oper) (acc fr : Fr) (n0 : Nat) : List Nat → Option Fr
  | [] => some []
  | t :: ts => match lookR ops acc fr n0 t with
    | none => none
    | some v => match keepR ops acc fr n0 ts with
      | none => none
      | some q => some ((t, v) :: q)
theorem lookR_spec {ops : Array Oper} {acc fr : Fr} {t : Nat} {v : Value} : ∀ (n0 : Nat), lookR ops acc fr n0 t = some v → flook (frAll ops (lv acc) fr n0) t = some v
  | 0, h => h
  | n + 1, h => by
    unfold lookR at h
    simp only [slotAt] at h
    simp only [frAll]
    cases hd : dstOf ops n with
    | none =>
      rw [hd] at h
      exact lookR_spec n h
    | some t' =>
      rw [hd] at h
      simp only at h ⊢
      rw [flook_cons]
      by_cases e : t' = t
      · subst e
        simp only [Nat.beq_refl, cond_true] at h
        rw [if_pos rfl, lv, h]; rfl
      · have : Nat.beq t' t = false := by rw [← Bool.not_eq_true, Nat.beq_eq]; exact e
        rw [this] at h
        rw [if_neg e]
        exact lookR_spec n h
theorem keepR_fle {ops : Array Oper} {acc fr : Fr} {n0 : Nat} : ∀ (ts : List Nat) (fr' : Fr), keepR ops acc fr n0 ts = some fr' → fle fr' (frAll ops (lv acc) fr n0)
  | [], fr', h => by simp [keepR] at h; subst h; trivial
  | t :: ts, fr', h => by
    simp only [keepR] at h
    cases hv : lookR ops acc fr n0 t with
    | none => rw [hv] at h; cases h
    | some v =>
      rw [hv] at h
      cases hq : keepR ops acc fr n0 ts with
      | none => rw [hq] at h; cases h
      | some q =>
        rw [hq] at h
        injection h with h
        subst h
        exact ⟨lookR_spec n0 hv, keepR_fle ts q hq⟩
theorem dw_end {n0 : Nat} (ts : List Nat) {fr' : Fr} {rest : List Oper} (hk : keepR l.toArray acc fr n0 ts = some fr') (h : TL P r l.toArray Q nt D (l.drop n0) fr' (St w0 X L)) : DW P l fr w0 X (finW P r l n0 Q nt D fr w0 X) [] acc L :=
  ⟨.fin, rfl, tl_weak (keepR_fle ts _ hk) (fun _ h => by rw [List.append_nil] at h; exact h) h⟩

end
end Go.Proofs.Ytbgolbkolcmldaa
