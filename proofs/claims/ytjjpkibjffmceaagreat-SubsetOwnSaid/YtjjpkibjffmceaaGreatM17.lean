/-
  Numbers in a line, each behind what it needs.
-/
import Derived.Test.YtjjpkibjffmceaaGreatM16
import Derived.Test.YtjjpkibjffmceaaGreatM11
namespace Go.Proofs.YtjjpkibjffmceaaGreat
def cV (n:Nat):List Int:=(List.range n).map fun (i:Nat)=>(i:Int)
theorem fG {n:Nat} {z:Int}:z∈cV n↔0≤z∧z < n:=by
 simp only [cV,List.mem_map,List.mem_range]
 constructor
 ·rintro ⟨i,hi,rfl⟩;omega
 ·rintro ⟨h0,h1⟩;exact ⟨z.toNat,by omega,by omega⟩
theorem kx (n:Nat):(cV n).Nodup:=by
 unfold cV List.Nodup
 rw [List.pairwise_map]
 exact List.nodup_range.imp fun h e=>h (by omega)
theorem fm (n:Nat):(cV n).length=n:=by simp [cV]
theorem jM {n i:Nat} (h:i < n):(cV n)[i]?=some (i:Int):=by simp [cV,h]
theorem so (n:Nat):cV (n+1)=cV n++[(n:Int)]:=by
 unfold cV
 rw [List.range_succ,List.map_append]
 rfl
def cL (pr:Int→List Int) (gs:List Int) (z:Int):List Int:=gs.flatMap fun g=>((pr g).filter fun p=>decide (p=z)).map fun _=>g
theorem lT (pr:Int→List Int) (z g:Int):∀gs:List Int,gs.Nodup→(cL pr gs z).count g=if g∈gs then (pr g).count z else 0
 | [],_=>by simp [cL]
 | y::gs,h=>by
  have h':=List.nodup_cons.1 h
  have ih:=lT pr z g gs h'.2
  unfold cL at ih ⊢
  rw [List.flatMap_cons,List.count_append,ih]
  by_cases e:y=g
  ·subst e
   rw [if_pos (List.mem_cons_self ..),if_neg h'.1,List.map_const',List.count_replicate_self,Nat.add_zero,List.count_eq_countP,List.countP_eq_length_filter]
   rfl
  ·rw [List.map_const',List.count_replicate,if_neg (by simpa using e),Nat.zero_add]
   by_cases hm:g∈gs
   ·rw [if_pos hm,if_pos (Is _ hm)]
   ·rw [if_neg hm,if_neg (by simp [hm];exact fun h=>e h.symm)]
def lN (pr:Int→List Int) (T:List Int) (g:Int):Nat:=((pr g).filter fun p=>decide (p∉T)).length
theorem qp (pr:Int→List Int) {T:List Int} {x:Int} (hx:x∉T) (g:Int):lN pr (T++[x]) g+(pr g).count x=lN pr T g:=by
 unfold lN
 induction pr g with
 | nil=>rfl
 | cons p l ih=>
  rw [List.filter_cons,List.filter_cons,List.count_cons]
  by_cases e:p=x
  ·subst e
   rw [if_neg (by simp),if_pos (decide_eq_true hx)]
   rw [if_pos (by simp),List.length_cons]
   omega
  ·have e1:decide (p∉T++[x])=decide (p∉T):=by simp [e]
   rw [e1]
   have e2:(p==x)=false:=by simpa using e
   rw [e2]
   simp only [Bool.false_eq_true,if_false]
   split
   ·simp only [List.length_cons];omega
   ·omega
theorem qq {pr:Int→List Int} {T:List Int} {g:Int}:lN pr T g=0↔∀p∈pr g,p∈T:=by
 unfold lN
 rw [List.length_eq_zero_iff,List.filter_eq_nil_iff]
 simp
def xJ (pr:Int→List Int) (T:List Int):Prop:=∀(i:Nat) (x:Int),T[i]?=some x→∀p∈pr x,p∈T.take i
theorem xJ.snoc {pr:Int→List Int} {T:List Int} {x:Int} (h:xJ pr T) (hx:∀p∈pr x,p∈T):xJ pr (T++[x]):=by
 intro i y hy p hp
 by_cases hi:i < T.length
 ·rw [List.getElem?_append_left hi] at hy
  rw [List.take_append_of_le_length (by omega)]
  exact h i y hy p hp
 ·rw [List.getElem?_append_right (by omega)] at hy
  have hil:i - T.length=0:=by
   rcases Nat.eq_zero_or_pos (i - T.length) with h0 | h0
   ·exact h0
   ·rw [List.getElem?_eq_none (by simp;omega)] at hy;cases hy
  rw [hil] at hy
  simp at hy
  subst hy
  rw [show i=T.length by omega,List.take_left]
  exact hx p hp
structure nL (n:Nat) (pr:Int→List Int) (T R:List Int) (M:Int→Int):Prop where
 nodup:(T++R).Nodup
 dom:∀z∈T++R,0≤z∧z < n
 miss:∀g:Int,0≤g→g < n→M g=lN pr T g
 ready:∀g:Int,0≤g→g < n→(g∈T++R↔M g=0)
 topo:xJ pr T
structure ra (n:Nat) (pr:Int→List Int) (T:List Int) (x:Int) (us:List Int) (R:List Int) (M:Int→Int):Prop where
 nodup:(T++[x]++R).Nodup
 dom:∀z∈T++[x]++R,0≤z∧z < n
 miss:∀g:Int,0≤g→g < n→M g+us.count g=lN pr T g
 ready:∀g:Int,0≤g→g < n→(g∈T++[x]++R↔M g=0)
 topo:xJ pr (T++[x])
theorem nL.perm {n:Nat} {pr:Int→List Int} {T R R':List Int} {M:Int→Int} (h:nL n pr T R M) (hp:R'.Perm R):nL n pr T R' M:=by
 have hp':(T++R').Perm (T++R):=List.Perm.append_left T hp
 exact ⟨hp'.nodup_iff.2 h.nodup,fun z hz=>h.dom z (hp'.mem_iff.1 hz),h.miss,fun g h0 h1=>by rw [hp'.mem_iff];exact h.ready g h0 h1,h.topo⟩
theorem ra.perm {n:Nat} {pr:Int→List Int} {T R R' us:List Int} {x:Int} {M:Int→Int} (h:ra n pr T x us R M) (hp:R'.Perm R):ra n pr T x us R' M:=by
 have hp':(T++[x]++R').Perm (T++[x]++R):=List.Perm.append_left _ hp
 exact ⟨hp'.nodup_iff.2 h.nodup,fun z hz=>h.dom z (hp'.mem_iff.1 hz),h.miss,fun g h0 h1=>by rw [hp'.mem_iff];exact h.ready g h0 h1,h.topo⟩
theorem nL.pop {n:Nat} {pr:Int→List Int} {T R:List Int} {x:Int} {M:Int→Int} (h:nL n pr T (R++[x]) M):ra n pr T x [] R M:=by
 have hp:(T++[x]++R).Perm (T++(R++[x])):=by
  rw [List.append_assoc]
  exact List.Perm.append_left T List.perm_append_comm
 have hx:=h.dom x (by simp)
 refine ⟨hp.nodup_iff.2 h.nodup,fun z hz=>h.dom z (hp.mem_iff.1 hz),fun g h0 h1=>by simpa using h.miss g h0 h1,fun g h0 h1=>by rw [hp.mem_iff];exact h.ready g h0 h1,h.topo.snoc ?_⟩
 have h1:=(h.ready x hx.1 hx.2).1 (by simp)
 rw [h.miss x hx.1 hx.2] at h1
 exact qq.1 (by omega)
theorem kA {all:List Int} {j:Nat} {u:Int} (h:all[j]?=some u) (g:Int):(all.take (j+1)).count g=(all.take j).count g+if u=g then 1 else 0:=by
 rw [List.take_add_one,h,Option.toList_some,List.count_append]
 by_cases e:u=g
 ·subst e;simp
 ·rw [if_neg e,List.count_singleton,if_neg (by simpa using e)]
theorem ra.step {n:Nat} {pr:Int→List Int} {T R all:List Int} {x u:Int} {j:Nat} {M:Int→Int} (hall:∀g:Int,0≤g→g < n→all.count g=(pr g).count x) (hx:x∉T) (h:ra n pr T x (all.take j) R M) (hu:all[j]?=some u) (h0:0≤u) (h1:u < n):
  0 < M u∧ra n pr T x (all.take (j+1)) (if M u - 1=0 then R++[u] else R) (fun g=>if g=u then M u - 1 else M g):=by
 have hm:=h.miss u h0 h1
 have hlt:(all.take (j+1)).count u≤all.count u:=(List.take_sublist _ _).count_le u
 have hsn:=qp pr hx u
 rw [kA hu,if_pos rfl,hall u h0 h1] at hlt
 have hpos:0 < M u:=by omega
 have hnot:u∉T++[x]++R:=fun hm'=>by have:=(h.ready u h0 h1).1 hm';omega
 refine ⟨hpos,?_⟩
 have hmiss:∀g:Int,0≤g→g < n→(if g=u then M u - 1 else M g)+((all.take (j+1)).count g:Int)=lN pr T g:=by
  intro g g0 g1
  rw [kA hu]
  by_cases e:g=u
  ·subst e
   rw [if_pos rfl,if_pos rfl]
   have:=h.miss g g0 g1
   omega
  ·rw [if_neg e,if_neg (fun q=>e q.symm)]
   have:=h.miss g g0 g1
   omega
 by_cases hz:M u - 1=0
 ·rw [if_pos hz]
  refine ⟨?_,fun z hz'=>?_,hmiss,fun g g0 g1=>?_,h.topo⟩
  ·rw [←List.append_assoc,List.nodup_append]
   refine ⟨h.nodup,by simp,fun a ha b hb=>?_⟩
   rw [Ik hb]
   exact fun e=>hnot (e▸ha)
  ·rw [←List.append_assoc] at hz'
   rcases Il hz' with hz' | hz'
   ·exact h.dom z hz'
   ·rw [Ik hz'];exact ⟨h0,h1⟩
  ·rw [←List.append_assoc,List.mem_append,List.mem_singleton]
   by_cases e:g=u
   ·subst e;simp [hz]
   ·rw [if_neg e,h.ready g g0 g1]
    simp [e]
 ·rw [if_neg hz]
  refine ⟨h.nodup,h.dom,hmiss,fun g g0 g1=>?_,h.topo⟩
  by_cases e:g=u
  ·subst e
   rw [if_pos rfl]
   exact ⟨fun q=>absurd q hnot,fun q=>absurd q hz⟩
  ·rw [if_neg e]
   exact h.ready g g0 g1
theorem ra.done {n:Nat} {pr:Int→List Int} {T R all:List Int} {x:Int} {M:Int→Int} (hall:∀g:Int,0≤g→g < n→all.count g=(pr g).count x) (hx:x∉T) (h:ra n pr T x all R M):nL n pr (T++[x]) R M:=by
 refine ⟨h.nodup,h.dom,fun g h0 h1=>?_,h.ready,h.topo⟩
 have h2:=h.miss g h0 h1
 have h3:=qp pr hx g
 rw [hall g h0 h1] at h2
 omega
structure ja (n:Nat) (pr:Int→List Int) (T:List Int):Prop where
 nodup:T.Nodup
 dom:∀z∈T,0≤z∧z < n
 topo:xJ pr T
 full:∀g:Int,0≤g→g < n→(∀p∈pr g,p∈T)→g∈T
theorem nL.fin {n:Nat} {pr:Int→List Int} {T:List Int} {M:Int→Int} (h:nL n pr T [] M):ja n pr T:=by
 have h1:=h.nodup
 have h2:=h.dom
 have h3:=h.ready
 rw [List.append_nil] at h1 h2 h3
 exact ⟨h1,h2,h.topo,fun g h0 h4 hp=>(h3 g h0 h4).2 (by rw [h.miss g h0 h4,qq.2 hp];rfl)⟩
theorem nL.start {n:Nat} {pr:Int→List Int} {M:Int→Int} (hM:∀g:Int,0≤g→g < n→M g=(pr g).length):nL n pr [] ((cV n).filter fun g=>decide (M g=0)) M:=by
 refine ⟨by rw [Iq];exact (kx n).filter _,fun z hz=>?_,fun g h0 h1=>?_,fun g h0 h1=>?_,fun i x h=>by simp at h⟩
 ·rw [Iq,List.mem_filter,fG] at hz
  exact hz.1
 ·rw [hM g h0 h1]
  unfold lN
  rw [List.filter_eq_self.2 (by simp)]
 ·rw [Iq,List.mem_filter,fG,decide_eq_true_eq]
  exact ⟨fun h=>h.2,fun h=>⟨⟨h0,h1⟩,h⟩⟩
def kG (n:Nat) (pr:Int→List Int):Prop:=∃r:Int→Nat,∀g:Int,0≤g→g < n→∀p∈pr g,r p < r g
theorem ja.all {n:Nat} {pr:Int→List Int} {T:List Int} (h:ja n pr T) (ha:kG n pr) (hp:∀g,∀p∈pr g,0≤p∧p < n):∀g:Int,0≤g→g < n→g∈T:=by
 obtain ⟨r,hr⟩:=ha
 have:∀(k:Nat) (g:Int),r g < k→0≤g→g < n→g∈T:=by
  intro k
  induction k with
  | zero=>intro g hk;exact absurd hk (Nat.not_lt_zero _)
  | succ k ih=>
   intro g hk h0 h1
   refine h.full g h0 h1 fun p hpp=>ih p ?_ (hp g p hpp).1 (hp g p hpp).2
   have:=hr g h0 h1 p hpp
   omega
 intro g h0 h1
 exact this (r g+1) g (by omega) h0 h1
theorem ja.len {n:Nat} {pr:Int→List Int} {T:List Int} (h:ja n pr T):T.length≤n:=gH h.nodup h.dom
theorem nk:∀(l T:List Int),l.Nodup→(∀x∈l,x∈T)→l.length≤T.length
 | [],_,_,_=>Nat.zero_le _
 | x::l,T,h,hs=>by
  have h':=List.nodup_cons.1 h
  have hx:=hs x (List.mem_cons_self ..)
  have:=nk l (T.erase x) h'.2 fun y hy=>(List.mem_erase_of_ne (fun e=>h'.1 (by rw [←e];exact hy))).2 (hs y (Is _ hy))
  rw [List.length_erase_of_mem hx] at this
  have hpos:=List.length_pos_of_mem hx
  rw [List.length_cons]
  omega
theorem ja.len_all {n:Nat} {pr:Int→List Int} {T:List Int} (h:ja n pr T) (ha:∀g:Int,0≤g→g < n→g∈T):T.length=n:=by
 refine Nat.le_antisymm h.len ?_
 have:=nk (cV n) T (kx n) fun z hz=>by
  rw [fG] at hz
  exact ha z hz.1 hz.2
 rwa [fm] at this
theorem ja.all_of_len {n:Nat} {pr:Int→List Int} {T:List Int} (h:ja n pr T) (hl:T.length=n):∀g:Int,0≤g→g < n→g∈T:=by
 intro g h0 h1
 apply Classical.byContradiction
 intro hn
 have:=gH (l:=g::T) (n:=n) (List.nodup_cons.2 ⟨hn,h.nodup⟩) fun z hz=>by
  rcases List.mem_cons.1 hz with rfl | hz
  ·exact ⟨h0,h1⟩
  ·exact h.dom z hz
 rw [List.length_cons] at this
 omega
theorem ja.acyc {n:Nat} {pr:Int→List Int} {T:List Int} (h:ja n pr T) (ha:∀g:Int,0≤g→g < n→g∈T):kG n pr:=by
 refine ⟨fun g=>T.idxOf g,fun g h0 h1 p hp=>?_⟩
 have hg:=ha g h0 h1
 have hi:=List.idxOf_lt_length_iff.2 hg
 have h2:=h.topo (T.idxOf g) g (by rw [Iz hi,List.getElem_idxOf]) p hp
 obtain ⟨j,hj⟩:=List.mem_iff_getElem?.1 h2
 rw [List.getElem?_take] at hj
 split at hj
 ·rename_i hlt
  dsimp only
  obtain ⟨hjl,hje⟩:=Io hj
  have:T.idxOf p≤j:=by
   rw [←hje]
   have:=h.nodup.idxOf_getElem j hjl
   omega
  omega
 ·cases hj
end Go.Proofs.YtjjpkibjffmceaaGreat
namespace Go.Proofs.YtjjpkibjffmceaaGreat
open Go.RowKit
attribute [local irreducible] AT bW AX AO Av Kt bA eI DA dl
theorem zC (f:aL) (n:Int):bV Tryz.prog 263 [cr f,aP n] (cx (l9 f n)):=by
 refine aS Tryz.func263 rfl Tryz.ntmps263 rfl fun B=>?_
 repeat' (first|refine go ?_|refine HK a6 FS ?_|refine bh ?_|fail)
 refine du (t:=4) [] (l9 f n=true) rfl (fun Q' K=>?_) ?_
 ·repeat' (first|refine go ?_|refine HK a6 FS ?_|refine HV FS ?_|refine HW HF ?_|refine bk rfl rfl rfl (fun _=>?_) (fun _=>?_))
  all_goals exact K _ _ rfl rfl (by unfold l9;simp_all <;> omega)
 repeat' (first|refine go ?_|fail)
 refine HS FS ?_
 simp
instance (f:aL) (n:Int):AD Tryz.prog 263 [cr f,aP n] (cx (l9 f n)):=⟨zC f n⟩
theorem yT (f:aL) (g:Int):bV Tryz.prog 251 [cr f,aP g] (.fn 262 [.iptr (cb f),.iptr [aP g]]):=by
 refine aS Tryz.func251 rfl Tryz.ntmps251 rfl fun B=>?_
 repeat' (first|refine go ?_|refine HK a6 FS ?_|refine bh ?_|fail)
 exact HT HE
instance (f:aL) (g:Int):AD Tryz.prog 251 [cr f,aP g] (.fn 262 [.iptr (cb f),.iptr [aP g]]):=⟨yT f g⟩
set_option maxHeartbeats 1000000 in
theorem DR {α:Type} {σ0:ce} {l:Nat} (f:aL) (g:Nat) (gl:br) (hg:f.Glyphs[g]?=some gl) (E:α→AL) (J:Nat→α→Prop)
  (hy:∀i x p,J i x→gl.Parts[i]?=some p→l9 f p.Glyph=true→AY Tryz.prog σ0 l [.agg (cm p)] (E x) fun c L=>c=cx true∧∃x',J (i+1) x'∧L=E x')
  (hs:∀i x p,J i x→gl.Parts[i]?=some p→l9 f p.Glyph=false→J (i+1) x) (x0:α) (h0:J 0 x0) (hlen:gl.Parts.length≤1000000):
  Cx Tryz.prog σ0 262 [.sc (.func (.yield l) #[] #[]),.iptr (cb f),.iptr [aP g]] (E x0) fun _ L=>∃x,J gl.Parts.length x∧L=E x:=by
 refine sv Tryz.func262 rfl Tryz.ntmps262 rfl fun B hB=>?_
 have hgg:=bi (c:=bC) hg
 repeat' (first|refine go ?_|refine ak ?_|refine HK a6 FS ?_|(apply aU;first|refine aT a6 ?_|refine aM a6 ?_)|fail)
 refine aJ [0,1,11,12] (α:=Nat×α) (fun y=>[(13,aP y.1)]) (fun y=>y.1≤gl.Parts.length∧J y.1 y.2) (fun y=>E y.2) (fun y=>gl.Parts.length - y.1) (0,x0) rfl ⟨rfl,trivial⟩ ⟨Nat.zero_le _,h0⟩ (fun _ _ h=>h) ?_
 rintro ⟨i,x⟩ ⟨hi,hj⟩
 dsimp only at hi hj ⊢
 try dsimp only [Ir,Iq,Ip,Ij]
 repeat' (first|refine go ?_|refine HK a6 FS ?_)
 refine ay rfl (fun h=>?_) (fun h=>?_)
 ·have hil:i < gl.Parts.length:=by have:=Iy h;simp at this;omega
  obtain ⟨p,hp⟩:∃z,gl.Parts[i]?=some z:=⟨_,Iz hil⟩
  have hpg:=bi (c:=cm) hp
  repeat' (first|refine go ?_|refine ak ?_|refine HK a6 FS ?_|(apply aU;first|refine aT a6 ?_|refine aM a6 ?_)|(apply aG;first|refine HN 5 a6 0 HJ ?_|refine HN 5 a6 1 HJ ?_|refine HN 5 a6 2 HJ ?_|refine HM a6 0 HH ?_|refine HM a6 1 HH ?_|refine HM a6 2 HH ?_|refine HM a6 3 HH ?_|fail)|refine aX a6 fun _=>?_|(apply bq;refine bg ?_)|fail)
  by_cases hG:l9 f p.Glyph=true
  ·rw [hG]
   repeat' (first|refine HK a6 FS ?_|refine HV FS ?_)
   refine pt (E x) [] hB (hy i x p hj hp hG) rfl rfl rfl (by rw [List.append_nil];exact Im _) rfl rfl fun c L1 ⟨hc,x',hj',hL⟩=>?_
   subst hc;subst hL
   rw [List.append_nil]
   repeat' (first|refine go ?_|refine HK a6 FS ?_|refine HV FS ?_|(apply aW;refine aV ?_)|refine bF rfl ?_)
   exact aB (i+1,x') rfl ⟨by rw [Iv];rfl,trivial⟩ ⟨by dsimp only;omega,hj'⟩ (by dsimp only;omega) (fun _ _ h=>h)
  ·have hG':l9 f p.Glyph=false:=by simpa using hG
   rw [hG']
   repeat' (first|refine go ?_|refine HK a6 FS ?_|refine HW HF ?_|(apply aW;refine aV ?_)|refine bF rfl ?_)
   exact aB (i+1,x) rfl ⟨by rw [Iv];rfl,trivial⟩ ⟨by dsimp only;omega,hs i x p hj hp hG'⟩ (by dsimp only;omega) (fun _ _ h=>h)
 ·have hil:i=gl.Parts.length:=by have:=Ix h;simp at this;omega
  subst hil
  repeat' (first|refine go ?_|fail)
  exact dY rfl ⟨x,hj,rfl⟩
end Go.Proofs.YtjjpkibjffmceaaGreat
namespace Go.Proofs.YtjjpkibjffmceaaGreat
open Go.RowKit
attribute [local irreducible] AT bW AX AO Av Kt bA eI DA dl
open Go.MapKept
attribute [local irreducible] pz
def prt (f:aL) (g:Int):List Int:=match f.Glyphs[g.toNat]? with
 | some gl=>(gl.Parts.map cP.Glyph).filter (l9 f)
 | none=>[]
def vj (f:aL) (gl:br) (i:Nat):List Int:=((gl.Parts.take i).map cP.Glyph).filter (l9 f)
theorem xn {f:aL} {gl:br} {i:Nat} {p:cP} (h:gl.Parts[i]?=some p) (hg:l9 f p.Glyph=true):vj f gl (i+1)=vj f gl i++[p.Glyph]:=by
 unfold vj
 rw [List.take_add_one,h,Option.toList_some,List.map_append,List.filter_append]
 simp [hg]
theorem BY {f:aL} {gl:br} {i:Nat} {p:cP} (h:gl.Parts[i]?=some p) (hg:l9 f p.Glyph=false):vj f gl (i+1)=vj f gl i:=by
 unfold vj
 rw [List.take_add_one,h,Option.toList_some,List.map_append,List.filter_append]
 simp [hg]
theorem xl {f:aL} {g:Nat} {gl:br} (hg:f.Glyphs[g]?=some gl):vj f gl gl.Parts.length=prt f g:=by
 unfold vj prt
 rw [Int.toNat_natCast,hg,List.take_length]
theorem xm (f:aL) (gl:br) (i:Nat):(vj f gl i).length≤gl.Parts.length:=by
 unfold vj
 refine Nat.le_trans (List.length_filter_le _ _) ?_
 rw [It,List.length_take]
 omega
theorem pq {f:aL} {z:Int}:l9 f z=true↔0≤z∧z < f.Glyphs.length:=by unfold l9;simp
theorem FF {f:aL} {g p:Int} (h:p∈prt f g):0≤p∧p < f.Glyphs.length:=by
 unfold prt at h
 split at h
 ·rw [List.mem_filter] at h;exact pq.1 h.2
 ·cases h
structure Few (f:aL):Prop where
 n:f.Glyphs.length≤1000
 parts:∀gl∈f.Glyphs,gl.Parts.length≤1000
theorem Few.prt {f:aL} (h:Few f) (g:Int):(prt f g).length≤1000:=by
 unfold Go.Proofs.YtjjpkibjffmceaaGreat.prt
 split
 ·rename_i gl hgl
  refine Nat.le_trans (List.length_filter_le _ _) ?_
  rw [It]
  exact h.parts gl (Iw hgl)
 ·exact Nat.zero_le _
theorem oz {pr:Int→List Int} (h:∀g,(pr g).length≤1000) (z:Int):∀gs:List Int,(cL pr gs z).length≤1000 * gs.length
 | []=>by simp [cL]
 | g::gs=>by
  have ih:=oz h z gs
  unfold cL at ih ⊢
  rw [List.flatMap_cons,List.length_append,It,List.length_cons]
  have h1:=List.length_filter_le (fun p=>decide (p=z)) (pr g)
  have h2:=h g
  omega
theorem zH {pr:Int→List Int} {gs:List Int} {z g:Int} (h:g∈cL pr gs z):g∈gs:=by
 unfold cL at h
 obtain ⟨y,hy,h1⟩:=List.mem_flatMap.1 h
 obtain ⟨_,_,rfl⟩:=List.mem_map.1 h1
 exact hy
theorem BC (pr:Int→List Int) (T:List Int) (g:Int):lN pr T g≤(pr g).length:=List.length_filter_le _ _
def Mi (f:aL) (gl:br) (g i:Nat):Int→Int:=fun z=>if z=g then (vj f gl i).length else if 0≤z∧z < g then (prt f z).length else 0
def Ui (f:aL) (gl:br) (g i:Nat):Int→List Int:=fun z=>cL (prt f) (cV g) z++((vj f gl i).filter fun p=>decide (p=z)).map fun _=>(g:Int)
def Mb (f:aL) (g:Nat):Int→Int:=fun z=>if 0≤z∧z < g then (prt f z).length else 0
def Rb (f:aL) (g:Nat):List Int:=(cV g).filter fun z=>decide ((prt f z).length=0)
theorem CG (f:aL) (gl:br) (g:Nat):Mi f gl g 0=Mb f g:=by
 funext z
 unfold Mi Mb vj
 by_cases e:z=g
 ·subst e;rw [if_pos rfl,if_neg (by omega)];rfl
 ·rw [if_neg e]
theorem wJ (f:aL) (gl:br) (g:Nat):Ui f gl g 0=cL (prt f) (cV g):=by
 funext z
 unfold Ui vj
 simp
theorem EL {f:aL} {g:Nat} {gl:br} (hg:f.Glyphs[g]?=some gl):Mi f gl g gl.Parts.length=Mb f (g+1):=by
 funext z
 unfold Mi Mb
 rw [xl hg]
 by_cases e:z=g
 ·subst e;rw [if_pos rfl,if_pos (by omega)]
 ·rw [if_neg e]
  by_cases h:0≤z∧z < g
  ·rw [if_pos h,if_pos (by omega)]
  ·rw [if_neg h,if_neg (by omega)]
theorem EN {f:aL} {g:Nat} {gl:br} (hg:f.Glyphs[g]?=some gl):Ui f gl g gl.Parts.length=cL (prt f) (cV (g+1)):=by
 funext z
 unfold Ui
 rw [xl hg,so]
 unfold cL
 rw [List.flatMap_append]
 simp
theorem EM {f:aL} {gl:br} {g i:Nat} {p:cP} (h:gl.Parts[i]?=some p) (hg:l9 f p.Glyph=true):(fun q=>if q=(g:Int) then Mi f gl g i g+1 else Mi f gl g i q)=Mi f gl g (i+1):=by
 funext q
 unfold Mi
 rw [xn h hg]
 by_cases e:q=g
 ·rw [if_pos e,if_pos e,if_pos rfl];simp
 ·rw [if_neg e,if_neg e,if_neg e]
theorem EP {f:aL} {gl:br} {g i:Nat} {p:cP} (h:gl.Parts[i]?=some p) (hg:l9 f p.Glyph=true):(fun q=>if q=p.Glyph then Ui f gl g i p.Glyph++[(g:Int)] else Ui f gl g i q)=Ui f gl g (i+1):=by
 funext q
 unfold Ui
 rw [xn h hg,List.filter_append,List.map_append]
 by_cases e:q=p.Glyph
 ·subst e;rw [if_pos rfl];simp
 ·have e':¬p.Glyph=q:=fun h=>e h.symm
  rw [if_neg e];simp [e']
theorem FZ {f:aL} {gl:br} {g i:Nat} {p:cP} (h:gl.Parts[i]?=some p) (hg:l9 f p.Glyph=false):Mi f gl g (i+1)=Mi f gl g i:=by unfold Mi;rw [BY h hg]
theorem G1 {f:aL} {gl:br} {g i:Nat} {p:cP} (h:gl.Parts[i]?=some p) (hg:l9 f p.Glyph=false):Ui f gl g (i+1)=Ui f gl g i:=by unfold Ui;rw [BY h hg]
theorem EO {f:aL} (hf:Few f) (gl:br) (hgl:gl∈f.Glyphs) {g:Nat} (hg:g≤1000) (i:Nat) (z:Int):(Ui f gl g i z).length≤1001000:=by
 unfold Ui
 have h1:=oz hf.prt z (cV g)
 have h2:=xm f gl i
 have h3:=List.length_filter_le (fun p=>decide (p=z)) (vj f gl i)
 have h4:=hf.parts gl hgl
 rw [fm] at h1
 rw [List.length_append,It]
 omega
theorem lu (f:aL) (g:Nat):Rb f (g+1)=if (prt f g).length=0 then Rb f g++[(g:Int)] else Rb f g:=by
 unfold Rb
 rw [so,List.filter_append]
 by_cases h:(prt f g).length=0
 ·rw [if_pos h,List.filter_cons_of_pos (by simpa using h)];rfl
 ·rw [if_neg h,List.filter_cons_of_neg (by simpa using h)];simp
theorem zO (f:aL) (g:Nat):(Rb f g).length≤g:=by
 unfold Rb
 refine Nat.le_trans (List.length_filter_le _ _) ?_
 rw [fm]
 exact Nat.le_refl _
theorem lh {a b:Nat×AB} {T T' t H R:AL} (h:T.Perm (t++T')):(a::b::(H++(T++R))).Perm (t++(a::b::(H++(T'++R)))):=by
 have h1:(a::b::(H++(T++R))).Perm (a::b::(H++(t++(T'++R)))):=by
  refine List.Perm.cons _ (List.Perm.cons _ (List.Perm.append_left _ ?_))
  rw [←List.append_assoc]
  exact h.append_right _
 refine h1.trans ?_
 have h2:(a::b::(H++(t++(T'++R))))=((a::b::H)++t)++(T'++R):=by simp
 have h3:t++(a::b::(H++(T'++R)))=(t++(a::b::H))++(T'++R):=by simp
 rw [h2,h3]
 exact List.Perm.append_right _ List.perm_append_comm
theorem qD {rec:Loop} (h1:rec.state= .ready) (h2:rec.pending=none):({ ({ rec with state:= .busy }:Loop) with state:= .ready,pending:=none }:Loop)=rec:=by cases rec;simp_all
abbrev KI:TypeDesc:= .int .i64
theorem CF (f:aL):Mb f 0=fun _=>0:=by
 funext z
 unfold Mb
 rw [if_neg (by omega)]
abbrev KT:=Int→Option (Nat×Nat)
abbrev VM:=Value→Option AV
abbrev LX:=VM×VM×KT×(Int→List Int)
theorem uO {a b c d e:Nat×AB} {T M:AL}:(d::a::b::c::(T++(M++[e]))).Perm (a::b::c::d::(T++(e::M))):=by
 refine (List.perm_middle (l₁:=[a,b,c])).symm.trans ?_
 exact List.Perm.cons _ (List.Perm.cons _ (List.Perm.cons _ (List.Perm.cons _ (List.Perm.append_left T (List.perm_append_singleton e M)))))
def sV (bm bu p n:Nat) (kh:Option (Nat×List AV)) (R:List Int) (rest:AL) (x:LX):AL:=(bm,cj KI x.1)::(bu,cj KI x.2.1)::(hst p kh R++(mD 3 x.2.2.1 x.2.2.2 (cV n)++rest))
abbrev LS:=Nat×List Nat×VM×VM×KT×Option (Nat×List AV)
def uy (dbs:List Nat):AL:=dbs.map fun b=>(b,iF)
theorem of {a b:Nat×AB} {H X:AL}:(a::b::(H++X)).Perm (H++(a::b::X)):=by
 have h1:(a::b::(H++X))=(a::b::H)++X:=rfl
 have h2:H++(a::b::X)=(H++[a,b])++X:=by simp
 rw [h1,h2]
 exact (List.perm_append_comm (l₁:=[a,b]) (l₂:=H)).append_right X
structure KS where
 T:List Int
 R:List Int
 M:Int→Int
 mm:VM
 kh:Option (Nat×List AV)
 kt:Option (Nat×Nat)
def GZ (bm bu p:Nat) (mu:VM) (X:AL) (x:KS):AL:=(bm,cj KI x.mm)::(bu,cj KI mu)::(hst p x.kh x.R++(tok x.kt 3 1 (aZ x.T).length++X))
set_option maxHeartbeats 8000000 in
theorem DG (f:aL) (hf:Few f):AC Tryz.prog 226 [cr f,.imm 1 (aZ (cV f.Glyphs.length))] [] fun c _=>∃T,c= .imm 1 (aZ T)∧ja f.Glyphs.length (prt f) T:=by
 refine pC Tryz.func226 rfl Tryz.ntmps226 rfl fun B=>?_
 have hn:=hf.n
 have hil:(aZ (cV f.Glyphs.length)).length=f.Glyphs.length:=by rw [aQ,fm]
 generalize hN:f.Glyphs.length=n at *
 repeat' (first|refine go ?_|refine HK a6 FS ?_|refine bh ?_|fail)
 refine eQ KI fun bm=>?_
 repeat' (first|refine go ?_|(apply aG;first|refine HN 5 a6 0 HJ ?_|refine HN 5 a6 1 HJ ?_|refine HN 5 a6 2 HJ ?_|refine HN 6 a6 0 HJ ?_|refine HN 6 a6 1 HJ ?_|refine HN 6 a6 2 HJ ?_|refine HN 9 a6 0 HJ ?_|refine HN 9 a6 1 HJ ?_|refine HN 9 a6 2 HJ ?_|refine HN 10 a6 0 HJ ?_|refine HN 10 a6 1 HJ ?_|refine HN 10 a6 2 HJ ?_|refine HM a6 0 HH ?_|refine HM a6 1 HH ?_|refine HM a6 2 HH ?_|refine HM a6 3 HH ?_|fail)|refine aX a6 fun _=>?_|fail)
 refine eQ KI fun bu=>?_
 repeat' (first|refine go ?_|refine ak ?_|refine HK a6 FS ?_|(apply aG;first|refine HN 5 a6 0 HJ ?_|refine HN 5 a6 1 HJ ?_|refine HN 5 a6 2 HJ ?_|refine HN 6 a6 0 HJ ?_|refine HN 6 a6 1 HJ ?_|refine HN 6 a6 2 HJ ?_|refine HN 9 a6 0 HJ ?_|refine HN 9 a6 1 HJ ?_|refine HN 9 a6 2 HJ ?_|refine HN 10 a6 0 HJ ?_|refine HN 10 a6 1 HJ ?_|refine HN 10 a6 2 HJ ?_|refine HM a6 0 HH ?_|refine HM a6 1 HH ?_|refine HM a6 2 HH ?_|refine HM a6 3 HH ?_|fail)|refine aX a6 fun _=>?_|fail)
 rename_i p
 refine Am [2,5,6,7,17,18] (α:=LS) (fun x=>Bz x.2.1) (fun x=>[(19,aP x.1)]) (fun x=>x.1≤n∧nM x.2.2.1 (Mb f x.1)∧pA x.2.2.2.1 x.2.2.2.2.1 (cL (prt f) (cV x.1))∧oD x.2.2.2.2.2 (Rb f x.1)) (fun x=>sV bm bu p n x.2.2.2.2.2 (Rb f x.1) (uy x.2.1) (x.2.2.1,x.2.2.2.1,x.2.2.2.2.1,cL (prt f) (cV x.1))) (fun x=>n - x.1) (0,[],(fun _=>none),(fun _=>none),(fun _=>none),none) rfl ⟨rfl,trivial⟩ rfl ⟨Nat.zero_le _,?_,?_,rfl⟩ (fun σ w h=>?_) ?_
 ·intro z;exact .inl ⟨rfl,by rw [CF]⟩
 ·intro z;exact .inl ⟨rfl,rfl,rfl⟩
 ·have h1:=dC.perm (L:=[(p,.box [.sc (.slice none 0 0)] 337),(bu,cj KI fun _=>none),(bm,cj KI fun _=>none)]) h (List.reverse_perm _).symm
  have h2:sV bm bu p n none (Rb f 0) (uy []) ((fun _=>none),(fun _=>none),(fun _=>none),cL (prt f) (cV 0))=[(bm,cj KI fun _=>none),(bu,cj KI fun _=>none),(p,.box [.sc (.slice none 0 0)] 337)]:=by
   unfold sV
   rw [zE]
   rfl
  show dC B σ (sV bm bu p n none (Rb f 0) (uy []) ((fun _=>none),(fun _=>none),(fun _=>none),cL (prt f) (cV 0))) w
  rw [h2]
  exact h1
 rintro ⟨g,dbs,mm,mu,K,kh⟩ ⟨hg,hM,hU,hR⟩
 dsimp only at hg hM hU hR ⊢
 try dsimp only [Ir,Iq,Ip,Ij]
 repeat' (first|refine go ?_|refine HK a6 FS ?_)
 rw [hil]
 refine ay rfl (fun h=>?_) (fun h=>?_)
 ·have hgl:g < n:=by have:=Iy h;omega
  obtain ⟨gl,hgg⟩:∃z,f.Glyphs[g]?=some z:=⟨_,Iz (by omega)⟩
  have hgm:=Iw hgg
  have hgi:=bT (jM hgl)
  clear h
  unfold sV
  dsimp only
  repeat' (first|refine go ?_|refine ak ?_|refine HK a6 FS ?_|(apply aU;first|refine aT a6 ?_|refine aM a6 ?_)|(apply aG;first|refine HN 5 a6 0 HJ ?_|refine HN 5 a6 1 HJ ?_|refine HN 5 a6 2 HJ ?_|refine HN 6 a6 0 HJ ?_|refine HN 6 a6 1 HJ ?_|refine HN 6 a6 2 HJ ?_|refine HN 9 a6 0 HJ ?_|refine HN 9 a6 1 HJ ?_|refine HN 9 a6 2 HJ ?_|refine HN 10 a6 0 HJ ?_|refine HN 10 a6 1 HJ ?_|refine HN 10 a6 2 HJ ?_|refine HM a6 0 HH ?_|refine HM a6 1 HH ?_|refine HM a6 2 HH ?_|refine HM a6 3 HH ?_|fail)|refine aX a6 fun _=>?_|(apply bq;refine bg ?_)|fail)
  refine jT (fr':=[(2,.iptr (cb f)),(5,.iptr [.sc (.map (some bm))]),(6,.iptr [.sc (.map (some bu))]),(7,.sc (.pointer (some ⟨p,0,none⟩))),(9,.iptr [aP g]),(17,.imm 1 (aZ (cV n))),(18,aP n),(19,aP g),(25,.fn 262 [.iptr (cb f),.iptr [aP g]])]) (L':=sV bm bu p n kh (Rb f g) (uy dbs) (mm,mu,K,Ui f gl g 0)) ⟨rfl,rfl,rfl,rfl,rfl,rfl,rfl,rfl,rfl,trivial⟩ (fun _ _ h=>by rw [wJ];exact h) ?_
  refine kI (ps:=[26]) rfl fun σ0 l db rec hrec=>?_
  have hy:∀(i:Nat) (x:LX) (q:cP),(nM x.1 (Mi f gl g i)∧pA x.2.1 x.2.2.1 x.2.2.2∧x.2.2.2=Ui f gl g i)→gl.Parts[i]?=some q→l9 f q.Glyph=true→AY Tryz.prog σ0 l [.agg (cm q)] (sV bm bu p n kh (Rb f g) (uy dbs) x++[(db,iF)]++[(l,gZ rec)]) fun c L=>c=cx true∧∃x':LX,(nM x'.1 (Mi f gl g (i+1))∧pA x'.2.1 x'.2.2.1 x'.2.2.2∧x'.2.2.2=Ui f gl g (i+1))∧L=sV bm bu p n kh (Rb f g) (uy dbs) x'++[(db,iF)]++[(l,gZ rec)]:=by
   rintro i ⟨mm,mu,K,U⟩ q ⟨hM,hU,rfl⟩ hq hG
   dsimp only at hM hU ⊢
   refine tU hrec rfl rfl fun B1 hB1=>?_
   repeat' (first|refine go ?_|(apply aG;first|refine HN 5 a6 0 HJ ?_|refine HN 5 a6 1 HJ ?_|refine HN 5 a6 2 HJ ?_|refine HN 6 a6 0 HJ ?_|refine HN 6 a6 1 HJ ?_|refine HN 6 a6 2 HJ ?_|refine HN 9 a6 0 HJ ?_|refine HN 9 a6 1 HJ ?_|refine HN 9 a6 2 HJ ?_|refine HN 10 a6 0 HJ ?_|refine HN 10 a6 1 HJ ?_|refine HN 10 a6 2 HJ ?_|refine HM a6 0 HH ?_|refine HM a6 1 HH ?_|refine HM a6 2 HH ?_|refine HM a6 3 HH ?_|fail)|refine aX a6 fun _=>?_|fail)
   refine kK hrec.state ?_
   unfold sV
   dsimp only
   have hqr:=pq.1 hG
   have hcnt:=xm f gl i
   have hpl:=hf.parts gl hgm
   have hMg:Mi f gl g i g=(vj f gl i).length:=by unfold Mi;rw [if_pos rfl]
   simp only [Ir,List.append_assoc]
   have hUl:=EO hf gl hgm (g:=g) (by omega) i q.Glyph
   have hUi:(aZ (Ui f gl g i q.Glyph)).length=(Ui f gl g i q.Glyph).length:=aQ _
   have hz:q.Glyph∈cV n:=fG.2 (by omega)
   repeat' (first|refine go ?_|refine ak ?_|refine HK a6 FS ?_)
   refine jF 0 (.int .i64 0) (aP (Mi f gl g i g)) Tryz.underlying99 Tryz.underlying3 rfl rfl rfl rfl (by kernel_rfl) (hM.at g) rfl ?_
   repeat' (first|(apply aW;refine aV ?_)|fail)
   refine dB 0 (od mm (.int .i64 g) (aP (Mi f gl g i g+1))) Tryz.underlying99 Tryz.underlying3 rfl rfl rfl rfl rfl jB (fun q h=>iY q h) ?_
   repeat' (first|refine go ?_|fail)
   refine bn 10 [(0,.v),(1,.v),(2,.v),(3,.v),(4,.v),(5,.v),(7,.v),(8,.v),(6,.e),(9,.e)] none ?_ trivial rfl (by kernel_rfl) (by kernel_rfl) (by kernel_rfl) mixed (by kernel_rfl) rfl
   repeat' (first|refine aC ?_|refine b7 a6 ?_|refine eS a6 ?_|fail)
   refine yb 1 (.slice none 0 0) (.vec (K q.Glyph) 1 (aZ (Ui f gl g i q.Glyph))) Tryz.underlying336 Tryz.underlying3 rfl rfl rfl rfl (by kernel_rfl) (hU.at q.Glyph) trivial ?_
   repeat' (first|refine aC ?_|fail)
   refine gB a6 _ rfl rfl rfl rfl (lh (ox hz)) (by rw [hUi];show _+1≤_;omega) (by rw [hUi];show (_+1) * 8≤_;omega) trivial fun k'=>?_
   repeat' (first|fail)
   refine HU [2,5,6,7,9,17,18,19,26,31,33,40] FS ?_
   have hput:=Cr (e:=3) (K:=K) (U:=Ui f gl g i) (k:=k') (l:=Ui f gl g i q.Glyph++[(g:Int)]) (kx n) hz
   rw [show aZ (Ui f gl g i q.Glyph)++[[AV.sc (.int .i64 (g:Int))]]=aZ (Ui f gl g i q.Glyph++[(g:Int)]) from kZ _ [(g:Int)]]
   refine aO (aK (lh hput.symm).symm) ?_
   repeat' (first|fail)
   refine dB 1 (od mu (.int .i64 q.Glyph) (.vec k' 1 (aZ (Ui f gl g i q.Glyph++[(g:Int)])))) Tryz.underlying336 Tryz.underlying3 rfl rfl rfl rfl rfl jB (fun q h=>iY q h) ?_
   repeat' (first|refine go ?_|fail)
   refine bc (L':=sV bm bu p n kh (Rb f g) (uy dbs) (od mm (.int .i64 g) (aP (Mi f gl g i g+1)),od mu (.int .i64 q.Glyph) (.vec k' 1 (aZ (Ui f gl g i q.Glyph++[(g:Int)]))),(fun y=>if y=q.Glyph then k' else K y),fun y=>if y=q.Glyph then Ui f gl g i q.Glyph++[(g:Int)] else Ui f gl g i y)++[(db,iF)]++[(l,gZ { rec with state:= .busy })]) (aK (List.Perm.of_eq (by simp only [sV,g7,Ir,List.append_assoc,Iq]))) (pM ?_)
   rw [qD hrec.state hrec.pending]
   refine ⟨rfl,(od mm (.int .i64 g) (aP (Mi f gl g i g+1)),od mu (.int .i64 q.Glyph) (.vec k' 1 (aZ (Ui f gl g i q.Glyph++[(g:Int)]))),(fun y=>if y=q.Glyph then k' else K y),fun y=>if y=q.Glyph then Ui f gl g i q.Glyph++[(g:Int)] else Ui f gl g i y),⟨?_,hU.put q.Glyph k' _,EP hq hG⟩,?_⟩
   ·have:=hM.put g (Mi f gl g i g+1)
    rw [EM hq hG] at this
    exact this
   ·simp only [sV,Ir,List.append_assoc,Iq]
  have hsk:∀(i:Nat) (x:LX) (q:cP),(nM x.1 (Mi f gl g i)∧pA x.2.1 x.2.2.1 x.2.2.2∧x.2.2.2=Ui f gl g i)→gl.Parts[i]?=some q→l9 f q.Glyph=false→(nM x.1 (Mi f gl g (i+1))∧pA x.2.1 x.2.2.1 x.2.2.2∧x.2.2.2=Ui f gl g (i+1)):=by
   intro i x q h hq hG
   rw [FZ hq hG,G1 hq hG]
   exact h
  have hit:=DR (σ0:=σ0) (l:=l) f g gl hgg (fun x=>sV bm bu p n kh (Rb f g) (uy dbs) x++[(db,iF)]++[(l,gZ rec)]) (fun i x=>nM x.1 (Mi f gl g i)∧pA x.2.1 x.2.2.1 x.2.2.2∧x.2.2.2=Ui f gl g i) hy hsk (mm,mu,K,Ui f gl g 0) ⟨by rw [CG];exact hM,by rw [wJ];exact hU,rfl⟩ (by have:=hf.parts gl hgm;omega)
  refine ⟨_,hit,?_⟩
  rintro c L' ⟨⟨mm',mu',K',U'⟩,⟨hM',hU',rfl⟩,rfl⟩
  dsimp only at hM' hU' ⊢
  refine ⟨rec,_,Im _,(by rw [hrec.state];intro h;cases h),?_⟩
  rw [hrec.pending]
  show AX _ _ _ _ _ _ _ _
  rw [EL hgg] at hM'
  rw [EN hgg] at hU' ⊢
  clear hy hsk hit hM hU
  unfold sV
  dsimp only
  simp only [Ir,List.append_assoc,Iq]
  repeat' (first|refine go ?_|refine HK a6 FS ?_)
  refine jF 0 (.int .i64 0) (aP (Mb f (g+1) g)) Tryz.underlying99 Tryz.underlying3 rfl rfl rfl rfl (by kernel_rfl) (hM'.at g) rfl ?_
  rw [show Mb f (g+1) g=(prt f g).length by unfold Mb;rw [if_pos (by omega)]]
  repeat' (first|refine go ?_|refine HK a6 FS ?_)
  refine ay rfl (fun h=>?_) (fun h=>?_)
  ·have h0:(prt f g).length=0:=by have:=Iy h;omega
   cases kh with
   | none=>
    have hR0:Rb f g=[]:=hR
    unfold hst qd tx
    dsimp only
    simp only [Ir,Iq]
    repeat' (first|refine go ?_|refine HK a6 FS ?_|(apply bK;first|refine HO a6 0 HG ?_|refine HO a6 1 HG ?_|refine HO a6 2 HG ?_|refine HO a6 3 HG ?_|refine HP a6 0 HG ?_|refine HP a6 1 HG ?_|refine HP a6 2 HG ?_|refine HR a6 1 HE (by assumption) rfl ?_|refine HR a6 0 HE (by assumption) rfl ?_|fail)|refine bG a6 ?_|fail)
    refine yL a6 rfl rfl rfl rfl rfl rfl rfl fun b' cs' h1 h2=>?_
    repeat' (first|refine go ?_|refine HK a6 FS ?_|(apply aW;refine aV ?_)|(apply aG;first|refine HN 5 a6 0 HJ ?_|refine HN 5 a6 1 HJ ?_|refine HN 5 a6 2 HJ ?_|refine HN 6 a6 0 HJ ?_|refine HN 6 a6 1 HJ ?_|refine HN 6 a6 2 HJ ?_|refine HN 9 a6 0 HJ ?_|refine HN 9 a6 1 HJ ?_|refine HN 9 a6 2 HJ ?_|refine HN 10 a6 0 HJ ?_|refine HN 10 a6 1 HJ ?_|refine HN 10 a6 2 HJ ?_|refine HM a6 0 HH ?_|refine HM a6 1 HH ?_|refine HM a6 2 HH ?_|refine HM a6 3 HH ?_|fail))
    refine nT (g+1,db::dbs,mm',mu',K',some (b',cs')) rfl ⟨by rw [Iv];rfl,trivial⟩ rfl ⟨by dsimp only;omega,hM',hU',?_⟩ (by dsimp only;omega) (fun σ w h=>?_)
    ·rw [lu,if_pos h0,hR0]
     exact ⟨h1,h2,h2⟩
    ·have h:=dC.perm (L:=(b',.box cs' 3)::(bm,cj KI mm')::(bu,cj KI mu')::(p,.box [.sc (.slice (some ⟨b',0,none⟩) 1 cs'.length)] 337)::(mD 3 K' (cL (prt f) (cV (g+1))) (cV n)++(uy dbs++[(db,iF)]))) h uO
     show dC B σ (sV bm bu p n (some (b',cs')) (Rb f (g+1)) (uy (db::dbs)) (mm',mu',K',cL (prt f) (cV (g+1)))) w
     rw [lu,if_pos h0,hR0]
     exact h
   | some kk=>
    obtain ⟨b,cs⟩:=kk
    rw [iU]
    simp only [Ir,Iq]
    repeat' (first|refine go ?_|refine HK a6 FS ?_|(apply bK;first|refine HO a6 0 HG ?_|refine HO a6 1 HG ?_|refine HO a6 2 HG ?_|refine HO a6 3 HG ?_|refine HP a6 0 HG ?_|refine HP a6 1 HG ?_|refine HP a6 2 HG ?_|refine HR a6 1 HE (by assumption) rfl ?_|refine HR a6 0 HE (by assumption) rfl ?_|fail)|refine bG a6 ?_|fail)
    have hRl:=zO f g
    refine yK a6 3 rfl rfl rfl rfl rfl rfl rfl hR.2.1 (by omega) (by omega) rfl fun b' cs' h1 h2=>?_
    repeat' (first|refine go ?_|refine HK a6 FS ?_|(apply aW;refine aV ?_)|(apply aG;first|refine HN 5 a6 0 HJ ?_|refine HN 5 a6 1 HJ ?_|refine HN 5 a6 2 HJ ?_|refine HN 6 a6 0 HJ ?_|refine HN 6 a6 1 HJ ?_|refine HN 6 a6 2 HJ ?_|refine HN 9 a6 0 HJ ?_|refine HN 9 a6 1 HJ ?_|refine HN 9 a6 2 HJ ?_|refine HN 10 a6 0 HJ ?_|refine HN 10 a6 1 HJ ?_|refine HN 10 a6 2 HJ ?_|refine HM a6 0 HH ?_|refine HM a6 1 HH ?_|refine HM a6 2 HH ?_|refine HM a6 3 HH ?_|fail))
    refine nT (g+1,db::dbs,mm',mu',K',some (b',cs')) rfl ⟨by rw [Iv];rfl,trivial⟩ rfl ⟨by dsimp only;omega,hM',hU',?_⟩ (by dsimp only;omega) (fun σ w h=>?_)
    ·rw [lu,if_pos h0]
     refine ⟨?_,by rw [List.length_append];exact h2,by omega⟩
     rw [List.length_append,List.map_append,←hR.1]
     exact h1
    ·have h:=dC.perm (L:=(b',.box cs' 3)::(bm,cj KI mm')::(bu,cj KI mu')::(p,.box [.sc (.slice (some ⟨b',0,none⟩) ((Rb f g).length+1) cs'.length)] 337)::(mD 3 K' (cL (prt f) (cV (g+1))) (cV n)++(uy dbs++[(db,iF)]))) h uO
     show dC B σ (sV bm bu p n (some (b',cs')) (Rb f (g+1)) (uy (db::dbs)) (mm',mu',K',cL (prt f) (cV (g+1)))) w
     rw [lu,if_pos h0]
     unfold sV
     rw [iU,List.length_append]
     exact h
  ·have h0:¬(prt f g).length=0:=by have:=Ix h;omega
   repeat' (first|refine go ?_|refine HK a6 FS ?_|(apply aW;refine aV ?_)|fail)
   refine nT (g+1,db::dbs,mm',mu',K',kh) rfl ⟨by rw [Iv];rfl,trivial⟩ rfl ⟨by dsimp only;omega,hM',hU',by rw [lu,if_neg h0];exact hR⟩ (by dsimp only;omega) (fun σ w h=>?_)
   show dC B σ (sV bm bu p n kh (Rb f (g+1)) (uy (db::dbs)) (mm',mu',K',cL (prt f) (cV (g+1)))) w
   rw [lu,if_neg h0]
   refine h.perm (List.Perm.cons _ (List.Perm.cons _ (List.Perm.append_left _ (List.Perm.append_left _ ?_))))
   exact List.perm_append_singleton _ _
 have hgn:g=n:=by have:=Ix h;omega
 subst hgn
 clear h
 have hst0:nL g (prt f) [] (Rb f g) (Mb f g):=by
  have h1:=nL.start (n:=g) (pr:=prt f) (M:=Mb f g) fun z h0 h1=>by unfold Mb;rw [if_pos ⟨h0,h1⟩]
  have h2:(cV g).filter (fun z=>decide (Mb f g z=0))=Rb f g:=by
   unfold Rb
   refine List.filter_congr fun z hz=>?_
   unfold Mb
   rw [if_pos (fG.1 hz)]
   exact decide_eq_decide.2 (by omega)
  rw [h2] at h1
  exact h1
 have hRl:=zO f g
 unfold sV
 dsimp only
 repeat' (first|refine go ?_|refine re ?_)
 refine ni (by kernel_rfl) rfl rfl ?_
 repeat' (first|fail)
 refine ba (hst p kh (Rb f g)) _ (Bb p kh (Rb f g) hR (by omega)) rfl rfl of rfl fun c L1 ⟨kh',R',hL,hR',hpm⟩=>?_
 subst hL
 refine aO (aK of.symm) ?_
 repeat' (first|refine go ?_|refine ak ?_|refine HK a6 FS ?_)
 refine bH (bf (t:=11) (c':= .vec none 1 (aZ [])) rfl fun σ v h=>cq 1 h) ?_
 refine aJ [5,6,7] (α:=KS) (fun x=>[(11,.vec x.kt 1 (aZ x.T))]) (fun x=>nL g (prt f) x.T x.R x.M∧nM x.mm x.M∧oD x.kh x.R) (fun x=>GZ bm bu p mu (mD 3 K (cL (prt f) (cV g)) (cV g)++uy dbs) x) (fun x=>g - x.T.length) ⟨[],R',Mb f g,mm,kh',none⟩ rfl ⟨rfl,trivial⟩ ⟨hst0.perm hpm,hM,hR'⟩ (fun σ w h=>?_) ?_
 ·exact h
 rintro ⟨T,R,M,mm,kh,kt⟩ ⟨hK,hM,hR⟩
 dsimp only at hK hM hR ⊢
 unfold GZ
 dsimp only
 try dsimp only [Ir,Iq,Ip,Ij]
 cases kh with
 | none=>
  have hR0:R=[]:=hR
  subst hR0
  unfold hst qd tx
  dsimp only
  repeat' (first|refine go ?_|refine HK a6 FS ?_|(apply bK;first|refine HO a6 0 HG ?_|refine HO a6 1 HG ?_|refine HO a6 2 HG ?_|refine HO a6 3 HG ?_|refine HP a6 0 HG ?_|refine HP a6 1 HG ?_|refine HP a6 2 HG ?_|refine HR a6 1 HE (by assumption) rfl ?_|refine HR a6 0 HE (by assumption) rfl ?_|fail)|refine bF rfl ?_)
  refine bc (bf (t:=4) (c':= .imm 1 (aZ T)) rfl fun σ v h=>VR.im h) ?_
  refine cX (L':=uy dbs) (((((List.sublist_append_right _ _).trans (List.sublist_append_right _ _)).trans (List.sublist_append_right _ _)).cons _).cons _) ?_
  exact jU (cs:=[.imm 1 (aZ T)]) dbs [] rfl (Im _) ⟨rfl,trivial⟩ ⟨T,rfl,hK.fin⟩
 | some kk=>
  obtain ⟨b,cs⟩:=kk
  rw [iU]
  have hTR:=gH hK.nodup hK.dom
  rw [List.length_append] at hTR
  repeat' (first|refine go ?_|refine HK a6 FS ?_|(apply bK;first|refine HO a6 0 HG ?_|refine HO a6 1 HG ?_|refine HO a6 2 HG ?_|refine HO a6 3 HG ?_|refine HP a6 0 HG ?_|refine HP a6 1 HG ?_|refine HP a6 2 HG ?_|refine HR a6 1 HE (by assumption) rfl ?_|refine HR a6 0 HE (by assumption) rfl ?_|fail)|fail)
  refine ay rfl (fun h=>?_) (fun h=>?_)
  ·have h0:0 < R.length:=by have:=Iy h;omega
   clear h
   repeat' (first|refine go ?_|refine ak ?_)
   refine ni (by kernel_rfl) rfl rfl ?_
   repeat' (first|fail)
   refine ba (hst p (some (b,cs)) R) _ (DD p b cs R hR h0 (by omega)) rfl rfl of rfl fun c L1 ⟨z,cs',R',hc,hL,hR',hpm⟩=>?_
   subst hc;subst hL
   refine aO (aK of.symm) ?_
   repeat' (first|fail)
   refine BF (by kernel_rfl) rfl rfl ?_
   repeat' (first|refine go ?_|refine HK a6 FS ?_|refine bG a6 ?_|fail)
   have hKm:=(hK.perm hpm).pop
   have hz:=hKm.dom z (by simp)
   have hTz:z∉T:=fun hm=>by
    have:=hKm.nodup
    rw [List.append_assoc,List.nodup_append] at this
    exact this.2.2 z hm z (by simp) rfl
   have hTl:=gH (List.nodup_append.1 hKm.nodup).1 (fun y hy=>hKm.dom y (List.mem_append_left _ hy))
   rw [List.length_append] at hTl
   have hTi:=aQ T
   have hall:∀q:Int,0≤q→q < g→(cL (prt f) (cV g) z).count q=(prt f q).count z:=fun q q0 q1=>by rw [lT _ _ _ _ (kx g),if_pos (fG.2 ⟨q0,q1⟩)]
   have hUl:=oz hf.prt z (cV g)
   rw [fm] at hUl
   refine bB a6 _ rfl rfl rfl rfl (lh (T:=tok kt 3 1 (aZ T).length) (T':=[]) (by rw [List.append_nil])) (by rw [hTi];show _+1≤_;simp at hTl;omega) (by rw [hTi];show (_+1) * 8≤_;simp at hTl;omega) rfl fun k'=>?_
   rw [show aZ T++[[AV.sc (.int .i64 z)]]=aZ (T++[z]) from kZ T [z]]
   refine aO (aK (lh (T:=tok k' 3 1 (aZ (T++[z])).length) (T':=[]) (by rw [List.append_nil])).symm) ?_
   repeat' (first|refine go ?_|refine HK a6 FS ?_)
   refine jF 1 (.slice none 0 0) (.vec (K z) 1 (aZ (cL (prt f) (cV g) z))) Tryz.underlying336 Tryz.underlying3 rfl rfl rfl rfl (by kernel_rfl) (hU.at z) rfl ?_
   repeat' (first|refine ak ?_|refine go ?_|refine HK a6 FS ?_)
   have hUi:=aQ (cL (prt f) (cV g) z)
   refine aJ [5,6,7,11,64,65] (α:=Nat×KS) (fun x=>[(66,aP x.1)]) (fun x=>x.2.T=T++[z]∧x.2.kt=k'∧x.1≤(cL (prt f) (cV g) z).length∧ra g (prt f) T z ((cL (prt f) (cV g) z).take x.1) x.2.R x.2.M∧nM x.2.mm x.2.M∧oD x.2.kh x.2.R) (fun x=>GZ bm bu p mu (mD 3 K (cL (prt f) (cV g)) (cV g)++uy dbs) x.2) (fun x=>(cL (prt f) (cV g) z).length - x.1) (0,⟨T++[z],R',M,mm,some (b,cs'),k'⟩) rfl ⟨rfl,trivial⟩ ⟨rfl,rfl,Nat.zero_le _,hKm,hM,hR'⟩ (fun σ w h=>h) ?_
   clear hM hR hK hR' hKm hpm
   rintro ⟨j,⟨T',R,M,mm,kh,kt'⟩⟩ ⟨hT',hk',hj,hK,hM,hR⟩
   dsimp only at hT' hk' hj hK hM hR ⊢
   subst hT';subst hk'
   unfold GZ
   dsimp only
   try dsimp only [Ir,Iq,Ip,Ij]
   repeat' (first|refine go ?_|refine HK a6 FS ?_)
   refine ay rfl (fun h=>?_) (fun h=>?_)
   ·have hjl:j < (cL (prt f) (cV g) z).length:=by have:=Iy h;rw [hUi] at this;omega
    obtain ⟨u,hu⟩:∃u,(cL (prt f) (cV g) z)[j]?=some u:=⟨_,Iz hjl⟩
    have hug:=bT hu
    have hur:=fG.1 (zH (Iw hu))
    obtain ⟨hpos,hK'⟩:=hK.step hall hTz hu hur.1 hur.2
    have hmu:=hK.miss u hur.1 hur.2
    have hml:=BC (prt f) T u
    have hpl:=hf.prt u
    have hRl2:=gH hK.nodup hK.dom
    rw [List.length_append,List.length_append] at hRl2
    clear h
    repeat' (first|refine go ?_|refine ak ?_|refine HK a6 FS ?_|(apply aU;first|refine aT a6 ?_|refine aM a6 ?_)|fail)
    refine jF 0 (.int .i64 0) (aP (M u)) Tryz.underlying99 Tryz.underlying3 rfl rfl rfl rfl (by kernel_rfl) (hM.at u) rfl ?_
    repeat' (first|(apply aW;refine aV ?_)|fail)
    refine dB 0 (od mm (.int .i64 u) (aP (M u - 1))) Tryz.underlying99 Tryz.underlying3 rfl rfl rfl rfl rfl jB (fun q h=>iY q h) ?_
    repeat' (first|refine go ?_|refine HK a6 FS ?_)
    refine jF 0 (.int .i64 0) (aP (M u - 1)) Tryz.underlying99 Tryz.underlying3 rfl rfl rfl rfl (by kernel_rfl) (fun σ v h=>?_) rfl ?_
    ·have:=(hM.put u (M u - 1)).at u σ v h
     simpa using this
    repeat' (first|refine go ?_|refine HK a6 FS ?_)
    refine ay rfl (fun h=>?_) (fun h=>?_)
    ·have h1:=Iy h
     rw [if_pos h1] at hK'
     repeat' (first|refine go ?_|fail)
     refine ni (by kernel_rfl) rfl rfl ?_
     repeat' (first|refine HK a6 FS ?_)
     refine ni (by kernel_rfl) rfl rfl ?_
     repeat' (first|fail)
     refine ba (hst p kh R) _ (Bc p kh R u hR (by omega)) rfl rfl of rfl fun c L1 ⟨b2,cs2,R2,hL,hR2,hpm⟩=>?_
     subst hL
     refine aO (aK of.symm) ?_
     repeat' (first|refine go ?_|refine HK a6 FS ?_|(apply aW;refine aV ?_)|fail)
     exact aB (j+1,⟨T++[z],R2,_,_,some (b2,cs2),kt'⟩) rfl ⟨by rw [Iv];rfl,trivial⟩ ⟨rfl,rfl,by dsimp only;omega,hK'.perm hpm,hM.put u (M u - 1),hR2⟩ (by dsimp only;omega) (fun _ _ h=>h)
    ·have h1:=Ix h
     rw [if_neg h1] at hK'
     repeat' (first|refine go ?_|refine HK a6 FS ?_|(apply aW;refine aV ?_)|fail)
     exact aB (j+1,⟨T++[z],R,_,_,kh,kt'⟩) rfl ⟨by rw [Iv];rfl,trivial⟩ ⟨rfl,rfl,by dsimp only;omega,hK',hM.put u (M u - 1),hR⟩ (by dsimp only;omega) (fun _ _ h=>h)
   ·have hjl:j=(cL (prt f) (cV g) z).length:=by have:=Ix h;rw [hUi] at this;omega
    subst hjl
    rw [List.take_length] at hK
    repeat' (first|refine go ?_|fail)
    exact aB ⟨T++[z],R,M,mm,kh,kt'⟩ rfl ⟨rfl,trivial⟩ ⟨hK.done hall hTz,hM,hR⟩ (by dsimp only;simp at hTl ⊢;omega) (fun _ _ h=>h)
  ·have hR0:R=[]:=List.eq_nil_of_length_eq_zero (by have:=Ix h;omega)
   subst hR0
   repeat' (first|refine go ?_|refine HK a6 FS ?_)
   refine bc (bf (t:=4) (c':= .imm 1 (aZ T)) rfl fun σ v h=>VR.im h) ?_
   refine cX (L':=uy dbs) (((((List.sublist_append_right _ _).trans (List.sublist_append_right _ _)).trans (List.sublist_append_right _ _)).cons _).cons _) ?_
   exact jU (cs:=[.imm 1 (aZ T)]) dbs [] rfl (Im _) ⟨rfl,trivial⟩ ⟨T,rfl,hK.fin⟩
end Go.Proofs.YtjjpkibjffmceaaGreat
