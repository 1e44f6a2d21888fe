/-
  Numbers in a line, each behind what it needs.
-/
import Derived.Test.YtjjpkibjffmceaaGreatM15
import Derived.Test.YtjjpkibjffmceaaGreatM10
namespace Go.Proofs.YtjjpkibjffmceaaGreat
def cH (n:Nat):List Int:=(List.range n).map fun (i:Nat)=>(i:Int)
theorem fa {n:Nat} {z:Int}:z∈cH n↔0≤z∧z < n:=by
 simp only [cH,List.mem_map,List.mem_range]
 constructor
 ·rintro ⟨i,hi,rfl⟩;omega
 ·rintro ⟨h0,h1⟩;exact ⟨z.toNat,by omega,by omega⟩
theorem ja (n:Nat):(cH n).Nodup:=by
 unfold cH List.Nodup
 rw [List.pairwise_map]
 exact List.nodup_range.imp fun h e=>h (by omega)
theorem fh (n:Nat):(cH n).length=n:=by simp [cH]
theorem jU {n i:Nat} (h:i < n):(cH n)[i]?=some (i:Int):=by simp [cH,h]
theorem rU (n:Nat):cH (n+1)=cH n++[(n:Int)]:=by
 unfold cH
 rw [List.range_succ,List.map_append]
 rfl
def cx (pr:Int→List Int) (gs:List Int) (z:Int):List Int:=gs.flatMap fun g=>((pr g).filter fun p=>decide (p=z)).map fun _=>g
theorem lU (pr:Int→List Int) (z g:Int):∀gs:List Int,gs.Nodup→(cx pr gs z).count g=if g∈gs then (pr g).count z else 0
 | [],_=>by simp [cx]
 | y::gs,h=>by
  have h':=List.nodup_cons.1 h
  have ih:=lU pr z g gs h'.2
  unfold cx at ih ⊢
  rw [List.flatMap_cons,List.count_append,ih]
  by_cases e:y=g
  ·subst e
   rw [if_pos (List.mem_cons_self ..),if_neg h'.1,List.map_const',List.count_replicate_self,Nat.add_zero,List.count_eq_countP,List.countP_eq_length_filter]
   rfl
  ·rw [List.map_const',List.count_replicate,if_neg (by simpa using e),Nat.zero_add]
   by_cases hm:g∈gs
   ·rw [if_pos hm,if_pos (Js _ hm)]
   ·rw [if_neg hm,if_neg (by simp [hm];exact fun h=>e h.symm)]
def lQ (pr:Int→List Int) (T:List Int) (g:Int):Nat:=((pr g).filter fun p=>decide (p∉T)).length
theorem qh (pr:Int→List Int) {T:List Int} {x:Int} (hx:x∉T) (g:Int):lQ pr (T++[x]) g+(pr g).count x=lQ pr T g:=by
 unfold lQ
 induction pr g with
 | nil=>rfl
 | cons p l ih=>
  rw [List.filter_cons,List.filter_cons,List.count_cons]
  by_cases e:p=x
  ·subst e
   rw [if_neg (by simp),if_pos (decide_eq_true hx)]
   rw [if_pos (by simp),List.length_cons]
   omega
  ·have e1:decide (p∉T++[x])=decide (p∉T):=by simp [e]
   rw [e1]
   have e2:(p==x)=false:=by simpa using e
   rw [e2]
   simp only [Bool.false_eq_true,if_false]
   split
   ·simp only [List.length_cons];omega
   ·omega
theorem qi {pr:Int→List Int} {T:List Int} {g:Int}:lQ pr T g=0↔∀p∈pr g,p∈T:=by
 unfold lQ
 rw [List.length_eq_zero_iff,List.filter_eq_nil_iff]
 simp
def yc (pr:Int→List Int) (T:List Int):Prop:=∀(i:Nat) (x:Int),T[i]?=some x→∀p∈pr x,p∈T.take i
theorem yc.snoc {pr:Int→List Int} {T:List Int} {x:Int} (h:yc pr T) (hx:∀p∈pr x,p∈T):yc pr (T++[x]):=by
 intro i y hy p hp
 by_cases hi:i < T.length
 ·rw [List.getElem?_append_left hi] at hy
  rw [List.take_append_of_le_length (by omega)]
  exact h i y hy p hp
 ·rw [List.getElem?_append_right (by omega)] at hy
  have hil:i - T.length=0:=by
   rcases Nat.eq_zero_or_pos (i - T.length) with h0 | h0
   ·exact h0
   ·rw [List.getElem?_eq_none (by simp;omega)] at hy;cases hy
  rw [hil] at hy
  simp at hy
  subst hy
  rw [show i=T.length by omega,List.take_left]
  exact hx p hp
structure nH (n:Nat) (pr:Int→List Int) (T R:List Int) (M:Int→Int):Prop where
 nodup:(T++R).Nodup
 dom:∀z∈T++R,0≤z∧z < n
 miss:∀g:Int,0≤g→g < n→M g=lQ pr T g
 ready:∀g:Int,0≤g→g < n→(g∈T++R↔M g=0)
 topo:yc pr T
structure qV (n:Nat) (pr:Int→List Int) (T:List Int) (x:Int) (us:List Int) (R:List Int) (M:Int→Int):Prop where
 nodup:(T++[x]++R).Nodup
 dom:∀z∈T++[x]++R,0≤z∧z < n
 miss:∀g:Int,0≤g→g < n→M g+us.count g=lQ pr T g
 ready:∀g:Int,0≤g→g < n→(g∈T++[x]++R↔M g=0)
 topo:yc pr (T++[x])
theorem nH.perm {n:Nat} {pr:Int→List Int} {T R R':List Int} {M:Int→Int} (h:nH n pr T R M) (hp:R'.Perm R):nH n pr T R' M:=by
 have hp':(T++R').Perm (T++R):=List.Perm.append_left T hp
 exact ⟨hp'.nodup_iff.2 h.nodup,fun z hz=>h.dom z (hp'.mem_iff.1 hz),h.miss,fun g h0 h1=>by rw [hp'.mem_iff];exact h.ready g h0 h1,h.topo⟩
theorem qV.perm {n:Nat} {pr:Int→List Int} {T R R' us:List Int} {x:Int} {M:Int→Int} (h:qV n pr T x us R M) (hp:R'.Perm R):qV n pr T x us R' M:=by
 have hp':(T++[x]++R').Perm (T++[x]++R):=List.Perm.append_left _ hp
 exact ⟨hp'.nodup_iff.2 h.nodup,fun z hz=>h.dom z (hp'.mem_iff.1 hz),h.miss,fun g h0 h1=>by rw [hp'.mem_iff];exact h.ready g h0 h1,h.topo⟩
theorem nH.pop {n:Nat} {pr:Int→List Int} {T R:List Int} {x:Int} {M:Int→Int} (h:nH n pr T (R++[x]) M):qV n pr T x [] R M:=by
 have hp:(T++[x]++R).Perm (T++(R++[x])):=by
  rw [List.append_assoc]
  exact List.Perm.append_left T List.perm_append_comm
 have hx:=h.dom x (by simp)
 refine ⟨hp.nodup_iff.2 h.nodup,fun z hz=>h.dom z (hp.mem_iff.1 hz),fun g h0 h1=>by simpa using h.miss g h0 h1,fun g h0 h1=>by rw [hp.mem_iff];exact h.ready g h0 h1,h.topo.snoc ?_⟩
 have h1:=(h.ready x hx.1 hx.2).1 (by simp)
 rw [h.miss x hx.1 hx.2] at h1
 exact qi.1 (by omega)
theorem kE {all:List Int} {j:Nat} {u:Int} (h:all[j]?=some u) (g:Int):(all.take (j+1)).count g=(all.take j).count g+if u=g then 1 else 0:=by
 rw [List.take_add_one,h,Option.toList_some,List.count_append]
 by_cases e:u=g
 ·subst e;simp
 ·rw [if_neg e,List.count_singleton,if_neg (by simpa using e)]
theorem qV.step {n:Nat} {pr:Int→List Int} {T R all:List Int} {x u:Int} {j:Nat} {M:Int→Int} (hall:∀g:Int,0≤g→g < n→all.count g=(pr g).count x) (hx:x∉T) (h:qV n pr T x (all.take j) R M) (hu:all[j]?=some u) (h0:0≤u) (h1:u < n):
  0 < M u∧qV n pr T x (all.take (j+1)) (if M u - 1=0 then R++[u] else R) (fun g=>if g=u then M u - 1 else M g):=by
 have hm:=h.miss u h0 h1
 have hlt:(all.take (j+1)).count u≤all.count u:=(List.take_sublist _ _).count_le u
 have hsn:=qh pr hx u
 rw [kE hu,if_pos rfl,hall u h0 h1] at hlt
 have hpos:0 < M u:=by omega
 have hnot:u∉T++[x]++R:=fun hm'=>by have:=(h.ready u h0 h1).1 hm';omega
 refine ⟨hpos,?_⟩
 have hmiss:∀g:Int,0≤g→g < n→(if g=u then M u - 1 else M g)+((all.take (j+1)).count g:Int)=lQ pr T g:=by
  intro g g0 g1
  rw [kE hu]
  by_cases e:g=u
  ·subst e
   rw [if_pos rfl,if_pos rfl]
   have:=h.miss g g0 g1
   omega
  ·rw [if_neg e,if_neg (fun q=>e q.symm)]
   have:=h.miss g g0 g1
   omega
 by_cases hz:M u - 1=0
 ·rw [if_pos hz]
  refine ⟨?_,fun z hz'=>?_,hmiss,fun g g0 g1=>?_,h.topo⟩
  ·rw [←List.append_assoc,List.nodup_append]
   refine ⟨h.nodup,by simp,fun a ha b hb=>?_⟩
   rw [Jl hb]
   exact fun e=>hnot (e▸ha)
  ·rw [←List.append_assoc] at hz'
   rcases Jm hz' with hz' | hz'
   ·exact h.dom z hz'
   ·rw [Jl hz'];exact ⟨h0,h1⟩
  ·rw [←List.append_assoc,List.mem_append,List.mem_singleton]
   by_cases e:g=u
   ·subst e;simp [hz]
   ·rw [if_neg e,h.ready g g0 g1]
    simp [e]
 ·rw [if_neg hz]
  refine ⟨h.nodup,h.dom,hmiss,fun g g0 g1=>?_,h.topo⟩
  by_cases e:g=u
  ·subst e
   rw [if_pos rfl]
   exact ⟨fun q=>absurd q hnot,fun q=>absurd q hz⟩
  ·rw [if_neg e]
   exact h.ready g g0 g1
theorem qV.done {n:Nat} {pr:Int→List Int} {T R all:List Int} {x:Int} {M:Int→Int} (hall:∀g:Int,0≤g→g < n→all.count g=(pr g).count x) (hx:x∉T) (h:qV n pr T x all R M):nH n pr (T++[x]) R M:=by
 refine ⟨h.nodup,h.dom,fun g h0 h1=>?_,h.ready,h.topo⟩
 have h2:=h.miss g h0 h1
 have h3:=qh pr hx g
 rw [hall g h0 h1] at h2
 omega
structure jd (n:Nat) (pr:Int→List Int) (T:List Int):Prop where
 nodup:T.Nodup
 dom:∀z∈T,0≤z∧z < n
 topo:yc pr T
 full:∀g:Int,0≤g→g < n→(∀p∈pr g,p∈T)→g∈T
theorem nH.fin {n:Nat} {pr:Int→List Int} {T:List Int} {M:Int→Int} (h:nH n pr T [] M):jd n pr T:=by
 have h1:=h.nodup
 have h2:=h.dom
 have h3:=h.ready
 rw [List.append_nil] at h1 h2 h3
 exact ⟨h1,h2,h.topo,fun g h0 h4 hp=>(h3 g h0 h4).2 (by rw [h.miss g h0 h4,qi.2 hp];rfl)⟩
theorem nH.start {n:Nat} {pr:Int→List Int} {M:Int→Int} (hM:∀g:Int,0≤g→g < n→M g=(pr g).length):nH n pr [] ((cH n).filter fun g=>decide (M g=0)) M:=by
 refine ⟨by rw [Jq];exact (ja n).filter _,fun z hz=>?_,fun g h0 h1=>?_,fun g h0 h1=>?_,fun i x h=>by simp at h⟩
 ·rw [Jq,List.mem_filter,fa] at hz
  exact hz.1
 ·rw [hM g h0 h1]
  unfold lQ
  rw [List.filter_eq_self.2 (by simp)]
 ·rw [Jq,List.mem_filter,fa,decide_eq_true_eq]
  exact ⟨fun h=>h.2,fun h=>⟨⟨h0,h1⟩,h⟩⟩
def jx (n:Nat) (pr:Int→List Int):Prop:=∃r:Int→Nat,∀g:Int,0≤g→g < n→∀p∈pr g,r p < r g
theorem jd.all {n:Nat} {pr:Int→List Int} {T:List Int} (h:jd n pr T) (ha:jx n pr) (hp:∀g,∀p∈pr g,0≤p∧p < n):∀g:Int,0≤g→g < n→g∈T:=by
 obtain ⟨r,hr⟩:=ha
 have:∀(k:Nat) (g:Int),r g < k→0≤g→g < n→g∈T:=by
  intro k
  induction k with
  | zero=>intro g hk;exact absurd hk (Nat.not_lt_zero _)
  | succ k ih=>
   intro g hk h0 h1
   refine h.full g h0 h1 fun p hpp=>ih p ?_ (hp g p hpp).1 (hp g p hpp).2
   have:=hr g h0 h1 p hpp
   omega
 intro g h0 h1
 exact this (r g+1) g (by omega) h0 h1
theorem jd.len {n:Nat} {pr:Int→List Int} {T:List Int} (h:jd n pr T):T.length≤n:=gc h.nodup h.dom
theorem nf:∀(l T:List Int),l.Nodup→(∀x∈l,x∈T)→l.length≤T.length
 | [],_,_,_=>Nat.zero_le _
 | x::l,T,h,hs=>by
  have h':=List.nodup_cons.1 h
  have hx:=hs x (List.mem_cons_self ..)
  have:=nf l (T.erase x) h'.2 fun y hy=>(List.mem_erase_of_ne (fun e=>h'.1 (by rw [←e];exact hy))).2 (hs y (Js _ hy))
  rw [List.length_erase_of_mem hx] at this
  have hpos:=List.length_pos_of_mem hx
  rw [List.length_cons]
  omega
theorem jd.len_all {n:Nat} {pr:Int→List Int} {T:List Int} (h:jd n pr T) (ha:∀g:Int,0≤g→g < n→g∈T):T.length=n:=by
 refine Nat.le_antisymm h.len ?_
 have:=nf (cH n) T (ja n) fun z hz=>by
  rw [fa] at hz
  exact ha z hz.1 hz.2
 rwa [fh] at this
theorem jd.all_of_len {n:Nat} {pr:Int→List Int} {T:List Int} (h:jd n pr T) (hl:T.length=n):∀g:Int,0≤g→g < n→g∈T:=by
 intro g h0 h1
 apply Classical.byContradiction
 intro hn
 have:=gc (l:=g::T) (n:=n) (List.nodup_cons.2 ⟨hn,h.nodup⟩) fun z hz=>by
  rcases List.mem_cons.1 hz with rfl | hz
  ·exact ⟨h0,h1⟩
  ·exact h.dom z hz
 rw [List.length_cons] at this
 omega
theorem jd.acyc {n:Nat} {pr:Int→List Int} {T:List Int} (h:jd n pr T) (ha:∀g:Int,0≤g→g < n→g∈T):jx n pr:=by
 refine ⟨fun g=>T.idxOf g,fun g h0 h1 p hp=>?_⟩
 have hg:=ha g h0 h1
 have hi:=List.idxOf_lt_length_iff.2 hg
 have h2:=h.topo (T.idxOf g) g (by rw [Jz hi,List.getElem_idxOf]) p hp
 obtain ⟨j,hj⟩:=List.mem_iff_getElem?.1 h2
 rw [List.getElem?_take] at hj
 split at hj
 ·rename_i hlt
  dsimp only
  obtain ⟨hjl,hje⟩:=Jo hj
  have:T.idxOf p≤j:=by
   rw [←hje]
   have:=h.nodup.idxOf_getElem j hjl
   omega
  omega
 ·cases hj
end Go.Proofs.YtjjpkibjffmceaaGreat
namespace Go.Proofs.YtjjpkibjffmceaaGreat
open Go.RowKit
attribute [local irreducible] AT cg AX AO Av Kt bJ eC DA du
theorem Aa (f:aL) (n:Int):bZ Tryz.prog 263 [cr f,aP n] (cM (jk f n)):=by
 refine aX Tryz.func263 rfl Tryz.ntmps263 rfl fun B=>?_
 repeat' (first|refine go ?_|refine IG a6 EV ?_|refine bD ?_|fail)
 refine dH (t:=4) [] (jk f n=true) rfl (fun Q' K=>?_) ?_
 ·repeat' (first|refine go ?_|refine IG a6 EV ?_|refine IR EV ?_|refine IT IC ?_|refine bF rfl rfl rfl (fun _=>?_) (fun _=>?_))
  all_goals exact K _ _ rfl rfl (by unfold jk;simp_all <;> omega)
 repeat' (first|refine go ?_|fail)
 refine IM EV ?_
 simp
instance (f:aL) (n:Int):AD Tryz.prog 263 [cr f,aP n] (cM (jk f n)):=⟨Aa f n⟩
theorem zC (f:aL) (g:Int):bZ Tryz.prog 251 [cr f,aP g] (.fn 262 [.iptr (ci f),.iptr [aP g]]):=by
 refine aX Tryz.func251 rfl Tryz.ntmps251 rfl fun B=>?_
 repeat' (first|refine go ?_|refine IG a6 EV ?_|refine bD ?_|fail)
 exact IP IB
instance (f:aL) (g:Int):AD Tryz.prog 251 [cr f,aP g] (.fn 262 [.iptr (ci f),.iptr [aP g]]):=⟨zC f g⟩
set_option maxHeartbeats 1000000 in
theorem xM {α:Type} {σ0:cP} {l:Nat} (f:aL) (g:Nat) (gl:bL) (hg:f.Glyphs[g]?=some gl) (E:α→AL) (J:Nat→α→Prop)
  (hy:∀i x p,J i x→gl.Parts[i]?=some p→jk f p.Glyph=true→AY Tryz.prog σ0 l [.agg (ct p)] (E x) fun c L=>c=cM true∧∃x',J (i+1) x'∧L=E x')
  (hs:∀i x p,J i x→gl.Parts[i]?=some p→jk f p.Glyph=false→J (i+1) x) (x0:α) (h0:J 0 x0) (hlen:gl.Parts.length≤1000000):
  Ah Tryz.prog σ0 262 [.sc (.func (.yield l) #[] #[]),.iptr (ci f),.iptr [aP g]] (E x0) fun _ L=>∃x,J gl.Parts.length x∧L=E x:=by
 refine nJ Tryz.func262 rfl Tryz.ntmps262 rfl fun B hB=>?_
 have hgg:=bA (c:=bh) hg
 repeat' (first|refine go ?_|refine am ?_|refine IG a6 EV ?_|(apply aV;first|refine aU a6 ?_|refine aN a6 ?_)|fail)
 refine aO [0,1,11,12] (α:=Nat×α) (fun y=>[(13,aP y.1)]) (fun y=>y.1≤gl.Parts.length∧J y.1 y.2) (fun y=>E y.2) (fun y=>gl.Parts.length - y.1) (0,x0) rfl ⟨rfl,trivial⟩ ⟨Nat.zero_le _,h0⟩ (fun _ _ h=>h) ?_
 rintro ⟨i,x⟩ ⟨hi,hj⟩
 dsimp only at hi hj ⊢
 try dsimp only [Jr,Jq,Jp,Jk]
 repeat' (first|refine go ?_|refine IG a6 EV ?_)
 refine au rfl (fun h=>?_) (fun h=>?_)
 ·have hil:i < gl.Parts.length:=by have:=Jy h;simp at this;omega
  obtain ⟨p,hp⟩:∃z,gl.Parts[i]?=some z:=⟨_,Jz hil⟩
  have hpg:=bA (c:=ct) hp
  repeat' (first|refine go ?_|refine am ?_|refine IG a6 EV ?_|(apply aV;first|refine aU a6 ?_|refine aN a6 ?_)|(apply aJ;first|refine II 5 a6 0 IF ?_|refine II 5 a6 1 IF ?_|refine II 5 a6 2 IF ?_|refine IH a6 0 IE ?_|refine IH a6 1 IE ?_|refine IH a6 2 IE ?_|refine IH a6 3 IE ?_|fail)|refine bc a6 fun _=>?_|(apply bB;refine bq ?_)|fail)
  by_cases hG:jk f p.Glyph=true
  ·rw [hG]
   repeat' (first|refine IG a6 EV ?_|refine IR EV ?_)
   refine lB (E x) [] hB (hy i x p hj hp hG) rfl rfl rfl (by rw [List.append_nil];exact Jn _) rfl rfl fun c L1 ⟨hc,x',hj',hL⟩=>?_
   subst hc;subst hL
   rw [List.append_nil]
   repeat' (first|refine go ?_|refine IG a6 EV ?_|refine IR EV ?_|(apply aW;refine aT ?_)|refine bP rfl ?_)
   exact aB (i+1,x') rfl ⟨by rw [Jv];rfl,trivial⟩ ⟨by dsimp only;omega,hj'⟩ (by dsimp only;omega) (fun _ _ h=>h)
  ·have hG':jk f p.Glyph=false:=by simpa using hG
   rw [hG']
   repeat' (first|refine go ?_|refine IG a6 EV ?_|refine IT IC ?_|(apply aW;refine aT ?_)|refine bP rfl ?_)
   exact aB (i+1,x) rfl ⟨by rw [Jv];rfl,trivial⟩ ⟨by dsimp only;omega,hs i x p hj hp hG'⟩ (by dsimp only;omega) (fun _ _ h=>h)
 ·have hil:i=gl.Parts.length:=by have:=Jx h;simp at this;omega
  subst hil
  repeat' (first|refine go ?_|fail)
  exact dB rfl ⟨x,hj,rfl⟩
end Go.Proofs.YtjjpkibjffmceaaGreat
namespace Go.Proofs.YtjjpkibjffmceaaGreat
open Go.RowKit
attribute [local irreducible] AT cg AX AO Av Kt bJ eC DA du
open Go.MapKept
attribute [local irreducible] nE
def prt (f:aL) (g:Int):List Int:=match f.Glyphs[g.toNat]? with
 | some gl=>(gl.Parts.map cD.Glyph).filter (jk f)
 | none=>[]
def vf (f:aL) (gl:bL) (i:Nat):List Int:=((gl.Parts.take i).map cD.Glyph).filter (jk f)
theorem xP {f:aL} {gl:bL} {i:Nat} {p:cD} (h:gl.Parts[i]?=some p) (hg:jk f p.Glyph=true):vf f gl (i+1)=vf f gl i++[p.Glyph]:=by
 unfold vf
 rw [List.take_add_one,h,Option.toList_some,List.map_append,List.filter_append]
 simp [hg]
theorem Cf {f:aL} {gl:bL} {i:Nat} {p:cD} (h:gl.Parts[i]?=some p) (hg:jk f p.Glyph=false):vf f gl (i+1)=vf f gl i:=by
 unfold vf
 rw [List.take_add_one,h,Option.toList_some,List.map_append,List.filter_append]
 simp [hg]
theorem xN {f:aL} {g:Nat} {gl:bL} (hg:f.Glyphs[g]?=some gl):vf f gl gl.Parts.length=prt f g:=by
 unfold vf prt
 rw [Int.toNat_natCast,hg,List.take_length]
theorem xO (f:aL) (gl:bL) (i:Nat):(vf f gl i).length≤gl.Parts.length:=by
 unfold vf
 refine Nat.le_trans (List.length_filter_le _ _) ?_
 rw [Jt,List.length_take]
 omega
theorem ly {f:aL} {z:Int}:jk f z=true↔0≤z∧z < f.Glyphs.length:=by unfold jk;simp
theorem Cg {f:aL} {g p:Int} (h:p∈prt f g):0≤p∧p < f.Glyphs.length:=by
 unfold prt at h
 split at h
 ·rw [List.mem_filter] at h;exact ly.1 h.2
 ·cases h
structure Few (f:aL):Prop where
 n:f.Glyphs.length≤1000
 parts:∀gl∈f.Glyphs,gl.Parts.length≤1000
theorem Few.prt {f:aL} (h:Few f) (g:Int):(prt f g).length≤1000:=by
 unfold Go.Proofs.YtjjpkibjffmceaaGreat.prt
 split
 ·rename_i gl hgl
  refine Nat.le_trans (List.length_filter_le _ _) ?_
  rw [Jt]
  exact h.parts gl (Jw hgl)
 ·exact Nat.zero_le _
theorem lK {pr:Int→List Int} (h:∀g,(pr g).length≤1000) (z:Int):∀gs:List Int,(cx pr gs z).length≤1000 * gs.length
 | []=>by simp [cx]
 | g::gs=>by
  have ih:=lK h z gs
  unfold cx at ih ⊢
  rw [List.flatMap_cons,List.length_append,Jt,List.length_cons]
  have h1:=List.length_filter_le (fun p=>decide (p=z)) (pr g)
  have h2:=h g
  omega
theorem rW {pr:Int→List Int} {gs:List Int} {z g:Int} (h:g∈cx pr gs z):g∈gs:=by
 unfold cx at h
 obtain ⟨y,hy,h1⟩:=List.mem_flatMap.1 h
 obtain ⟨_,_,rfl⟩:=List.mem_map.1 h1
 exact hy
theorem BU (pr:Int→List Int) (T:List Int) (g:Int):lQ pr T g≤(pr g).length:=List.length_filter_le _ _
def Mi (f:aL) (gl:bL) (g i:Nat):Int→Int:=fun z=>if z=g then (vf f gl i).length else if 0≤z∧z < g then (prt f z).length else 0
def Ui (f:aL) (gl:bL) (g i:Nat):Int→List Int:=fun z=>cx (prt f) (cH g) z++((vf f gl i).filter fun p=>decide (p=z)).map fun _=>(g:Int)
def Mb (f:aL) (g:Nat):Int→Int:=fun z=>if 0≤z∧z < g then (prt f z).length else 0
def Rb (f:aL) (g:Nat):List Int:=(cH g).filter fun z=>decide ((prt f z).length=0)
theorem D2 (f:aL) (gl:bL) (g:Nat):Mi f gl g 0=Mb f g:=by
 funext z
 unfold Mi Mb vf
 by_cases e:z=g
 ·subst e;rw [if_pos rfl,if_neg (by omega)];rfl
 ·rw [if_neg e]
theorem pd (f:aL) (gl:bL) (g:Nat):Ui f gl g 0=cx (prt f) (cH g):=by
 funext z
 unfold Ui vf
 simp
theorem Fp {f:aL} {g:Nat} {gl:bL} (hg:f.Glyphs[g]?=some gl):Mi f gl g gl.Parts.length=Mb f (g+1):=by
 funext z
 unfold Mi Mb
 rw [xN hg]
 by_cases e:z=g
 ·subst e;rw [if_pos rfl,if_pos (by omega)]
 ·rw [if_neg e]
  by_cases h:0≤z∧z < g
  ·rw [if_pos h,if_pos (by omega)]
  ·rw [if_neg h,if_neg (by omega)]
theorem An {f:aL} {g:Nat} {gl:bL} (hg:f.Glyphs[g]?=some gl):Ui f gl g gl.Parts.length=cx (prt f) (cH (g+1)):=by
 funext z
 unfold Ui
 rw [xN hg,rU]
 unfold cx
 rw [List.flatMap_append]
 simp
theorem Fq {f:aL} {gl:bL} {g i:Nat} {p:cD} (h:gl.Parts[i]?=some p) (hg:jk f p.Glyph=true):(fun q=>if q=(g:Int) then Mi f gl g i g+1 else Mi f gl g i q)=Mi f gl g (i+1):=by
 funext q
 unfold Mi
 rw [xP h hg]
 by_cases e:q=g
 ·rw [if_pos e,if_pos e,if_pos rfl];simp
 ·rw [if_neg e,if_neg e,if_neg e]
theorem Ap {f:aL} {gl:bL} {g i:Nat} {p:cD} (h:gl.Parts[i]?=some p) (hg:jk f p.Glyph=true):(fun q=>if q=p.Glyph then Ui f gl g i p.Glyph++[(g:Int)] else Ui f gl g i q)=Ui f gl g (i+1):=by
 funext q
 unfold Ui
 rw [xP h hg,List.filter_append,List.map_append]
 by_cases e:q=p.Glyph
 ·subst e;rw [if_pos rfl];simp
 ·have e':¬p.Glyph=q:=fun h=>e h.symm
  rw [if_neg e];simp [e']
theorem GO {f:aL} {gl:bL} {g i:Nat} {p:cD} (h:gl.Parts[i]?=some p) (hg:jk f p.Glyph=false):Mi f gl g (i+1)=Mi f gl g i:=by unfold Mi;rw [Cf h hg]
theorem EY {f:aL} {gl:bL} {g i:Nat} {p:cD} (h:gl.Parts[i]?=some p) (hg:jk f p.Glyph=false):Ui f gl g (i+1)=Ui f gl g i:=by unfold Ui;rw [Cf h hg]
theorem Ao {f:aL} (hf:Few f) (gl:bL) (hgl:gl∈f.Glyphs) {g:Nat} (hg:g≤1000) (i:Nat) (z:Int):(Ui f gl g i z).length≤1001000:=by
 unfold Ui
 have h1:=lK hf.prt z (cH g)
 have h2:=xO f gl i
 have h3:=List.length_filter_le (fun p=>decide (p=z)) (vf f gl i)
 have h4:=hf.parts gl hgl
 rw [fh] at h1
 rw [List.length_append,Jt]
 omega
theorem lj (f:aL) (g:Nat):Rb f (g+1)=if (prt f g).length=0 then Rb f g++[(g:Int)] else Rb f g:=by
 unfold Rb
 rw [rU,List.filter_append]
 by_cases h:(prt f g).length=0
 ·rw [if_pos h,List.filter_cons_of_pos (by simpa using h)];rfl
 ·rw [if_neg h,List.filter_cons_of_neg (by simpa using h)];simp
theorem Al (f:aL) (g:Nat):(Rb f g).length≤g:=by
 unfold Rb
 refine Nat.le_trans (List.length_filter_le _ _) ?_
 rw [fh]
 exact Nat.le_refl _
theorem j9 {a b:Nat×AB} {T T' t H R:AL} (h:T.Perm (t++T')):(a::b::(H++(T++R))).Perm (t++(a::b::(H++(T'++R)))):=by
 have h1:(a::b::(H++(T++R))).Perm (a::b::(H++(t++(T'++R)))):=by
  refine List.Perm.cons _ (List.Perm.cons _ (List.Perm.append_left _ ?_))
  rw [←List.append_assoc]
  exact h.append_right _
 refine h1.trans ?_
 have h2:(a::b::(H++(t++(T'++R))))=((a::b::H)++t)++(T'++R):=by simp
 have h3:t++(a::b::(H++(T'++R)))=(t++(a::b::H))++(T'++R):=by simp
 rw [h2,h3]
 exact List.Perm.append_right _ List.perm_append_comm
theorem ir {rec:Loop} (h1:rec.state= .ready) (h2:rec.pending=none):({ ({ rec with state:= .busy }:Loop) with state:= .ready,pending:=none }:Loop)=rec:=by cases rec;simp_all
abbrev KI:TypeDesc:= .int .i64
theorem D1 (f:aL):Mb f 0=fun _=>0:=by
 funext z
 unfold Mb
 rw [if_neg (by omega)]
abbrev KT:=Int→Option (Nat×Nat)
abbrev VM:=Value→Option AV
abbrev LX:=VM×VM×KT×(Int→List Int)
theorem uO {a b c d e:Nat×AB} {T M:AL}:(d::a::b::c::(T++(M++[e]))).Perm (a::b::c::d::(T++(e::M))):=by
 refine (List.perm_middle (l₁:=[a,b,c])).symm.trans ?_
 exact List.Perm.cons _ (List.Perm.cons _ (List.Perm.cons _ (List.Perm.cons _ (List.Perm.append_left T (List.perm_append_singleton e M)))))
def sC (bm bu p n:Nat) (kh:Option (Nat×List AV)) (R:List Int) (rest:AL) (x:LX):AL:=(bm,cn KI x.1)::(bu,cn KI x.2.1)::(hst p kh R++(kO 3 x.2.2.1 x.2.2.2 (cH n)++rest))
abbrev LS:=Nat×List Nat×VM×VM×KT×Option (Nat×List AV)
def lP (dbs:List Nat):AL:=dbs.map fun b=>(b,g8)
theorem o7 {a b:Nat×AB} {H X:AL}:(a::b::(H++X)).Perm (H++(a::b::X)):=by
 have h1:(a::b::(H++X))=(a::b::H)++X:=rfl
 have h2:H++(a::b::X)=(H++[a,b])++X:=by simp
 rw [h1,h2]
 exact (List.perm_append_comm (l₁:=[a,b]) (l₂:=H)).append_right X
structure KS where
 T:List Int
 R:List Int
 M:Int→Int
 mm:VM
 kh:Option (Nat×List AV)
 kt:Option (Nat×Nat)
def HM (bm bu p:Nat) (mu:VM) (X:AL) (x:KS):AL:=(bm,cn KI x.mm)::(bu,cn KI mu)::(hst p x.kh x.R++(tok x.kt 3 1 (aS x.T).length++X))
set_option maxHeartbeats 8000000 in
theorem E9 (f:aL) (hf:Few f):AC Tryz.prog 226 [cr f,.imm 1 (aS (cH f.Glyphs.length))] [] fun c _=>∃T,c= .imm 1 (aS T)∧jd f.Glyphs.length (prt f) T:=by
 refine lX Tryz.func226 rfl Tryz.ntmps226 rfl fun B=>?_
 have hn:=hf.n
 have hil:(aS (cH f.Glyphs.length)).length=f.Glyphs.length:=by rw [aF,fh]
 generalize hN:f.Glyphs.length=n at *
 repeat' (first|refine go ?_|refine IG a6 EV ?_|refine bD ?_|fail)
 refine eG KI fun bm=>?_
 repeat' (first|refine go ?_|(apply aJ;first|refine II 5 a6 0 IF ?_|refine II 5 a6 1 IF ?_|refine II 5 a6 2 IF ?_|refine II 6 a6 0 IF ?_|refine II 6 a6 1 IF ?_|refine II 6 a6 2 IF ?_|refine II 9 a6 0 IF ?_|refine II 9 a6 1 IF ?_|refine II 9 a6 2 IF ?_|refine II 10 a6 0 IF ?_|refine II 10 a6 1 IF ?_|refine II 10 a6 2 IF ?_|refine IH a6 0 IE ?_|refine IH a6 1 IE ?_|refine IH a6 2 IE ?_|refine IH a6 3 IE ?_|fail)|refine bc a6 fun _=>?_|fail)
 refine eG KI fun bu=>?_
 repeat' (first|refine go ?_|refine am ?_|refine IG a6 EV ?_|(apply aJ;first|refine II 5 a6 0 IF ?_|refine II 5 a6 1 IF ?_|refine II 5 a6 2 IF ?_|refine II 6 a6 0 IF ?_|refine II 6 a6 1 IF ?_|refine II 6 a6 2 IF ?_|refine II 9 a6 0 IF ?_|refine II 9 a6 1 IF ?_|refine II 9 a6 2 IF ?_|refine II 10 a6 0 IF ?_|refine II 10 a6 1 IF ?_|refine II 10 a6 2 IF ?_|refine IH a6 0 IE ?_|refine IH a6 1 IE ?_|refine IH a6 2 IE ?_|refine IH a6 3 IE ?_|fail)|refine bc a6 fun _=>?_|fail)
 rename_i p
 refine tL [2,5,6,7,17,18] (α:=LS) (fun x=>xD x.2.1) (fun x=>[(19,aP x.1)]) (fun x=>x.1≤n∧nI x.2.2.1 (Mb f x.1)∧kK x.2.2.2.1 x.2.2.2.2.1 (cx (prt f) (cH x.1))∧om x.2.2.2.2.2 (Rb f x.1)) (fun x=>sC bm bu p n x.2.2.2.2.2 (Rb f x.1) (lP x.2.1) (x.2.2.1,x.2.2.2.1,x.2.2.2.2.1,cx (prt f) (cH x.1))) (fun x=>n - x.1) (0,[],(fun _=>none),(fun _=>none),(fun _=>none),none) rfl ⟨rfl,trivial⟩ rfl ⟨Nat.zero_le _,?_,?_,rfl⟩ (fun σ w h=>?_) ?_
 ·intro z;exact .inl ⟨rfl,by rw [D1]⟩
 ·intro z;exact .inl ⟨rfl,rfl,rfl⟩
 ·have h1:=dQ.perm (L:=[(p,.box [.sc (.slice none 0 0)] 337),(bu,cn KI fun _=>none),(bm,cn KI fun _=>none)]) h (List.reverse_perm _).symm
  have h2:sC bm bu p n none (Rb f 0) (lP []) ((fun _=>none),(fun _=>none),(fun _=>none),cx (prt f) (cH 0))=[(bm,cn KI fun _=>none),(bu,cn KI fun _=>none),(p,.box [.sc (.slice none 0 0)] 337)]:=by
   unfold sC
   rw [rS]
   rfl
  show dQ B σ (sC bm bu p n none (Rb f 0) (lP []) ((fun _=>none),(fun _=>none),(fun _=>none),cx (prt f) (cH 0))) w
  rw [h2]
  exact h1
 rintro ⟨g,dbs,mm,mu,K,kh⟩ ⟨hg,hM,hU,hR⟩
 dsimp only at hg hM hU hR ⊢
 try dsimp only [Jr,Jq,Jp,Jk]
 repeat' (first|refine go ?_|refine IG a6 EV ?_)
 rw [hil]
 refine au rfl (fun h=>?_) (fun h=>?_)
 ·have hgl:g < n:=by have:=Jy h;omega
  obtain ⟨gl,hgg⟩:∃z,f.Glyphs[g]?=some z:=⟨_,Jz (by omega)⟩
  have hgm:=Jw hgg
  have hgi:=bQ (jU hgl)
  clear h
  unfold sC
  dsimp only
  repeat' (first|refine go ?_|refine am ?_|refine IG a6 EV ?_|(apply aV;first|refine aU a6 ?_|refine aN a6 ?_)|(apply aJ;first|refine II 5 a6 0 IF ?_|refine II 5 a6 1 IF ?_|refine II 5 a6 2 IF ?_|refine II 6 a6 0 IF ?_|refine II 6 a6 1 IF ?_|refine II 6 a6 2 IF ?_|refine II 9 a6 0 IF ?_|refine II 9 a6 1 IF ?_|refine II 9 a6 2 IF ?_|refine II 10 a6 0 IF ?_|refine II 10 a6 1 IF ?_|refine II 10 a6 2 IF ?_|refine IH a6 0 IE ?_|refine IH a6 1 IE ?_|refine IH a6 2 IE ?_|refine IH a6 3 IE ?_|fail)|refine bc a6 fun _=>?_|(apply bB;refine bq ?_)|fail)
  refine iG (fr':=[(2,.iptr (ci f)),(5,.iptr [.sc (.map (some bm))]),(6,.iptr [.sc (.map (some bu))]),(7,.sc (.pointer (some ⟨p,0,none⟩))),(9,.iptr [aP g]),(17,.imm 1 (aS (cH n))),(18,aP n),(19,aP g),(25,.fn 262 [.iptr (ci f),.iptr [aP g]])]) (L':=sC bm bu p n kh (Rb f g) (lP dbs) (mm,mu,K,Ui f gl g 0)) ⟨rfl,rfl,rfl,rfl,rfl,rfl,rfl,rfl,rfl,trivial⟩ (fun _ _ h=>by rw [pd];exact h) ?_
  refine ib (ps:=[26]) rfl fun σ0 l db rec hrec=>?_
  have hy:∀(i:Nat) (x:LX) (q:cD),(nI x.1 (Mi f gl g i)∧kK x.2.1 x.2.2.1 x.2.2.2∧x.2.2.2=Ui f gl g i)→gl.Parts[i]?=some q→jk f q.Glyph=true→AY Tryz.prog σ0 l [.agg (ct q)] (sC bm bu p n kh (Rb f g) (lP dbs) x++[(db,g8)]++[(l,fY rec)]) fun c L=>c=cM true∧∃x':LX,(nI x'.1 (Mi f gl g (i+1))∧kK x'.2.1 x'.2.2.1 x'.2.2.2∧x'.2.2.2=Ui f gl g (i+1))∧L=sC bm bu p n kh (Rb f g) (lP dbs) x'++[(db,g8)]++[(l,fY rec)]:=by
   rintro i ⟨mm,mu,K,U⟩ q ⟨hM,hU,rfl⟩ hq hG
   dsimp only at hM hU ⊢
   refine ox hrec rfl rfl fun B1 hB1=>?_
   repeat' (first|refine go ?_|(apply aJ;first|refine II 5 a6 0 IF ?_|refine II 5 a6 1 IF ?_|refine II 5 a6 2 IF ?_|refine II 6 a6 0 IF ?_|refine II 6 a6 1 IF ?_|refine II 6 a6 2 IF ?_|refine II 9 a6 0 IF ?_|refine II 9 a6 1 IF ?_|refine II 9 a6 2 IF ?_|refine II 10 a6 0 IF ?_|refine II 10 a6 1 IF ?_|refine II 10 a6 2 IF ?_|refine IH a6 0 IE ?_|refine IH a6 1 IE ?_|refine IH a6 2 IE ?_|refine IH a6 3 IE ?_|fail)|refine bc a6 fun _=>?_|fail)
   refine ic hrec.state ?_
   unfold sC
   dsimp only
   have hqr:=ly.1 hG
   have hcnt:=xO f gl i
   have hpl:=hf.parts gl hgm
   have hMg:Mi f gl g i g=(vf f gl i).length:=by unfold Mi;rw [if_pos rfl]
   simp only [Jr,List.append_assoc]
   have hUl:=Ao hf gl hgm (g:=g) (by omega) i q.Glyph
   have hUi:(aS (Ui f gl g i q.Glyph)).length=(Ui f gl g i q.Glyph).length:=aF _
   have hz:q.Glyph∈cH n:=fa.2 (by omega)
   repeat' (first|refine go ?_|refine am ?_|refine IG a6 EV ?_)
   refine jL 0 (.int .i64 0) (aP (Mi f gl g i g)) Tryz.underlying99 Tryz.underlying3 rfl rfl rfl rfl (by kernel_rfl) (hM.at g) rfl ?_
   repeat' (first|(apply aW;refine aT ?_)|fail)
   refine dl 0 (l9 mm (.int .i64 g) (aP (Mi f gl g i g+1))) Tryz.underlying99 Tryz.underlying3 rfl rfl rfl rfl rfl iN (fun q h=>i3 q h) ?_
   repeat' (first|refine go ?_|fail)
   refine br 10 [(0,.v),(1,.v),(2,.v),(3,.v),(4,.v),(5,.v),(7,.v),(8,.v),(6,.e),(9,.e)] none ?_ trivial rfl (by kernel_rfl) (by kernel_rfl) (by kernel_rfl) mixed (by kernel_rfl) rfl
   repeat' (first|refine aC ?_|refine aY a6 ?_|refine dU a6 ?_|fail)
   refine nT 1 (.slice none 0 0) (.vec (K q.Glyph) 1 (aS (Ui f gl g i q.Glyph))) Tryz.underlying336 Tryz.underlying3 rfl rfl rfl rfl (by kernel_rfl) (hU.at q.Glyph) trivial ?_
   repeat' (first|refine aC ?_|fail)
   refine eI a6 _ rfl rfl rfl rfl (j9 (lI hz)) (by rw [hUi];show _+1≤_;omega) (by rw [hUi];show (_+1) * 8≤_;omega) trivial fun k'=>?_
   repeat' (first|fail)
   refine IQ [2,5,6,7,9,17,18,19,26,31,33,40] EV ?_
   have hput:=vd (e:=3) (K:=K) (U:=Ui f gl g i) (k:=k') (l:=Ui f gl g i q.Glyph++[(g:Int)]) (ja n) hz
   rw [show aS (Ui f gl g i q.Glyph)++[[AV.sc (.int .i64 (g:Int))]]=aS (Ui f gl g i q.Glyph++[(g:Int)]) from eh _ [(g:Int)]]
   refine aK (aM (j9 hput.symm).symm) ?_
   repeat' (first|fail)
   refine dl 1 (l9 mu (.int .i64 q.Glyph) (.vec k' 1 (aS (Ui f gl g i q.Glyph++[(g:Int)])))) Tryz.underlying336 Tryz.underlying3 rfl rfl rfl rfl rfl iN (fun q h=>i3 q h) ?_
   repeat' (first|refine go ?_|fail)
   refine ba (L':=sC bm bu p n kh (Rb f g) (lP dbs) (l9 mm (.int .i64 g) (aP (Mi f gl g i g+1)),l9 mu (.int .i64 q.Glyph) (.vec k' 1 (aS (Ui f gl g i q.Glyph++[(g:Int)]))),(fun y=>if y=q.Glyph then k' else K y),fun y=>if y=q.Glyph then Ui f gl g i q.Glyph++[(g:Int)] else Ui f gl g i y)++[(db,g8)]++[(l,fY { rec with state:= .busy })]) (aM (List.Perm.of_eq (by simp only [sC,gn,Jr,List.append_assoc,Jq]))) (js ?_)
   rw [ir hrec.state hrec.pending]
   refine ⟨rfl,(l9 mm (.int .i64 g) (aP (Mi f gl g i g+1)),l9 mu (.int .i64 q.Glyph) (.vec k' 1 (aS (Ui f gl g i q.Glyph++[(g:Int)]))),(fun y=>if y=q.Glyph then k' else K y),fun y=>if y=q.Glyph then Ui f gl g i q.Glyph++[(g:Int)] else Ui f gl g i y),⟨?_,hU.put q.Glyph k' _,Ap hq hG⟩,?_⟩
   ·have:=hM.put g (Mi f gl g i g+1)
    rw [Fq hq hG] at this
    exact this
   ·simp only [sC,Jr,List.append_assoc,Jq]
  have hsk:∀(i:Nat) (x:LX) (q:cD),(nI x.1 (Mi f gl g i)∧kK x.2.1 x.2.2.1 x.2.2.2∧x.2.2.2=Ui f gl g i)→gl.Parts[i]?=some q→jk f q.Glyph=false→(nI x.1 (Mi f gl g (i+1))∧kK x.2.1 x.2.2.1 x.2.2.2∧x.2.2.2=Ui f gl g (i+1)):=by
   intro i x q h hq hG
   rw [GO hq hG,EY hq hG]
   exact h
  have hit:=xM (σ0:=σ0) (l:=l) f g gl hgg (fun x=>sC bm bu p n kh (Rb f g) (lP dbs) x++[(db,g8)]++[(l,fY rec)]) (fun i x=>nI x.1 (Mi f gl g i)∧kK x.2.1 x.2.2.1 x.2.2.2∧x.2.2.2=Ui f gl g i) hy hsk (mm,mu,K,Ui f gl g 0) ⟨by rw [D2];exact hM,by rw [pd];exact hU,rfl⟩ (by have:=hf.parts gl hgm;omega)
  refine ⟨_,hit,?_⟩
  rintro c L' ⟨⟨mm',mu',K',U'⟩,⟨hM',hU',rfl⟩,rfl⟩
  dsimp only at hM' hU' ⊢
  refine ⟨rec,_,Jn _,(by rw [hrec.state];intro h;cases h),?_⟩
  rw [hrec.pending]
  show AX _ _ _ _ _ _ _ _
  rw [Fp hgg] at hM'
  rw [An hgg] at hU' ⊢
  clear hy hsk hit hM hU
  unfold sC
  dsimp only
  simp only [Jr,List.append_assoc]
  repeat' (first|refine go ?_|refine IG a6 EV ?_)
  refine jL 0 (.int .i64 0) (aP (Mb f (g+1) g)) Tryz.underlying99 Tryz.underlying3 rfl rfl rfl rfl (by kernel_rfl) (hM'.at g) rfl ?_
  rw [show Mb f (g+1) g=(prt f g).length by unfold Mb;rw [if_pos (by omega)]]
  repeat' (first|refine go ?_|refine IG a6 EV ?_)
  refine au rfl (fun h=>?_) (fun h=>?_)
  ·have h0:(prt f g).length=0:=by have:=Jy h;omega
   cases kh with
   | none=>
    have hR0:Rb f g=[]:=hR
    unfold hst pY uo
    dsimp only
    simp only [Jr,Jq]
    repeat' (first|refine go ?_|refine IG a6 EV ?_|(apply bH;first|refine IJ a6 0 ID ?_|refine IJ a6 1 ID ?_|refine IJ a6 2 ID ?_|refine IJ a6 3 ID ?_|refine IK a6 0 ID ?_|refine IK a6 1 ID ?_|refine IK a6 2 ID ?_|refine IL a6 1 IB (by assumption) rfl ?_|refine IL a6 0 IB (by assumption) rfl ?_|fail)|refine bG a6 ?_|fail)
    refine zq a6 rfl rfl rfl rfl rfl rfl rfl fun b' cs' h1 h2=>?_
    repeat' (first|refine go ?_|refine IG a6 EV ?_|(apply aW;refine aT ?_)|(apply aJ;first|refine II 5 a6 0 IF ?_|refine II 5 a6 1 IF ?_|refine II 5 a6 2 IF ?_|refine II 6 a6 0 IF ?_|refine II 6 a6 1 IF ?_|refine II 6 a6 2 IF ?_|refine II 9 a6 0 IF ?_|refine II 9 a6 1 IF ?_|refine II 9 a6 2 IF ?_|refine II 10 a6 0 IF ?_|refine II 10 a6 1 IF ?_|refine II 10 a6 2 IF ?_|refine IH a6 0 IE ?_|refine IH a6 1 IE ?_|refine IH a6 2 IE ?_|refine IH a6 3 IE ?_|fail))
    refine lp (g+1,db::dbs,mm',mu',K',some (b',cs')) rfl ⟨by rw [Jv];rfl,trivial⟩ rfl ⟨by dsimp only;omega,hM',hU',?_⟩ (by dsimp only;omega) (fun σ w h=>?_)
    ·rw [lj,if_pos h0,hR0]
     exact ⟨h1,h2,h2⟩
    ·have h:=dQ.perm (L:=(b',.box cs' 3)::(bm,cn KI mm')::(bu,cn KI mu')::(p,.box [.sc (.slice (some ⟨b',0,none⟩) 1 cs'.length)] 337)::(kO 3 K' (cx (prt f) (cH (g+1))) (cH n)++(lP dbs++[(db,g8)]))) h uO
     show dQ B σ (sC bm bu p n (some (b',cs')) (Rb f (g+1)) (lP (db::dbs)) (mm',mu',K',cx (prt f) (cH (g+1)))) w
     rw [lj,if_pos h0,hR0]
     exact h
   | some kk=>
    obtain ⟨b,cs⟩:=kk
    rw [j1]
    simp only [Jr,Jq]
    repeat' (first|refine go ?_|refine IG a6 EV ?_|(apply bH;first|refine IJ a6 0 ID ?_|refine IJ a6 1 ID ?_|refine IJ a6 2 ID ?_|refine IJ a6 3 ID ?_|refine IK a6 0 ID ?_|refine IK a6 1 ID ?_|refine IK a6 2 ID ?_|refine IL a6 1 IB (by assumption) rfl ?_|refine IL a6 0 IB (by assumption) rfl ?_|fail)|refine bG a6 ?_|fail)
    have hRl:=Al f g
    refine zp a6 3 rfl rfl rfl rfl rfl rfl rfl hR.2.1 (by omega) (by omega) rfl fun b' cs' h1 h2=>?_
    repeat' (first|refine go ?_|refine IG a6 EV ?_|(apply aW;refine aT ?_)|(apply aJ;first|refine II 5 a6 0 IF ?_|refine II 5 a6 1 IF ?_|refine II 5 a6 2 IF ?_|refine II 6 a6 0 IF ?_|refine II 6 a6 1 IF ?_|refine II 6 a6 2 IF ?_|refine II 9 a6 0 IF ?_|refine II 9 a6 1 IF ?_|refine II 9 a6 2 IF ?_|refine II 10 a6 0 IF ?_|refine II 10 a6 1 IF ?_|refine II 10 a6 2 IF ?_|refine IH a6 0 IE ?_|refine IH a6 1 IE ?_|refine IH a6 2 IE ?_|refine IH a6 3 IE ?_|fail))
    refine lp (g+1,db::dbs,mm',mu',K',some (b',cs')) rfl ⟨by rw [Jv];rfl,trivial⟩ rfl ⟨by dsimp only;omega,hM',hU',?_⟩ (by dsimp only;omega) (fun σ w h=>?_)
    ·rw [lj,if_pos h0]
     refine ⟨?_,by rw [List.length_append];exact h2,by omega⟩
     rw [List.length_append,List.map_append,←hR.1]
     exact h1
    ·have h:=dQ.perm (L:=(b',.box cs' 3)::(bm,cn KI mm')::(bu,cn KI mu')::(p,.box [.sc (.slice (some ⟨b',0,none⟩) ((Rb f g).length+1) cs'.length)] 337)::(kO 3 K' (cx (prt f) (cH (g+1))) (cH n)++(lP dbs++[(db,g8)]))) h uO
     show dQ B σ (sC bm bu p n (some (b',cs')) (Rb f (g+1)) (lP (db::dbs)) (mm',mu',K',cx (prt f) (cH (g+1)))) w
     rw [lj,if_pos h0]
     unfold sC
     rw [j1,List.length_append]
     exact h
  ·have h0:¬(prt f g).length=0:=by have:=Jx h;omega
   repeat' (first|refine go ?_|refine IG a6 EV ?_|(apply aW;refine aT ?_)|fail)
   refine lp (g+1,db::dbs,mm',mu',K',kh) rfl ⟨by rw [Jv];rfl,trivial⟩ rfl ⟨by dsimp only;omega,hM',hU',by rw [lj,if_neg h0];exact hR⟩ (by dsimp only;omega) (fun σ w h=>?_)
   show dQ B σ (sC bm bu p n kh (Rb f (g+1)) (lP (db::dbs)) (mm',mu',K',cx (prt f) (cH (g+1)))) w
   rw [lj,if_neg h0]
   refine h.perm (List.Perm.cons _ (List.Perm.cons _ (List.Perm.append_left _ (List.Perm.append_left _ ?_))))
   exact List.perm_append_singleton _ _
 have hgn:g=n:=by have:=Jx h;omega
 subst hgn
 clear h
 have hst0:nH g (prt f) [] (Rb f g) (Mb f g):=by
  have h1:=nH.start (n:=g) (pr:=prt f) (M:=Mb f g) fun z h0 h1=>by unfold Mb;rw [if_pos ⟨h0,h1⟩]
  have h2:(cH g).filter (fun z=>decide (Mb f g z=0))=Rb f g:=by
   unfold Rb
   refine List.filter_congr fun z hz=>?_
   unfold Mb
   rw [if_pos (fa.1 hz)]
   exact decide_eq_decide.2 (by omega)
  rw [h2] at h1
  exact h1
 have hRl:=Al f g
 unfold sC
 dsimp only
 repeat' (first|refine go ?_|refine lO ?_)
 refine nc (by kernel_rfl) rfl rfl ?_
 repeat' (first|fail)
 refine bn (hst p kh (Rb f g)) _ (Bx p kh (Rb f g) hR (by omega)) rfl rfl o7 rfl fun c L1 ⟨kh',R',hL,hR',hpm⟩=>?_
 subst hL
 refine aK (aM o7.symm) ?_
 repeat' (first|refine go ?_|refine am ?_|refine IG a6 EV ?_)
 refine bN (bo (t:=11) (c':= .vec none 1 (aS [])) rfl fun σ v h=>cO 1 h) ?_
 refine aO [5,6,7] (α:=KS) (fun x=>[(11,.vec x.kt 1 (aS x.T))]) (fun x=>nH g (prt f) x.T x.R x.M∧nI x.mm x.M∧om x.kh x.R) (fun x=>HM bm bu p mu (kO 3 K (cx (prt f) (cH g)) (cH g)++lP dbs) x) (fun x=>g - x.T.length) ⟨[],R',Mb f g,mm,kh',none⟩ rfl ⟨rfl,trivial⟩ ⟨hst0.perm hpm,hM,hR'⟩ (fun σ w h=>?_) ?_
 ·exact h
 rintro ⟨T,R,M,mm,kh,kt⟩ ⟨hK,hM,hR⟩
 dsimp only at hK hM hR ⊢
 unfold HM
 dsimp only
 try dsimp only [Jr,Jq,Jp,Jk]
 cases kh with
 | none=>
  have hR0:R=[]:=hR
  subst hR0
  unfold hst pY uo
  dsimp only
  repeat' (first|refine go ?_|refine IG a6 EV ?_|(apply bH;first|refine IJ a6 0 ID ?_|refine IJ a6 1 ID ?_|refine IJ a6 2 ID ?_|refine IJ a6 3 ID ?_|refine IK a6 0 ID ?_|refine IK a6 1 ID ?_|refine IK a6 2 ID ?_|refine IL a6 1 IB (by assumption) rfl ?_|refine IL a6 0 IB (by assumption) rfl ?_|fail)|refine bP rfl ?_)
  refine ba (bo (t:=4) (c':= .imm 1 (aS T)) rfl fun σ v h=>VR.im h) ?_
  refine cQ (L':=lP dbs) (((((List.sublist_append_right _ _).trans (List.sublist_append_right _ _)).trans (List.sublist_append_right _ _)).cons _).cons _) ?_
  exact i8 (cs:=[.imm 1 (aS T)]) dbs [] rfl (Jn _) ⟨rfl,trivial⟩ ⟨T,rfl,hK.fin⟩
 | some kk=>
  obtain ⟨b,cs⟩:=kk
  rw [j1]
  have hTR:=gc hK.nodup hK.dom
  rw [List.length_append] at hTR
  repeat' (first|refine go ?_|refine IG a6 EV ?_|(apply bH;first|refine IJ a6 0 ID ?_|refine IJ a6 1 ID ?_|refine IJ a6 2 ID ?_|refine IJ a6 3 ID ?_|refine IK a6 0 ID ?_|refine IK a6 1 ID ?_|refine IK a6 2 ID ?_|refine IL a6 1 IB (by assumption) rfl ?_|refine IL a6 0 IB (by assumption) rfl ?_|fail)|fail)
  refine au rfl (fun h=>?_) (fun h=>?_)
  ·have h0:0 < R.length:=by have:=Jy h;omega
   clear h
   repeat' (first|refine go ?_|refine am ?_)
   refine nc (by kernel_rfl) rfl rfl ?_
   repeat' (first|fail)
   refine bn (hst p (some (b,cs)) R) _ (E4 p b cs R hR h0 (by omega)) rfl rfl o7 rfl fun c L1 ⟨z,cs',R',hc,hL,hR',hpm⟩=>?_
   subst hc;subst hL
   refine aK (aM o7.symm) ?_
   repeat' (first|fail)
   refine BX (by kernel_rfl) rfl rfl ?_
   repeat' (first|refine go ?_|refine IG a6 EV ?_|refine bG a6 ?_|fail)
   have hKm:=(hK.perm hpm).pop
   have hz:=hKm.dom z (by simp)
   have hTz:z∉T:=fun hm=>by
    have:=hKm.nodup
    rw [List.append_assoc,List.nodup_append] at this
    exact this.2.2 z hm z (by simp) rfl
   have hTl:=gc (List.nodup_append.1 hKm.nodup).1 (fun y hy=>hKm.dom y (List.mem_append_left _ hy))
   rw [List.length_append] at hTl
   have hTi:=aF T
   have hall:∀q:Int,0≤q→q < g→(cx (prt f) (cH g) z).count q=(prt f q).count z:=fun q q0 q1=>by rw [lU _ _ _ _ (ja g),if_pos (fa.2 ⟨q0,q1⟩)]
   have hUl:=lK hf.prt z (cH g)
   rw [fh] at hUl
   refine IS a6 _ IC (j9 (T:=tok kt 3 1 (aS T).length) (T':=[]) (by rw [List.append_nil])) (by rw [hTi];show _+1≤_;simp at hTl;omega) (by rw [hTi];show (_+1) * 8≤_;simp at hTl;omega) rfl fun k'=>?_
   rw [show aS T++[[AV.sc (.int .i64 z)]]=aS (T++[z]) from eh T [z]]
   refine aK (aM (j9 (T:=tok k' 3 1 (aS (T++[z])).length) (T':=[]) (by rw [List.append_nil])).symm) ?_
   repeat' (first|refine go ?_|refine IG a6 EV ?_)
   refine jL 1 (.slice none 0 0) (.vec (K z) 1 (aS (cx (prt f) (cH g) z))) Tryz.underlying336 Tryz.underlying3 rfl rfl rfl rfl (by kernel_rfl) (hU.at z) rfl ?_
   repeat' (first|refine am ?_|refine go ?_|refine IG a6 EV ?_)
   have hUi:=aF (cx (prt f) (cH g) z)
   refine aO [5,6,7,11,64,65] (α:=Nat×KS) (fun x=>[(66,aP x.1)]) (fun x=>x.2.T=T++[z]∧x.2.kt=k'∧x.1≤(cx (prt f) (cH g) z).length∧qV g (prt f) T z ((cx (prt f) (cH g) z).take x.1) x.2.R x.2.M∧nI x.2.mm x.2.M∧om x.2.kh x.2.R) (fun x=>HM bm bu p mu (kO 3 K (cx (prt f) (cH g)) (cH g)++lP dbs) x.2) (fun x=>(cx (prt f) (cH g) z).length - x.1) (0,⟨T++[z],R',M,mm,some (b,cs'),k'⟩) rfl ⟨rfl,trivial⟩ ⟨rfl,rfl,Nat.zero_le _,hKm,hM,hR'⟩ (fun σ w h=>h) ?_
   clear hM hR hK hR' hKm hpm
   rintro ⟨j,⟨T',R,M,mm,kh,kt'⟩⟩ ⟨hT',hk',hj,hK,hM,hR⟩
   dsimp only at hT' hk' hj hK hM hR ⊢
   subst hT';subst hk'
   unfold HM
   dsimp only
   try dsimp only [Jr,Jq,Jp,Jk]
   repeat' (first|refine go ?_|refine IG a6 EV ?_)
   refine au rfl (fun h=>?_) (fun h=>?_)
   ·have hjl:j < (cx (prt f) (cH g) z).length:=by have:=Jy h;rw [hUi] at this;omega
    obtain ⟨u,hu⟩:∃u,(cx (prt f) (cH g) z)[j]?=some u:=⟨_,Jz hjl⟩
    have hug:=bQ hu
    have hur:=fa.1 (rW (Jw hu))
    obtain ⟨hpos,hK'⟩:=hK.step hall hTz hu hur.1 hur.2
    have hmu:=hK.miss u hur.1 hur.2
    have hml:=BU (prt f) T u
    have hpl:=hf.prt u
    have hRl2:=gc hK.nodup hK.dom
    rw [List.length_append,List.length_append] at hRl2
    clear h
    repeat' (first|refine go ?_|refine am ?_|refine IG a6 EV ?_|(apply aV;first|refine aU a6 ?_|refine aN a6 ?_)|fail)
    refine jL 0 (.int .i64 0) (aP (M u)) Tryz.underlying99 Tryz.underlying3 rfl rfl rfl rfl (by kernel_rfl) (hM.at u) rfl ?_
    repeat' (first|(apply aW;refine aT ?_)|fail)
    refine dl 0 (l9 mm (.int .i64 u) (aP (M u - 1))) Tryz.underlying99 Tryz.underlying3 rfl rfl rfl rfl rfl iN (fun q h=>i3 q h) ?_
    repeat' (first|refine go ?_|refine IG a6 EV ?_)
    refine jL 0 (.int .i64 0) (aP (M u - 1)) Tryz.underlying99 Tryz.underlying3 rfl rfl rfl rfl (by kernel_rfl) (fun σ v h=>?_) rfl ?_
    ·have:=(hM.put u (M u - 1)).at u σ v h
     simpa using this
    repeat' (first|refine go ?_|refine IG a6 EV ?_)
    refine au rfl (fun h=>?_) (fun h=>?_)
    ·have h1:=Jy h
     rw [if_pos h1] at hK'
     repeat' (first|refine go ?_|fail)
     refine nc (by kernel_rfl) rfl rfl ?_
     repeat' (first|refine IG a6 EV ?_)
     refine nc (by kernel_rfl) rfl rfl ?_
     repeat' (first|fail)
     refine bn (hst p kh R) _ (By p kh R u hR (by omega)) rfl rfl o7 rfl fun c L1 ⟨b2,cs2,R2,hL,hR2,hpm⟩=>?_
     subst hL
     refine aK (aM o7.symm) ?_
     repeat' (first|refine go ?_|refine IG a6 EV ?_|(apply aW;refine aT ?_)|fail)
     exact aB (j+1,⟨T++[z],R2,_,_,some (b2,cs2),kt'⟩) rfl ⟨by rw [Jv];rfl,trivial⟩ ⟨rfl,rfl,by dsimp only;omega,hK'.perm hpm,hM.put u (M u - 1),hR2⟩ (by dsimp only;omega) (fun _ _ h=>h)
    ·have h1:=Jx h
     rw [if_neg h1] at hK'
     repeat' (first|refine go ?_|refine IG a6 EV ?_|(apply aW;refine aT ?_)|fail)
     exact aB (j+1,⟨T++[z],R,_,_,kh,kt'⟩) rfl ⟨by rw [Jv];rfl,trivial⟩ ⟨rfl,rfl,by dsimp only;omega,hK',hM.put u (M u - 1),hR⟩ (by dsimp only;omega) (fun _ _ h=>h)
   ·have hjl:j=(cx (prt f) (cH g) z).length:=by have:=Jx h;rw [hUi] at this;omega
    subst hjl
    rw [List.take_length] at hK
    repeat' (first|refine go ?_|fail)
    exact aB ⟨T++[z],R,M,mm,kh,kt'⟩ rfl ⟨rfl,trivial⟩ ⟨hK.done hall hTz,hM,hR⟩ (by dsimp only;simp at hTl ⊢;omega) (fun _ _ h=>h)
  ·have hR0:R=[]:=List.eq_nil_of_length_eq_zero (by have:=Jx h;omega)
   subst hR0
   repeat' (first|refine go ?_|refine IG a6 EV ?_)
   refine ba (bo (t:=4) (c':= .imm 1 (aS T)) rfl fun σ v h=>VR.im h) ?_
   refine cQ (L':=lP dbs) (((((List.sublist_append_right _ _).trans (List.sublist_append_right _ _)).trans (List.sublist_append_right _ _)).cons _).cons _) ?_
   exact i8 (cs:=[.imm 1 (aS T)]) dbs [] rfl (Jn _) ⟨rfl,trivial⟩ ⟨T,rfl,hK.fin⟩
end Go.Proofs.YtjjpkibjffmceaaGreat
