/-
  Numbers in a line, each behind what it needs.
-/
import Derived.Test.YtamjlkdanllgjaaGreatDoorM20
import Derived.Test.YtamjlkdanllgjaaGreatDoorM13
import Derived.Test.YtamjlkdanllgjaaGreatDoorM10
namespace Go.Proofs.YtamjlkdanllgjaaGreatDoor
def cQ (n:Nat):List Int:=(List.range n).map fun (i:Nat)=>(i:Int)
theorem fq {n:Nat} {z:Int}:z∈cQ n↔0≤z∧z < n:=by
 simp only [cQ,List.mem_map,List.mem_range]
 constructor
 ·rintro ⟨i,hi,rfl⟩;omega
 ·rintro ⟨h0,h1⟩;exact ⟨z.toNat,by omega,by omega⟩
theorem kK (n:Nat):(cQ n).Nodup:=by
 unfold cQ List.Nodup
 rw [List.pairwise_map]
 exact List.nodup_range.imp fun h e=>h (by omega)
theorem f4 (n:Nat):(cQ n).length=n:=by simp [cQ]
theorem jV {n i:Nat} (h:i < n):(cQ n)[i]?=some (i:Int):=by simp [cQ,h]
theorem tX (n:Nat):cQ (n+1)=cQ n++[(n:Int)]:=by
 unfold cQ
 rw [List.range_succ,List.map_append]
 rfl
def cB (pr:Int→List Int) (gs:List Int) (z:Int):List Int:=gs.flatMap fun g=>((pr g).filter fun p=>decide (p=z)).map fun _=>g
theorem ml (pr:Int→List Int) (z g:Int):∀gs:List Int,gs.Nodup→(cB pr gs z).count g=if g∈gs then (pr g).count z else 0
 | [],_=>by simp [cB]
 | y::gs,h=>by
  have h':=List.nodup_cons.1 h
  have ih:=ml pr z g gs h'.2
  unfold cB at ih ⊢
  rw [List.flatMap_cons,List.count_append,ih]
  by_cases e:y=g
  ·subst e
   rw [if_pos (List.mem_cons_self ..),if_neg h'.1,List.map_const',List.count_replicate_self,Nat.add_zero,List.count_eq_countP,List.countP_eq_length_filter]
   rfl
  ·rw [List.map_const',List.count_replicate,if_neg (by simpa using e),Nat.zero_add]
   by_cases hm:g∈gs
   ·rw [if_pos hm,if_pos (Ot _ hm)]
   ·rw [if_neg hm,if_neg (by simp [hm];exact fun h=>e h.symm)]
def mg (pr:Int→List Int) (T:List Int) (g:Int):Nat:=((pr g).filter fun p=>decide (p∉T)).length
theorem rN (pr:Int→List Int) {T:List Int} {x:Int} (hx:x∉T) (g:Int):mg pr (T++[x]) g+(pr g).count x=mg pr T g:=by
 unfold mg
 induction pr g with
 | nil=>rfl
 | cons p l ih=>
  rw [List.filter_cons,List.filter_cons,List.count_cons]
  by_cases e:p=x
  ·subst e
   rw [if_neg (by simp),if_pos (decide_eq_true hx)]
   rw [if_pos (by simp),List.length_cons]
   omega
  ·have e1:decide (p∉T++[x])=decide (p∉T):=by simp [e]
   rw [e1]
   have e2:(p==x)=false:=by simpa using e
   rw [e2]
   simp only [Bool.false_eq_true,if_false]
   split
   ·simp only [List.length_cons];omega
   ·omega
theorem rO {pr:Int→List Int} {T:List Int} {g:Int}:mg pr T g=0↔∀p∈pr g,p∈T:=by
 unfold mg
 rw [List.length_eq_zero_iff,List.filter_eq_nil_iff]
 simp
def AP (pr:Int→List Int) (T:List Int):Prop:=∀(i:Nat) (x:Int),T[i]?=some x→∀p∈pr x,p∈T.take i
theorem AP.snoc {pr:Int→List Int} {T:List Int} {x:Int} (h:AP pr T) (hx:∀p∈pr x,p∈T):AP pr (T++[x]):=by
 intro i y hy p hp
 by_cases hi:i < T.length
 ·rw [List.getElem?_append_left hi] at hy
  rw [List.take_append_of_le_length (by omega)]
  exact h i y hy p hp
 ·rw [List.getElem?_append_right (by omega)] at hy
  have hil:i - T.length=0:=by
   rcases Nat.eq_zero_or_pos (i - T.length) with h0 | h0
   ·exact h0
   ·rw [List.getElem?_eq_none (by simp;omega)] at hy;cases hy
  rw [hil] at hy
  simp at hy
  subst hy
  rw [show i=T.length by omega,List.take_left]
  exact hx p hp
structure of (n:Nat) (pr:Int→List Int) (T R:List Int) (M:Int→Int):Prop where
 nodup:(T++R).Nodup
 dom:∀z∈T++R,0≤z∧z < n
 miss:∀g:Int,0≤g→g < n→M g=mg pr T g
 ready:∀g:Int,0≤g→g < n→(g∈T++R↔M g=0)
 topo:AP pr T
structure sA (n:Nat) (pr:Int→List Int) (T:List Int) (x:Int) (us:List Int) (R:List Int) (M:Int→Int):Prop where
 nodup:(T++[x]++R).Nodup
 dom:∀z∈T++[x]++R,0≤z∧z < n
 miss:∀g:Int,0≤g→g < n→M g+us.count g=mg pr T g
 ready:∀g:Int,0≤g→g < n→(g∈T++[x]++R↔M g=0)
 topo:AP pr (T++[x])
theorem of.perm {n:Nat} {pr:Int→List Int} {T R R':List Int} {M:Int→Int} (h:of n pr T R M) (hp:R'.Perm R):of n pr T R' M:=by
 have hp':(T++R').Perm (T++R):=List.Perm.append_left T hp
 exact ⟨hp'.nodup_iff.2 h.nodup,fun z hz=>h.dom z (hp'.mem_iff.1 hz),h.miss,fun g h0 h1=>by rw [hp'.mem_iff];exact h.ready g h0 h1,h.topo⟩
theorem sA.perm {n:Nat} {pr:Int→List Int} {T R R' us:List Int} {x:Int} {M:Int→Int} (h:sA n pr T x us R M) (hp:R'.Perm R):sA n pr T x us R' M:=by
 have hp':(T++[x]++R').Perm (T++[x]++R):=List.Perm.append_left _ hp
 exact ⟨hp'.nodup_iff.2 h.nodup,fun z hz=>h.dom z (hp'.mem_iff.1 hz),h.miss,fun g h0 h1=>by rw [hp'.mem_iff];exact h.ready g h0 h1,h.topo⟩
theorem of.pop {n:Nat} {pr:Int→List Int} {T R:List Int} {x:Int} {M:Int→Int} (h:of n pr T (R++[x]) M):sA n pr T x [] R M:=by
 have hp:(T++[x]++R).Perm (T++(R++[x])):=by
  rw [List.append_assoc]
  exact List.Perm.append_left T List.perm_append_comm
 have hx:=h.dom x (by simp)
 refine ⟨hp.nodup_iff.2 h.nodup,fun z hz=>h.dom z (hp.mem_iff.1 hz),fun g h0 h1=>by simpa using h.miss g h0 h1,fun g h0 h1=>by rw [hp.mem_iff];exact h.ready g h0 h1,h.topo.snoc ?_⟩
 have h1:=(h.ready x hx.1 hx.2).1 (by simp)
 rw [h.miss x hx.1 hx.2] at h1
 exact rO.1 (by omega)
theorem kO {all:List Int} {j:Nat} {u:Int} (h:all[j]?=some u) (g:Int):(all.take (j+1)).count g=(all.take j).count g+if u=g then 1 else 0:=by
 rw [List.take_add_one,h,Option.toList_some,List.count_append]
 by_cases e:u=g
 ·subst e;simp
 ·rw [if_neg e,List.count_singleton,if_neg (by simpa using e)]
theorem sA.step {n:Nat} {pr:Int→List Int} {T R all:List Int} {x u:Int} {j:Nat} {M:Int→Int} (hall:∀g:Int,0≤g→g < n→all.count g=(pr g).count x) (hx:x∉T) (h:sA n pr T x (all.take j) R M) (hu:all[j]?=some u) (h0:0≤u) (h1:u < n):
  0 < M u∧sA n pr T x (all.take (j+1)) (if M u - 1=0 then R++[u] else R) (fun g=>if g=u then M u - 1 else M g):=by
 have hm:=h.miss u h0 h1
 have hlt:(all.take (j+1)).count u≤all.count u:=(List.take_sublist _ _).count_le u
 have hsn:=rN pr hx u
 rw [kO hu,if_pos rfl,hall u h0 h1] at hlt
 have hpos:0 < M u:=by omega
 have hnot:u∉T++[x]++R:=fun hm'=>by have:=(h.ready u h0 h1).1 hm';omega
 refine ⟨hpos,?_⟩
 have hmiss:∀g:Int,0≤g→g < n→(if g=u then M u - 1 else M g)+((all.take (j+1)).count g:Int)=mg pr T g:=by
  intro g g0 g1
  rw [kO hu]
  by_cases e:g=u
  ·subst e
   rw [if_pos rfl,if_pos rfl]
   have:=h.miss g g0 g1
   omega
  ·rw [if_neg e,if_neg (fun q=>e q.symm)]
   have:=h.miss g g0 g1
   omega
 by_cases hz:M u - 1=0
 ·rw [if_pos hz]
  refine ⟨?_,fun z hz'=>?_,hmiss,fun g g0 g1=>?_,h.topo⟩
  ·rw [←List.append_assoc,List.nodup_append]
   refine ⟨h.nodup,by simp,fun a ha b hb=>?_⟩
   rw [Oi hb]
   exact fun e=>hnot (e▸ha)
  ·rw [←List.append_assoc] at hz'
   rcases Oj hz' with hz' | hz'
   ·exact h.dom z hz'
   ·rw [Oi hz'];exact ⟨h0,h1⟩
  ·rw [←List.append_assoc,List.mem_append,List.mem_singleton]
   by_cases e:g=u
   ·subst e;simp [hz]
   ·rw [if_neg e,h.ready g g0 g1]
    simp [e]
 ·rw [if_neg hz]
  refine ⟨h.nodup,h.dom,hmiss,fun g g0 g1=>?_,h.topo⟩
  by_cases e:g=u
  ·subst e
   rw [if_pos rfl]
   exact ⟨fun q=>absurd q hnot,fun q=>absurd q hz⟩
  ·rw [if_neg e]
   exact h.ready g g0 g1
theorem sA.done {n:Nat} {pr:Int→List Int} {T R all:List Int} {x:Int} {M:Int→Int} (hall:∀g:Int,0≤g→g < n→all.count g=(pr g).count x) (hx:x∉T) (h:sA n pr T x all R M):of n pr (T++[x]) R M:=by
 refine ⟨h.nodup,h.dom,fun g h0 h1=>?_,h.ready,h.topo⟩
 have h2:=h.miss g h0 h1
 have h3:=rN pr hx g
 rw [hall g h0 h1] at h2
 omega
structure j7 (n:Nat) (pr:Int→List Int) (T:List Int):Prop where
 nodup:T.Nodup
 dom:∀z∈T,0≤z∧z < n
 topo:AP pr T
 full:∀g:Int,0≤g→g < n→(∀p∈pr g,p∈T)→g∈T
theorem of.fin {n:Nat} {pr:Int→List Int} {T:List Int} {M:Int→Int} (h:of n pr T [] M):j7 n pr T:=by
 have h1:=h.nodup
 have h2:=h.dom
 have h3:=h.ready
 rw [List.append_nil] at h1 h2 h3
 exact ⟨h1,h2,h.topo,fun g h0 h4 hp=>(h3 g h0 h4).2 (by rw [h.miss g h0 h4,rO.2 hp];rfl)⟩
theorem of.start {n:Nat} {pr:Int→List Int} {M:Int→Int} (hM:∀g:Int,0≤g→g < n→M g=(pr g).length):of n pr [] ((cQ n).filter fun g=>decide (M g=0)) M:=by
 refine ⟨by rw [Oo];exact (kK n).filter _,fun z hz=>?_,fun g h0 h1=>?_,fun g h0 h1=>?_,fun i x h=>by simp at h⟩
 ·rw [Oo,List.mem_filter,fq] at hz
  exact hz.1
 ·rw [hM g h0 h1]
  unfold mg
  rw [List.filter_eq_self.2 (by simp)]
 ·rw [Oo,List.mem_filter,fq,decide_eq_true_eq]
  exact ⟨fun h=>h.2,fun h=>⟨⟨h0,h1⟩,h⟩⟩
def kY (n:Nat) (pr:Int→List Int):Prop:=∃r:Int→Nat,∀g:Int,0≤g→g < n→∀p∈pr g,r p < r g
theorem j7.all {n:Nat} {pr:Int→List Int} {T:List Int} (h:j7 n pr T) (ha:kY n pr) (hp:∀g,∀p∈pr g,0≤p∧p < n):∀g:Int,0≤g→g < n→g∈T:=by
 obtain ⟨r,hr⟩:=ha
 have:∀(k:Nat) (g:Int),r g < k→0≤g→g < n→g∈T:=by
  intro k
  induction k with
  | zero=>intro g hk;exact absurd hk (Nat.not_lt_zero _)
  | succ k ih=>
   intro g hk h0 h1
   refine h.full g h0 h1 fun p hpp=>ih p ?_ (hp g p hpp).1 (hp g p hpp).2
   have:=hr g h0 h1 p hpp
   omega
 intro g h0 h1
 exact this (r g+1) g (by omega) h0 h1
theorem j7.len {n:Nat} {pr:Int→List Int} {T:List Int} (h:j7 n pr T):T.length≤n:=fO h.nodup h.dom
theorem nI:∀(l T:List Int),l.Nodup→(∀x∈l,x∈T)→l.length≤T.length
 | [],_,_,_=>Nat.zero_le _
 | x::l,T,h,hs=>by
  have h':=List.nodup_cons.1 h
  have hx:=hs x (List.mem_cons_self ..)
  have:=nI l (T.erase x) h'.2 fun y hy=>(List.mem_erase_of_ne (fun e=>h'.1 (by rw [←e];exact hy))).2 (hs y (Ot _ hy))
  rw [List.length_erase_of_mem hx] at this
  have hpos:=List.length_pos_of_mem hx
  rw [List.length_cons]
  omega
theorem j7.len_all {n:Nat} {pr:Int→List Int} {T:List Int} (h:j7 n pr T) (ha:∀g:Int,0≤g→g < n→g∈T):T.length=n:=by
 refine Nat.le_antisymm h.len ?_
 have:=nI (cQ n) T (kK n) fun z hz=>by
  rw [fq] at hz
  exact ha z hz.1 hz.2
 rwa [f4] at this
theorem j7.all_of_len {n:Nat} {pr:Int→List Int} {T:List Int} (h:j7 n pr T) (hl:T.length=n):∀g:Int,0≤g→g < n→g∈T:=by
 intro g h0 h1
 apply Classical.byContradiction
 intro hn
 have:=fO (l:=g::T) (n:=n) (List.nodup_cons.2 ⟨hn,h.nodup⟩) fun z hz=>by
  rcases List.mem_cons.1 hz with rfl | hz
  ·exact ⟨h0,h1⟩
  ·exact h.dom z hz
 rw [List.length_cons] at this
 omega
theorem j7.acyc {n:Nat} {pr:Int→List Int} {T:List Int} (h:j7 n pr T) (ha:∀g:Int,0≤g→g < n→g∈T):kY n pr:=by
 refine ⟨fun g=>T.idxOf g,fun g h0 h1 p hp=>?_⟩
 have hg:=ha g h0 h1
 have hi:=List.idxOf_lt_length_iff.2 hg
 have h2:=h.topo (T.idxOf g) g (by rw [Oz hi,List.getElem_idxOf]) p hp
 obtain ⟨j,hj⟩:=List.mem_iff_getElem?.1 h2
 rw [List.getElem?_take] at hj
 split at hj
 ·rename_i hlt
  dsimp only
  obtain ⟨hjl,hje⟩:=Ol hj
  have:T.idxOf p≤j:=by
   rw [←hje]
   have:=h.nodup.idxOf_getElem j hjl
   omega
  omega
 ·cases hj
end Go.Proofs.YtamjlkdanllgjaaGreatDoor
namespace Go.Proofs.YtamjlkdanllgjaaGreatDoor
open Go.RowKit
attribute [local irreducible] AT bF AX AO Av Kt b8 d9 DA cu
set_option maxRecDepth 8000
theorem CL (f:aY) (n:Int):bH Tryz.prog 346 [cR f,aG n] (cU (m7 f n)):=by
 refine aQ Tryz.func346 rfl Tryz.ntmps346 rfl fun B=>?_
 refine W07 ?_
 refine da (t:=4) [] (m7 f n=true) rfl (fun Q' K=>?_) ?_
 ·repeat' (first|refine O1 ?_|refine OE a7 KN ?_|refine ON KN ?_|refine OP OA ?_|refine OR NZ (fun _=>?_) (fun _=>?_))
  all_goals exact K _ _ rfl rfl (by unfold m7;simp_all <;> omega)
 repeat' (first|refine O1 ?_|fail)
 refine OK KN ?_
 simp
instance (f:aY) (n:Int):AD Tryz.prog 346 [cR f,aG n] (cU (m7 f n)):=⟨CL f n⟩
theorem Ce (f:aY) (g:Int):bH Tryz.prog 309 [cR f,aG g] (.fn 345 [.iptr (cf f),.iptr [aG g]]):=by
 refine aQ Tryz.func309 rfl Tryz.ntmps309 rfl fun B=>?_
 refine W07 ?_
 exact OL NZ
instance (f:aY) (g:Int):AD Tryz.prog 309 [cR f,aG g] (.fn 345 [.iptr (cf f),.iptr [aG g]]):=⟨Ce f g⟩
set_option maxHeartbeats 1000000 in
theorem HR {α:Type} {σ0:cm} {l:Nat} (f:aY) (g:Nat) (gl:bn) (hg:f.Glyphs[g]?=some gl) (E:α→AL) (J:Nat→α→Prop)
  (hy:∀i x p,J i x→gl.Parts[i]?=some p→m7 f p.Glyph=true→AY Tryz.prog σ0 l [.agg (eG p)] (E x) fun c L=>c=cU true∧∃x',J (i+1) x'∧L=E x')
  (hs:∀i x p,J i x→gl.Parts[i]?=some p→m7 f p.Glyph=false→J (i+1) x) (x0:α) (h0:J 0 x0) (hlen:gl.Parts.length≤1000000):
  Iv Tryz.prog σ0 345 [.sc (.func (.yield l) #[] #[]),.iptr (cf f),.iptr [aG g]] (E x0) fun _ L=>∃x,J gl.Parts.length x∧L=E x:=by
 refine xg Tryz.func345 rfl Tryz.ntmps345 rfl fun B hB=>?_
 have hgg:=c7 (c:=bG) hg
 refine W08 ?_
 refine aJ [0,1,11,12] (α:=Nat×α) (fun y=>[(13,aG y.1)]) (fun y=>y.1≤gl.Parts.length∧J y.1 y.2) (fun y=>E y.2) (fun y=>gl.Parts.length - y.1) (0,x0) rfl ⟨rfl,trivial⟩ ⟨Nat.zero_le _,h0⟩ (fun _ _ h=>h) ?_
 rintro ⟨i,x⟩ ⟨hi,hj⟩
 dsimp only at hi hj ⊢
 try dsimp only [Oq,Oo,Om,Oh]
 refine W01 ?_
 refine aw rfl (fun h=>?_) (fun h=>?_)
 ·have hil:i < gl.Parts.length:=by have:=Oy h;simp at this;omega
  obtain ⟨p,hp⟩:∃z,gl.Parts[i]?=some z:=⟨_,Oz hil⟩
  have hpg:=c7 (c:=eG) hp
  repeat' (first|refine O1 ?_|refine ak ?_|refine OE a7 KN ?_|(apply aV;first|refine aU a7 ?_|refine aN a7 ?_)|(apply aO;first|refine OG 5 a7 0 OD ?_|refine OG 5 a7 1 OD ?_|refine OG 5 a7 2 OD ?_|refine OF a7 0 OC ?_|refine OF a7 1 OC ?_|refine OF a7 2 OC ?_|refine OF a7 3 OC ?_|fail)|refine bi a7 fun _=>?_|(apply bg;refine b9 ?_)|fail)
  by_cases hG:m7 f p.Glyph=true
  ·rw [hG]
   refine W10 ?_
   refine qy (E x) [] hB (hy i x p hj hp hG) rfl rfl rfl (by rw [List.append_nil];exact Ok _) rfl rfl fun c L1 ⟨hc,x',hj',hL⟩=>?_
   subst hc;subst hL
   rw [List.append_nil]
   repeat' (first|refine O1 ?_|refine OE a7 KN ?_|refine ON KN ?_|(apply aS;refine aR ?_)|refine bj rfl ?_)
   exact aD (i+1,x') rfl ⟨by rw [Ov];rfl,trivial⟩ ⟨by dsimp only;omega,hj'⟩ (by dsimp only;omega) (fun _ _ h=>h)
  ·have hG':m7 f p.Glyph=false:=by simpa using hG
   rw [hG']
   refine W0Y ?_
   exact aD (i+1,x) rfl ⟨by rw [Ov];rfl,trivial⟩ ⟨by dsimp only;omega,hs i x p hj hp hG'⟩ (by dsimp only;omega) (fun _ _ h=>h)
 ·have hil:i=gl.Parts.length:=by have:=Ox h;simp at this;omega
  subst hil
  repeat' (first|refine O1 ?_|fail)
  exact cN rfl ⟨x,hj,rfl⟩
set_option maxRecDepth 8000
open Go.MapKept
attribute [local irreducible] qC
def prt (f:aY) (g:Int):List Int:=match f.Glyphs[g.toNat]? with
 | some gl=>(gl.Parts.map dW.Glyph).filter (m7 f)
 | none=>[]
def x5 (f:aY) (gl:bn) (i:Nat):List Int:=((gl.Parts.take i).map dW.Glyph).filter (m7 f)
theorem Ai {f:aY} {gl:bn} {i:Nat} {p:dW} (h:gl.Parts[i]?=some p) (hg:m7 f p.Glyph=true):x5 f gl (i+1)=x5 f gl i++[p.Glyph]:=by
 unfold x5
 rw [List.take_add_one,h,Option.toList_some,List.map_append,List.filter_append]
 simp [hg]
theorem Fh {f:aY} {gl:bn} {i:Nat} {p:dW} (h:gl.Parts[i]?=some p) (hg:m7 f p.Glyph=false):x5 f gl (i+1)=x5 f gl i:=by
 unfold x5
 rw [List.take_add_one,h,Option.toList_some,List.map_append,List.filter_append]
 simp [hg]
theorem Ae {f:aY} {g:Nat} {gl:bn} (hg:f.Glyphs[g]?=some gl):x5 f gl gl.Parts.length=prt f g:=by
 unfold x5 prt
 rw [Int.toNat_natCast,hg,List.take_length]
theorem Ah (f:aY) (gl:bn) (i:Nat):(x5 f gl i).length≤gl.Parts.length:=by
 unfold x5
 refine Nat.le_trans (List.length_filter_le _ _) ?_
 rw [Ou,List.length_take]
 omega
theorem qw {f:aY} {z:Int}:m7 f z=true↔0≤z∧z < f.Glyphs.length:=by unfold m7;simp
theorem Ks {f:aY} {g p:Int} (h:p∈prt f g):0≤p∧p < f.Glyphs.length:=by
 unfold prt at h
 split at h
 ·rw [List.mem_filter] at h;exact qw.1 h.2
 ·cases h
structure Few (f:aY):Prop where
 n:f.Glyphs.length≤1000
 parts:∀gl∈f.Glyphs,gl.Parts.length≤1000
theorem Few.prt {f:aY} (h:Few f) (g:Int):(prt f g).length≤1000:=by
 unfold Go.Proofs.YtamjlkdanllgjaaGreatDoor.prt
 split
 ·rename_i gl hgl
  refine Nat.le_trans (List.length_filter_le _ _) ?_
  rw [Ou]
  exact h.parts gl (Ow hgl)
 ·exact Nat.zero_le _
theorem pe {pr:Int→List Int} (h:∀g,(pr g).length≤1000) (z:Int):∀gs:List Int,(cB pr gs z).length≤1000 * gs.length
 | []=>by simp [cB]
 | g::gs=>by
  have ih:=pe h z gs
  unfold cB at ih ⊢
  rw [List.flatMap_cons,List.length_append,Ou,List.length_cons]
  have h1:=List.length_filter_le (fun p=>decide (p=z)) (pr g)
  have h2:=h g
  omega
theorem CR {pr:Int→List Int} {gs:List Int} {z g:Int} (h:g∈cB pr gs z):g∈gs:=by
 unfold cB at h
 obtain ⟨y,hy,h1⟩:=List.mem_flatMap.1 h
 obtain ⟨_,_,rfl⟩:=List.mem_map.1 h1
 exact hy
theorem EM (pr:Int→List Int) (T:List Int) (g:Int):mg pr T g≤(pr g).length:=List.length_filter_le _ _
def Mi (f:aY) (gl:bn) (g i:Nat):Int→Int:=fun z=>if z=g then (x5 f gl i).length else if 0≤z∧z < g then (prt f z).length else 0
def Ui (f:aY) (gl:bn) (g i:Nat):Int→List Int:=fun z=>cB (prt f) (cQ g) z++((x5 f gl i).filter fun p=>decide (p=z)).map fun _=>(g:Int)
def Mb (f:aY) (g:Nat):Int→Int:=fun z=>if 0≤z∧z < g then (prt f z).length else 0
def Rb (f:aY) (g:Nat):List Int:=(cQ g).filter fun z=>decide ((prt f z).length=0)
theorem Ge (f:aY) (gl:bn) (g:Nat):Mi f gl g 0=Mb f g:=by
 funext z
 unfold Mi Mb x5
 by_cases e:z=g
 ·subst e;rw [if_pos rfl,if_neg (by omega)];rfl
 ·rw [if_neg e]
theorem za (f:aY) (gl:bn) (g:Nat):Ui f gl g 0=cB (prt f) (cQ g):=by
 funext z
 unfold Ui x5
 simp
theorem Jj {f:aY} {g:Nat} {gl:bn} (hg:f.Glyphs[g]?=some gl):Mi f gl g gl.Parts.length=Mb f (g+1):=by
 funext z
 unfold Mi Mb
 rw [Ae hg]
 by_cases e:z=g
 ·subst e;rw [if_pos rfl,if_pos (by omega)]
 ·rw [if_neg e]
  by_cases h:0≤z∧z < g
  ·rw [if_pos h,if_pos (by omega)]
  ·rw [if_neg h,if_neg (by omega)]
theorem Jn {f:aY} {g:Nat} {gl:bn} (hg:f.Glyphs[g]?=some gl):Ui f gl g gl.Parts.length=cB (prt f) (cQ (g+1)):=by
 funext z
 unfold Ui
 rw [Ae hg,tX]
 unfold cB
 rw [List.flatMap_append]
 simp
theorem Jk {f:aY} {gl:bn} {g i:Nat} {p:dW} (h:gl.Parts[i]?=some p) (hg:m7 f p.Glyph=true):(fun q=>if q=(g:Int) then Mi f gl g i g+1 else Mi f gl g i q)=Mi f gl g (i+1):=by
 funext q
 unfold Mi
 rw [Ai h hg]
 by_cases e:q=g
 ·rw [if_pos e,if_pos e,if_pos rfl];simp
 ·rw [if_neg e,if_neg e,if_neg e]
theorem Jp {f:aY} {gl:bn} {g i:Nat} {p:dW} (h:gl.Parts[i]?=some p) (hg:m7 f p.Glyph=true):(fun q=>if q=p.Glyph then Ui f gl g i p.Glyph++[(g:Int)] else Ui f gl g i q)=Ui f gl g (i+1):=by
 funext q
 unfold Ui
 rw [Ai h hg,List.filter_append,List.map_append]
 by_cases e:q=p.Glyph
 ·subst e;rw [if_pos rfl];simp
 ·have e':¬p.Glyph=q:=fun h=>e h.symm
  rw [if_neg e];simp [e']
theorem KX {f:aY} {gl:bn} {g i:Nat} {p:dW} (h:gl.Parts[i]?=some p) (hg:m7 f p.Glyph=false):Mi f gl g (i+1)=Mi f gl g i:=by unfold Mi;rw [Fh h hg]
theorem L5 {f:aY} {gl:bn} {g i:Nat} {p:dW} (h:gl.Parts[i]?=some p) (hg:m7 f p.Glyph=false):Ui f gl g (i+1)=Ui f gl g i:=by unfold Ui;rw [Fh h hg]
theorem Jo {f:aY} (hf:Few f) (gl:bn) (hgl:gl∈f.Glyphs) {g:Nat} (hg:g≤1000) (i:Nat) (z:Int):(Ui f gl g i z).length≤1001000:=by
 unfold Ui
 have h1:=pe hf.prt z (cQ g)
 have h2:=Ah f gl i
 have h3:=List.length_filter_le (fun p=>decide (p=z)) (x5 f gl i)
 have h4:=hf.parts gl hgl
 rw [f4] at h1
 rw [List.length_append,Ou]
 omega
theorem lL (f:aY) (g:Nat):Rb f (g+1)=if (prt f g).length=0 then Rb f g++[(g:Int)] else Rb f g:=by
 unfold Rb
 rw [tX,List.filter_append]
 by_cases h:(prt f g).length=0
 ·rw [if_pos h,List.filter_cons_of_pos (by simpa using h)];rfl
 ·rw [if_neg h,List.filter_cons_of_neg (by simpa using h)];simp
theorem D3 (f:aY) (g:Nat):(Rb f g).length≤g:=by
 unfold Rb
 refine Nat.le_trans (List.length_filter_le _ _) ?_
 rw [f4]
 exact Nat.le_refl _
theorem nP {a b:Nat×AB} {T T' t H R:AL} (h:T.Perm (t++T')):(a::b::(H++(T++R))).Perm (t++(a::b::(H++(T'++R)))):=by
 have h1:(a::b::(H++(T++R))).Perm (a::b::(H++(t++(T'++R)))):=by
  refine List.Perm.cons _ (List.Perm.cons _ (List.Perm.append_left _ ?_))
  rw [←List.append_assoc]
  exact h.append_right _
 refine h1.trans ?_
 have h2:(a::b::(H++(t++(T'++R))))=((a::b::H)++t)++(T'++R):=by simp
 have h3:t++(a::b::(H++(T'++R)))=(t++(a::b::H))++(T'++R):=by simp
 rw [h2,h3]
 exact List.Perm.append_right _ List.perm_append_comm
end Go.Proofs.YtamjlkdanllgjaaGreatDoor
namespace Go.Proofs.YtamjlkdanllgjaaGreatDoor
open Go.RowKit
attribute [local irreducible] AT bF AX AO Av Kt b8 d9 DA cu
set_option maxRecDepth 8000
open Go.MapKept
attribute [local irreducible] qC
theorem nT {rec:Loop} (h1:rec.state= .ready) (h2:rec.pending=none):({ ({ rec with state:= .busy }:Loop) with state:= .ready,pending:=none }:Loop)=rec:=by cases rec;simp_all
abbrev KI:TypeDesc:= .int .i64
theorem Gc (f:aY):Mb f 0=fun _=>0:=by
 funext z
 unfold Mb
 rw [if_neg (by omega)]
abbrev KT:=Int→Option (Nat×Nat)
abbrev VM:=Value→Option AV
abbrev LX:=VM×VM×KT×(Int→List Int)
theorem wE {a b c d e:Nat×AB} {T M:AL}:(d::a::b::c::(T++(M++[e]))).Perm (a::b::c::d::(T++(e::M))):=by
 refine (List.perm_middle (l₁:=[a,b,c])).symm.trans ?_
 exact List.Perm.cons _ (List.Perm.cons _ (List.Perm.cons _ (List.Perm.cons _ (List.Perm.append_left T (List.perm_append_singleton e M)))))
def uv (bm bu p n:Nat) (kh:Option (Nat×List AV)) (R:List Int) (rest:AL) (x:LX):AL:=(bm,ci KI x.1)::(bu,ci KI x.2.1)::(hst p kh R++(mR 3 x.2.2.1 x.2.2.2 (cQ n)++rest))
abbrev LS:=Nat×List Nat×VM×VM×KT×Option (Nat×List AV)
def wf (dbs:List Nat):AL:=dbs.map fun b=>(b,oA)
theorem oU {a b:Nat×AB} {H X:AL}:(a::b::(H++X)).Perm (H++(a::b::X)):=by
 have h1:(a::b::(H++X))=(a::b::H)++X:=rfl
 have h2:H++(a::b::X)=(H++[a,b])++X:=by simp
 rw [h1,h2]
 exact (List.perm_append_comm (l₁:=[a,b]) (l₂:=H)).append_right X
structure KS where
 T:List Int
 R:List Int
 M:Int→Int
 mm:VM
 kh:Option (Nat×List AV)
 kt:Option (Nat×Nat)
def Mq (bm bu p:Nat) (mu:VM) (X:AL) (x:KS):AL:=(bm,ci KI x.mm)::(bu,ci KI mu)::(hst p x.kh x.R++(tok x.kt 3 1 (aL x.T).length++X))
set_option maxHeartbeats 8000000 in
theorem Hy (f:aY) (hf:Few f):AC Tryz.prog 256 [cR f,.imm 1 (aL (cQ f.Glyphs.length))] [] fun c _=>∃T,c= .imm 1 (aL T)∧j7 f.Glyphs.length (prt f) T:=by
 refine qK Tryz.func256 rfl Tryz.ntmps256 rfl fun B=>?_
 have hn:=hf.n
 have hil:(aL (cQ f.Glyphs.length)).length=f.Glyphs.length:=by rw [aP,f4]
 generalize hN:f.Glyphs.length=n at *
 refine W07 ?_
 refine eo KI fun bm=>?_
 refine W0v ?_
 intros
 refine eo KI fun bu=>?_
 repeat' (first|refine O1 ?_|refine ak ?_|refine OE a7 KN ?_|(apply aO;first|refine OG 5 a7 0 OD ?_|refine OG 5 a7 1 OD ?_|refine OG 5 a7 2 OD ?_|refine OG 6 a7 0 OD ?_|refine OG 6 a7 1 OD ?_|refine OG 6 a7 2 OD ?_|refine OG 9 a7 0 OD ?_|refine OG 9 a7 1 OD ?_|refine OG 9 a7 2 OD ?_|refine OG 10 a7 0 OD ?_|refine OG 10 a7 1 OD ?_|refine OG 10 a7 2 OD ?_|refine OF a7 0 OC ?_|refine OF a7 1 OC ?_|refine OF a7 2 OC ?_|refine OF a7 3 OC ?_|fail)|refine bi a7 fun _=>?_|fail)
 rename_i p
 refine Dw [2,5,6,7,17,18] (α:=LS) (fun x=>marks x.2.1) (fun x=>[(19,aG x.1)]) (fun x=>x.1≤n∧og x.2.2.1 (Mb f x.1)∧qH x.2.2.2.1 x.2.2.2.2.1 (cB (prt f) (cQ x.1))∧pf x.2.2.2.2.2 (Rb f x.1)) (fun x=>uv bm bu p n x.2.2.2.2.2 (Rb f x.1) (wf x.2.1) (x.2.2.1,x.2.2.2.1,x.2.2.2.2.1,cB (prt f) (cQ x.1))) (fun x=>n - x.1) (0,[],(fun _=>none),(fun _=>none),(fun _=>none),none) rfl ⟨rfl,trivial⟩ rfl ⟨Nat.zero_le _,?_,?_,rfl⟩ (fun σ w h=>?_) ?_
 ·intro z;exact .inl ⟨rfl,by rw [Gc]⟩
 ·intro z;exact .inl ⟨rfl,rfl,rfl⟩
 ·have h1:=dg.perm (L:=[(p,.box [.sc (.slice none 0 0)] 423),(bu,ci KI fun _=>none),(bm,ci KI fun _=>none)]) h (List.reverse_perm _).symm
  have h2:uv bm bu p n none (Rb f 0) (wf []) ((fun _=>none),(fun _=>none),(fun _=>none),cB (prt f) (cQ 0))=[(bm,ci KI fun _=>none),(bu,ci KI fun _=>none),(p,.box [.sc (.slice none 0 0)] 423)]:=by
   unfold uv
   rw [CN]
   rfl
  show dg B σ (uv bm bu p n none (Rb f 0) (wf []) ((fun _=>none),(fun _=>none),(fun _=>none),cB (prt f) (cQ 0))) w
  rw [h2]
  exact h1
 rintro ⟨g,dbs,mm,mu,K,kh⟩ ⟨hg,hM,hU,hR⟩
 dsimp only at hg hM hU hR ⊢
 try dsimp only [Oq,Oo,Om,Oh]
 refine W01 ?_
 rw [hil]
 refine aw rfl (fun h=>?_) (fun h=>?_)
 ·have hgl:g < n:=by have:=Oy h;omega
  obtain ⟨gl,hgg⟩:∃z,f.Glyphs[g]?=some z:=⟨_,Oz (by omega)⟩
  have hgm:=Ow hgg
  have hgi:=bD (jV hgl)
  clear h
  unfold uv
  dsimp only
  repeat' (first|refine O1 ?_|refine ak ?_|refine OE a7 KN ?_|(apply aV;first|refine aU a7 ?_|refine aN a7 ?_)|(apply aO;first|refine OG 5 a7 0 OD ?_|refine OG 5 a7 1 OD ?_|refine OG 5 a7 2 OD ?_|refine OG 6 a7 0 OD ?_|refine OG 6 a7 1 OD ?_|refine OG 6 a7 2 OD ?_|refine OG 9 a7 0 OD ?_|refine OG 9 a7 1 OD ?_|refine OG 9 a7 2 OD ?_|refine OG 10 a7 0 OD ?_|refine OG 10 a7 1 OD ?_|refine OG 10 a7 2 OD ?_|refine OF a7 0 OC ?_|refine OF a7 1 OC ?_|refine OF a7 2 OC ?_|refine OF a7 3 OC ?_|fail)|refine bi a7 fun _=>?_|(apply bg;refine b9 ?_)|fail)
  refine n2 (fr':=[(2,.iptr (cf f)),(5,.iptr [.sc (.map (some bm))]),(6,.iptr [.sc (.map (some bu))]),(7,.sc (.pointer (some ⟨p,0,none⟩))),(9,.iptr [aG g]),(17,.imm 1 (aL (cQ n))),(18,aG n),(19,aG g),(25,.fn 345 [.iptr (cf f),.iptr [aG g]])]) (L':=uv bm bu p n kh (Rb f g) (wf dbs) (mm,mu,K,Ui f gl g 0)) ⟨rfl,rfl,rfl,rfl,rfl,rfl,rfl,rfl,rfl,trivial⟩ (fun _ _ h=>by rw [za];exact h) ?_
  refine qT (ps:=[26]) rfl fun σ0 l db rec hrec=>?_
  have hy:∀(i:Nat) (x:LX) (q:dW),(og x.1 (Mi f gl g i)∧qH x.2.1 x.2.2.1 x.2.2.2∧x.2.2.2=Ui f gl g i)→gl.Parts[i]?=some q→m7 f q.Glyph=true→AY Tryz.prog σ0 l [.agg (eG q)] (uv bm bu p n kh (Rb f g) (wf dbs) x++[(db,oA)]++[(l,kX rec)]) fun c L=>c=cU true∧∃x':LX,(og x'.1 (Mi f gl g (i+1))∧qH x'.2.1 x'.2.2.1 x'.2.2.2∧x'.2.2.2=Ui f gl g (i+1))∧L=uv bm bu p n kh (Rb f g) (wf dbs) x'++[(db,oA)]++[(l,kX rec)]:=by
   rintro i ⟨mm,mu,K,U⟩ q ⟨hM,hU,rfl⟩ hq hG
   dsimp only at hM hU ⊢
   refine DF hrec rfl rfl fun B1 hB1=>?_
   refine W0v ?_
   intros
   refine qU hrec.state ?_
   unfold uv
   dsimp only
   have hqr:=qw.1 hG
   have hcnt:=Ah f gl i
   have hpl:=hf.parts gl hgm
   have hMg:Mi f gl g i g=(x5 f gl i).length:=by unfold Mi;rw [if_pos rfl]
   simp only [Oq,List.append_assoc]
   have hUl:=Jo hf gl hgm (g:=g) (by omega) i q.Glyph
   have hUi:(aL (Ui f gl g i q.Glyph)).length=(Ui f gl g i q.Glyph).length:=aP _
   have hz:q.Glyph∈cQ n:=fq.2 (by omega)
   refine W03 ?_
   refine jI 0 (.int .i64 0) (aG (Mi f gl g i g)) Tryz.underlying96 Tryz.underlying3 rfl rfl rfl rfl (by kernel_rfl) (hM.at g) rfl ?_
   refine W1r ?_
   refine dA 0 (oQ mm (.int .i64 g) (aG (Mi f gl g i g+1))) Tryz.underlying96 Tryz.underlying3 rfl rfl rfl rfl rfl jG (fun q h=>iW q h) ?_
   repeat' (first|refine O1 ?_|fail)
   refine bk 10 [(0,.v),(1,.v),(2,.v),(3,.v),(4,.v),(5,.v),(7,.v),(8,.v),(6,.e),(9,.e)] none ?_ trivial rfl (by kernel_rfl) (by kernel_rfl) (by kernel_rfl) mixed (by kernel_rfl) rfl
   refine W0R ?_
   refine Bv 1 (.slice none 0 0) (.vec (K q.Glyph) 1 (aL (Ui f gl g i q.Glyph))) Tryz.underlying422 Tryz.underlying3 rfl rfl rfl rfl (by kernel_rfl) (hU.at q.Glyph) trivial ?_
   repeat' (first|refine aE ?_|fail)
   refine fj a7 _ rfl rfl rfl rfl (nP (p8 hz)) (by rw [hUi];show _+1≤_;omega) (by rw [hUi];show (_+1) * 8≤_;omega) trivial fun k'=>?_
   repeat' (first|fail)
   refine OO [2,5,6,7,9,17,18,19,26,31,33,40] KN ?_
   have hput:=FZ (e:=3) (K:=K) (U:=Ui f gl g i) (k:=k') (l:=Ui f gl g i q.Glyph++[(g:Int)]) (kK n) hz
   rw [show aL (Ui f gl g i q.Glyph)++[[AV.sc (.int .i64 (g:Int))]]=aL (Ui f gl g i q.Glyph++[(g:Int)]) from ny _ [(g:Int)]]
   refine aX (aW (nP hput.symm).symm) ?_
   repeat' (first|fail)
   refine dA 1 (oQ mu (.int .i64 q.Glyph) (.vec k' 1 (aL (Ui f gl g i q.Glyph++[(g:Int)])))) Tryz.underlying422 Tryz.underlying3 rfl rfl rfl rfl rfl jG (fun q h=>iW q h) ?_
   repeat' (first|refine O1 ?_|fail)
   refine b7 (L':=uv bm bu p n kh (Rb f g) (wf dbs) (oQ mm (.int .i64 g) (aG (Mi f gl g i g+1)),oQ mu (.int .i64 q.Glyph) (.vec k' 1 (aL (Ui f gl g i q.Glyph++[(g:Int)]))),(fun y=>if y=q.Glyph then k' else K y),fun y=>if y=q.Glyph then Ui f gl g i q.Glyph++[(g:Int)] else Ui f gl g i y)++[(db,oA)]++[(l,kX { rec with state:= .busy })]) (aW (List.Perm.of_eq (by simp only [uv,fN,Oq,List.append_assoc,Oo]))) (ub ?_)
   rw [nT hrec.state hrec.pending]
   refine ⟨rfl,(oQ mm (.int .i64 g) (aG (Mi f gl g i g+1)),oQ mu (.int .i64 q.Glyph) (.vec k' 1 (aL (Ui f gl g i q.Glyph++[(g:Int)]))),(fun y=>if y=q.Glyph then k' else K y),fun y=>if y=q.Glyph then Ui f gl g i q.Glyph++[(g:Int)] else Ui f gl g i y),⟨?_,hU.put q.Glyph k' _,Jp hq hG⟩,?_⟩
   ·have:=hM.put g (Mi f gl g i g+1)
    rw [Jk hq hG] at this
    exact this
   ·simp only [uv,Oq,List.append_assoc,Oo]
  have hsk:∀(i:Nat) (x:LX) (q:dW),(og x.1 (Mi f gl g i)∧qH x.2.1 x.2.2.1 x.2.2.2∧x.2.2.2=Ui f gl g i)→gl.Parts[i]?=some q→m7 f q.Glyph=false→(og x.1 (Mi f gl g (i+1))∧qH x.2.1 x.2.2.1 x.2.2.2∧x.2.2.2=Ui f gl g (i+1)):=by
   intro i x q h hq hG
   rw [KX hq hG,L5 hq hG]
   exact h
  have hit:=HR (σ0:=σ0) (l:=l) f g gl hgg (fun x=>uv bm bu p n kh (Rb f g) (wf dbs) x++[(db,oA)]++[(l,kX rec)]) (fun i x=>og x.1 (Mi f gl g i)∧qH x.2.1 x.2.2.1 x.2.2.2∧x.2.2.2=Ui f gl g i) hy hsk (mm,mu,K,Ui f gl g 0) ⟨by rw [Ge];exact hM,by rw [za];exact hU,rfl⟩ (by have:=hf.parts gl hgm;omega)
  refine ⟨_,hit,?_⟩
  rintro c L' ⟨⟨mm',mu',K',U'⟩,⟨hM',hU',rfl⟩,rfl⟩
  dsimp only at hM' hU' ⊢
  refine ⟨rec,_,Ok _,(by rw [hrec.state];intro h;cases h),?_⟩
  rw [hrec.pending]
  show AX _ _ _ _ _ _ _ _
  rw [Jj hgg] at hM'
  rw [Jn hgg] at hU' ⊢
  clear hy hsk hit hM hU
  unfold uv
  dsimp only
  simp only [Oq,List.append_assoc,Oo]
  refine W01 ?_
  refine jI 0 (.int .i64 0) (aG (Mb f (g+1) g)) Tryz.underlying96 Tryz.underlying3 rfl rfl rfl rfl (by kernel_rfl) (hM'.at g) rfl ?_
  rw [show Mb f (g+1) g=(prt f g).length by unfold Mb;rw [if_pos (by omega)]]
  refine W01 ?_
  refine aw rfl (fun h=>?_) (fun h=>?_)
  ·have h0:(prt f g).length=0:=by have:=Oy h;omega
   cases kh with
   | none=>
    have hR0:Rb f g=[]:=hR
    unfold hst rz CV
    dsimp only
    simp only [Oq,Oo]
    refine W0b ?_
    refine C3 a7 rfl rfl rfl rfl rfl rfl rfl fun b' cs' h1 h2=>?_
    refine W0s ?_
    refine ov (g+1,db::dbs,mm',mu',K',some (b',cs')) rfl ⟨by rw [Ov];rfl,trivial⟩ rfl ⟨by dsimp only;omega,hM',hU',?_⟩ (by dsimp only;omega) (fun σ w h=>?_)
    ·rw [lL,if_pos h0,hR0]
     exact ⟨h1,h2,h2⟩
    ·have h:=dg.perm (L:=(b',.box cs' 3)::(bm,ci KI mm')::(bu,ci KI mu')::(p,.box [.sc (.slice (some ⟨b',0,none⟩) 1 cs'.length)] 423)::(mR 3 K' (cB (prt f) (cQ (g+1))) (cQ n)++(wf dbs++[(db,oA)]))) h wE
     show dg B σ (uv bm bu p n (some (b',cs')) (Rb f (g+1)) (wf (db::dbs)) (mm',mu',K',cB (prt f) (cQ (g+1)))) w
     rw [lL,if_pos h0,hR0]
     exact h
   | some kk=>
    obtain ⟨b,cs⟩:=kk
    rw [iS]
    simp only [Oq,Oo]
    refine W0b ?_
    have hRl:=D3 f g
    refine C2 a7 3 rfl rfl rfl rfl rfl rfl rfl hR.2.1 (by omega) (by omega) rfl fun b' cs' h1 h2=>?_
    refine W0s ?_
    refine ov (g+1,db::dbs,mm',mu',K',some (b',cs')) rfl ⟨by rw [Ov];rfl,trivial⟩ rfl ⟨by dsimp only;omega,hM',hU',?_⟩ (by dsimp only;omega) (fun σ w h=>?_)
    ·rw [lL,if_pos h0]
     refine ⟨?_,by rw [List.length_append];exact h2,by omega⟩
     rw [List.length_append,List.map_append,←hR.1]
     exact h1
    ·have h:=dg.perm (L:=(b',.box cs' 3)::(bm,ci KI mm')::(bu,ci KI mu')::(p,.box [.sc (.slice (some ⟨b',0,none⟩) ((Rb f g).length+1) cs'.length)] 423)::(mR 3 K' (cB (prt f) (cQ (g+1))) (cQ n)++(wf dbs++[(db,oA)]))) h wE
     show dg B σ (uv bm bu p n (some (b',cs')) (Rb f (g+1)) (wf (db::dbs)) (mm',mu',K',cB (prt f) (cQ (g+1)))) w
     rw [lL,if_pos h0]
     unfold uv
     rw [iS,List.length_append]
     exact h
  ·have h0:¬(prt f g).length=0:=by have:=Ox h;omega
   refine W02 ?_
   refine ov (g+1,db::dbs,mm',mu',K',kh) rfl ⟨by rw [Ov];rfl,trivial⟩ rfl ⟨by dsimp only;omega,hM',hU',by rw [lL,if_neg h0];exact hR⟩ (by dsimp only;omega) (fun σ w h=>?_)
   show dg B σ (uv bm bu p n kh (Rb f (g+1)) (wf (db::dbs)) (mm',mu',K',cB (prt f) (cQ (g+1)))) w
   rw [lL,if_neg h0]
   refine h.perm (List.Perm.cons _ (List.Perm.cons _ (List.Perm.append_left _ (List.Perm.append_left _ ?_))))
   exact List.perm_append_singleton _ _
 have hgn:g=n:=by have:=Ox h;omega
 subst hgn
 clear h
 have hst0:of g (prt f) [] (Rb f g) (Mb f g):=by
  have h1:=of.start (n:=g) (pr:=prt f) (M:=Mb f g) fun z h0 h1=>by unfold Mb;rw [if_pos ⟨h0,h1⟩]
  have h2:(cQ g).filter (fun z=>decide (Mb f g z=0))=Rb f g:=by
   unfold Rb
   refine List.filter_congr fun z hz=>?_
   unfold Mb
   rw [if_pos (fq.1 hz)]
   exact decide_eq_decide.2 (by omega)
  rw [h2] at h1
  exact h1
 have hRl:=D3 f g
 unfold uv
 dsimp only
 repeat' (first|refine O1 ?_|refine sD ?_)
 refine lU (by kernel_rfl) rfl rfl ?_
 repeat' (first|fail)
 refine bh (hst p kh (Rb f g)) _ (En p kh (Rb f g) hR (by omega)) rfl rfl oU rfl fun c L1 ⟨kh',R',hL,hR',hpm⟩=>?_
 subst hL
 refine aX (aW oU.symm) ?_
 refine W03 ?_
 refine bM (bq (t:=11) (c':= .vec none 1 (aL [])) rfl fun σ v h=>cM 1 h) ?_
 refine aJ [5,6,7] (α:=KS) (fun x=>[(11,.vec x.kt 1 (aL x.T))]) (fun x=>of g (prt f) x.T x.R x.M∧og x.mm x.M∧pf x.kh x.R) (fun x=>Mq bm bu p mu (mR 3 K (cB (prt f) (cQ g)) (cQ g)++wf dbs) x) (fun x=>g - x.T.length) ⟨[],R',Mb f g,mm,kh',none⟩ rfl ⟨rfl,trivial⟩ ⟨hst0.perm hpm,hM,hR'⟩ (fun σ w h=>?_) ?_
 ·exact h
 rintro ⟨T,R,M,mm,kh,kt⟩ ⟨hK,hM,hR⟩
 dsimp only at hK hM hR ⊢
 unfold Mq
 dsimp only
 try dsimp only [Oq,Oo,Om,Oh]
 cases kh with
 | none=>
  have hR0:R=[]:=hR
  subst hR0
  unfold hst rz CV
  dsimp only
  repeat' (first|refine O1 ?_|refine OE a7 KN ?_|(apply bU;first|refine OH a7 0 OB ?_|refine OH a7 1 OB ?_|refine OH a7 2 OB ?_|refine OH a7 3 OB ?_|refine OJ a7 0 OB ?_|refine OJ a7 1 OB ?_|refine OJ a7 2 OB ?_|refine OM a7 1 NZ (by assumption) rfl ?_|refine OM a7 0 NZ (by assumption) rfl ?_|fail)|refine bj rfl ?_)
  refine b7 (bq (t:=4) (c':= .imm 1 (aL T)) rfl fun σ v h=>VR.im h) ?_
  refine du (L':=wf dbs) (((((List.sublist_append_right _ _).trans (List.sublist_append_right _ _)).trans (List.sublist_append_right _ _)).cons _).cons _) ?_
  exact n5 (cs:=[.imm 1 (aL T)]) dbs [] rfl (Ok _) ⟨rfl,trivial⟩ ⟨T,rfl,hK.fin⟩
 | some kk=>
  obtain ⟨b,cs⟩:=kk
  rw [iS]
  have hTR:=fO hK.nodup hK.dom
  rw [List.length_append] at hTR
  refine W05 ?_
  refine aw rfl (fun h=>?_) (fun h=>?_)
  ·have h0:0 < R.length:=by have:=Oy h;omega
   clear h
   refine W0z ?_
   refine lU (by kernel_rfl) rfl rfl ?_
   repeat' (first|fail)
   refine bh (hst p (some (b,cs)) R) _ (Hr p b cs R hR h0 (by omega)) rfl rfl oU rfl fun c L1 ⟨z,cs',R',hc,hL,hR',hpm⟩=>?_
   subst hc;subst hL
   refine aX (aW oU.symm) ?_
   repeat' (first|fail)
   refine EP (by kernel_rfl) rfl rfl ?_
   refine W0f ?_
   have hKm:=(hK.perm hpm).pop
   have hz:=hKm.dom z (by simp)
   have hTz:z∉T:=fun hm=>by
    have:=hKm.nodup
    rw [List.append_assoc,List.nodup_append] at this
    exact this.2.2 z hm z (by simp) rfl
   have hTl:=fO (List.nodup_append.1 hKm.nodup).1 (fun y hy=>hKm.dom y (List.mem_append_left _ hy))
   rw [List.length_append] at hTl
   have hTi:=aP T
   have hall:∀q:Int,0≤q→q < g→(cB (prt f) (cQ g) z).count q=(prt f q).count z:=fun q q0 q1=>by rw [ml _ _ _ _ (kK g),if_pos (fq.2 ⟨q0,q1⟩)]
   have hUl:=pe hf.prt z (cQ g)
   rw [f4] at hUl
   refine bA a7 _ rfl rfl rfl rfl (nP (T:=tok kt 3 1 (aL T).length) (T':=[]) (by rw [List.append_nil])) (by rw [hTi];show _+1≤_;simp at hTl;omega) (by rw [hTi];show (_+1) * 8≤_;simp at hTl;omega) rfl fun k'=>?_
   rw [show aL T++[[AV.sc (.int .i64 z)]]=aL (T++[z]) from ny T [z]]
   refine aX (aW (nP (T:=tok k' 3 1 (aL (T++[z])).length) (T':=[]) (by rw [List.append_nil])).symm) ?_
   refine W01 ?_
   refine jI 1 (.slice none 0 0) (.vec (K z) 1 (aL (cB (prt f) (cQ g) z))) Tryz.underlying422 Tryz.underlying3 rfl rfl rfl rfl (by kernel_rfl) (hU.at z) rfl ?_
   repeat' (first|refine ak ?_|refine O1 ?_|refine OE a7 KN ?_)
   have hUi:=aP (cB (prt f) (cQ g) z)
   refine aJ [5,6,7,11,64,65] (α:=Nat×KS) (fun x=>[(66,aG x.1)]) (fun x=>x.2.T=T++[z]∧x.2.kt=k'∧x.1≤(cB (prt f) (cQ g) z).length∧sA g (prt f) T z ((cB (prt f) (cQ g) z).take x.1) x.2.R x.2.M∧og x.2.mm x.2.M∧pf x.2.kh x.2.R) (fun x=>Mq bm bu p mu (mR 3 K (cB (prt f) (cQ g)) (cQ g)++wf dbs) x.2) (fun x=>(cB (prt f) (cQ g) z).length - x.1) (0,⟨T++[z],R',M,mm,some (b,cs'),k'⟩) rfl ⟨rfl,trivial⟩ ⟨rfl,rfl,Nat.zero_le _,hKm,hM,hR'⟩ (fun σ w h=>h) ?_
   clear hM hR hK hR' hKm hpm
   rintro ⟨j,⟨T',R,M,mm,kh,kt'⟩⟩ ⟨hT',hk',hj,hK,hM,hR⟩
   dsimp only at hT' hk' hj hK hM hR ⊢
   subst hT';subst hk'
   unfold Mq
   dsimp only
   try dsimp only [Oq,Oo,Om,Oh]
   refine W01 ?_
   refine aw rfl (fun h=>?_) (fun h=>?_)
   ·have hjl:j < (cB (prt f) (cQ g) z).length:=by have:=Oy h;rw [hUi] at this;omega
    obtain ⟨u,hu⟩:∃u,(cB (prt f) (cQ g) z)[j]?=some u:=⟨_,Oz hjl⟩
    have hug:=bD hu
    have hur:=fq.1 (CR (Ow hu))
    obtain ⟨hpos,hK'⟩:=hK.step hall hTz hu hur.1 hur.2
    have hmu:=hK.miss u hur.1 hur.2
    have hml:=EM (prt f) T u
    have hpl:=hf.prt u
    have hRl2:=fO hK.nodup hK.dom
    rw [List.length_append,List.length_append] at hRl2
    clear h
    refine W08 ?_
    refine jI 0 (.int .i64 0) (aG (M u)) Tryz.underlying96 Tryz.underlying3 rfl rfl rfl rfl (by kernel_rfl) (hM.at u) rfl ?_
    refine W1r ?_
    refine dA 0 (oQ mm (.int .i64 u) (aG (M u - 1))) Tryz.underlying96 Tryz.underlying3 rfl rfl rfl rfl rfl jG (fun q h=>iW q h) ?_
    refine W01 ?_
    refine jI 0 (.int .i64 0) (aG (M u - 1)) Tryz.underlying96 Tryz.underlying3 rfl rfl rfl rfl (by kernel_rfl) (fun σ v h=>?_) rfl ?_
    ·have:=(hM.put u (M u - 1)).at u σ v h
     simpa using this
    refine W01 ?_
    refine aw rfl (fun h=>?_) (fun h=>?_)
    ·have h1:=Oy h
     rw [if_pos h1] at hK'
     repeat' (first|refine O1 ?_|fail)
     refine lU (by kernel_rfl) rfl rfl ?_
     repeat' (first|refine OE a7 KN ?_)
     refine lU (by kernel_rfl) rfl rfl ?_
     repeat' (first|fail)
     refine bh (hst p kh R) _ (Eo p kh R u hR (by omega)) rfl rfl oU rfl fun c L1 ⟨b2,cs2,R2,hL,hR2,hpm⟩=>?_
     subst hL
     refine aX (aW oU.symm) ?_
     refine W02 ?_
     exact aD (j+1,⟨T++[z],R2,_,_,some (b2,cs2),kt'⟩) rfl ⟨by rw [Ov];rfl,trivial⟩ ⟨rfl,rfl,by dsimp only;omega,hK'.perm hpm,hM.put u (M u - 1),hR2⟩ (by dsimp only;omega) (fun _ _ h=>h)
    ·have h1:=Ox h
     rw [if_neg h1] at hK'
     refine W02 ?_
     exact aD (j+1,⟨T++[z],R,_,_,kh,kt'⟩) rfl ⟨by rw [Ov];rfl,trivial⟩ ⟨rfl,rfl,by dsimp only;omega,hK',hM.put u (M u - 1),hR⟩ (by dsimp only;omega) (fun _ _ h=>h)
   ·have hjl:j=(cB (prt f) (cQ g) z).length:=by have:=Ox h;rw [hUi] at this;omega
    subst hjl
    rw [List.take_length] at hK
    repeat' (first|refine O1 ?_|fail)
    exact aD ⟨T++[z],R,M,mm,kh,kt'⟩ rfl ⟨rfl,trivial⟩ ⟨hK.done hall hTz,hM,hR⟩ (by dsimp only;simp at hTl ⊢;omega) (fun _ _ h=>h)
  ·have hR0:R=[]:=List.eq_nil_of_length_eq_zero (by have:=Ox h;omega)
   subst hR0
   refine W01 ?_
   refine b7 (bq (t:=4) (c':= .imm 1 (aL T)) rfl fun σ v h=>VR.im h) ?_
   refine du (L':=wf dbs) (((((List.sublist_append_right _ _).trans (List.sublist_append_right _ _)).trans (List.sublist_append_right _ _)).cons _).cons _) ?_
   exact n5 (cs:=[.imm 1 (aL T)]) dbs [] rfl (Ok _) ⟨rfl,trivial⟩ ⟨T,rfl,hK.fin⟩
end Go.Proofs.YtamjlkdanllgjaaGreatDoor
