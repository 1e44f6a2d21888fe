/-
  Numbers in a line, each behind what it needs.
-/
import Derived.Test.YtpbinloeemebkaaGreatM13
import Derived.Test.YtpbinloeemebkaaGreatM11
import Derived.Test.YtpbinloeemebkaaGreatM10
namespace Go.Proofs.YtpbinloeemebkaaGreat
def cH (n:Nat):List Int:=(List.range n).map fun (i:Nat)=>(i:Int)
theorem fe {n:Nat} {z:Int}:z∈cH n↔0≤z∧z < n:=by
 simp only [cH,List.mem_map,List.mem_range]
 constructor
 ·rintro ⟨i,hi,rfl⟩;omega
 ·rintro ⟨h0,h1⟩;exact ⟨z.toNat,by omega,by omega⟩
theorem k8 (n:Nat):(cH n).Nodup:=by
 unfold cH List.Nodup
 rw [List.pairwise_map]
 exact List.nodup_range.imp fun h e=>h (by omega)
theorem eS (n:Nat):(cH n).length=n:=by simp [cH]
theorem jv {n i:Nat} (h:i < n):(cH n)[i]?=some (i:Int):=by simp [cH,h]
theorem rT (n:Nat):cH (n+1)=cH n++[(n:Int)]:=by
 unfold cH
 rw [List.range_succ,List.map_append]
 rfl
def cw (pr:Int→List Int) (gs:List Int) (z:Int):List Int:=gs.flatMap fun g=>((pr g).filter fun p=>decide (p=z)).map fun _=>g
theorem lU (pr:Int→List Int) (z g:Int):∀gs:List Int,gs.Nodup→(cw pr gs z).count g=if g∈gs then (pr g).count z else 0
 | [],_=>by simp [cw]
 | y::gs,h=>by
  have h':=List.nodup_cons.1 h
  have ih:=lU pr z g gs h'.2
  unfold cw at ih ⊢
  rw [List.flatMap_cons,List.count_append,ih]
  by_cases e:y=g
  ·subst e
   rw [if_pos (List.mem_cons_self ..),if_neg h'.1,List.map_const',List.count_replicate_self,Nat.add_zero,List.count_eq_countP,List.countP_eq_length_filter]
   rfl
  ·rw [List.map_const',List.count_replicate,if_neg (by simpa using e),Nat.zero_add]
   by_cases hm:g∈gs
   ·rw [if_pos hm,if_pos (Ht _ hm)]
   ·rw [if_neg hm,if_neg (by simp [hm];exact fun h=>e h.symm)]
def lN (pr:Int→List Int) (T:List Int) (g:Int):Nat:=((pr g).filter fun p=>decide (p∉T)).length
theorem q8 (pr:Int→List Int) {T:List Int} {x:Int} (hx:x∉T) (g:Int):lN pr (T++[x]) g+(pr g).count x=lN pr T g:=by
 unfold lN
 induction pr g with
 | nil=>rfl
 | cons p l ih=>
  rw [List.filter_cons,List.filter_cons,List.count_cons]
  by_cases e:p=x
  ·subst e
   rw [if_neg (by simp),if_pos (decide_eq_true hx)]
   rw [if_pos (by simp),List.length_cons]
   omega
  ·have e1:decide (p∉T++[x])=decide (p∉T):=by simp [e]
   rw [e1]
   have e2:(p==x)=false:=by simpa using e
   rw [e2]
   simp only [Bool.false_eq_true,if_false]
   split
   ·simp only [List.length_cons];omega
   ·omega
theorem q9 {pr:Int→List Int} {T:List Int} {g:Int}:lN pr T g=0↔∀p∈pr g,p∈T:=by
 unfold lN
 rw [List.length_eq_zero_iff,List.filter_eq_nil_iff]
 simp
def xD (pr:Int→List Int) (T:List Int):Prop:=∀(i:Nat) (x:Int),T[i]?=some x→∀p∈pr x,p∈T.take i
theorem xD.snoc {pr:Int→List Int} {T:List Int} {x:Int} (h:xD pr T) (hx:∀p∈pr x,p∈T):xD pr (T++[x]):=by
 intro i y hy p hp
 by_cases hi:i < T.length
 ·rw [List.getElem?_append_left hi] at hy
  rw [List.take_append_of_le_length (by omega)]
  exact h i y hy p hp
 ·rw [List.getElem?_append_right (by omega)] at hy
  have hil:i - T.length=0:=by
   rcases Nat.eq_zero_or_pos (i - T.length) with h0 | h0
   ·exact h0
   ·rw [List.getElem?_eq_none (by simp;omega)] at hy;cases hy
  rw [hil] at hy
  simp at hy
  subst hy
  rw [show i=T.length by omega,List.take_left]
  exact hx p hp
structure nl (n:Nat) (pr:Int→List Int) (T R:List Int) (M:Int→Int):Prop where
 nodup:(T++R).Nodup
 dom:∀z∈T++R,0≤z∧z < n
 miss:∀g:Int,0≤g→g < n→M g=lN pr T g
 ready:∀g:Int,0≤g→g < n→(g∈T++R↔M g=0)
 topo:xD pr T
structure qL (n:Nat) (pr:Int→List Int) (T:List Int) (x:Int) (us:List Int) (R:List Int) (M:Int→Int):Prop where
 nodup:(T++[x]++R).Nodup
 dom:∀z∈T++[x]++R,0≤z∧z < n
 miss:∀g:Int,0≤g→g < n→M g+us.count g=lN pr T g
 ready:∀g:Int,0≤g→g < n→(g∈T++[x]++R↔M g=0)
 topo:xD pr (T++[x])
theorem nl.perm {n:Nat} {pr:Int→List Int} {T R R':List Int} {M:Int→Int} (h:nl n pr T R M) (hp:R'.Perm R):nl n pr T R' M:=by
 have hp':(T++R').Perm (T++R):=List.Perm.append_left T hp
 exact ⟨hp'.nodup_iff.2 h.nodup,fun z hz=>h.dom z (hp'.mem_iff.1 hz),h.miss,fun g h0 h1=>by rw [hp'.mem_iff];exact h.ready g h0 h1,h.topo⟩
theorem qL.perm {n:Nat} {pr:Int→List Int} {T R R' us:List Int} {x:Int} {M:Int→Int} (h:qL n pr T x us R M) (hp:R'.Perm R):qL n pr T x us R' M:=by
 have hp':(T++[x]++R').Perm (T++[x]++R):=List.Perm.append_left _ hp
 exact ⟨hp'.nodup_iff.2 h.nodup,fun z hz=>h.dom z (hp'.mem_iff.1 hz),h.miss,fun g h0 h1=>by rw [hp'.mem_iff];exact h.ready g h0 h1,h.topo⟩
theorem nl.pop {n:Nat} {pr:Int→List Int} {T R:List Int} {x:Int} {M:Int→Int} (h:nl n pr T (R++[x]) M):qL n pr T x [] R M:=by
 have hp:(T++[x]++R).Perm (T++(R++[x])):=by
  rw [List.append_assoc]
  exact List.Perm.append_left T List.perm_append_comm
 have hx:=h.dom x (by simp)
 refine ⟨hp.nodup_iff.2 h.nodup,fun z hz=>h.dom z (hp.mem_iff.1 hz),fun g h0 h1=>by simpa using h.miss g h0 h1,fun g h0 h1=>by rw [hp.mem_iff];exact h.ready g h0 h1,h.topo.snoc ?_⟩
 have h1:=(h.ready x hx.1 hx.2).1 (by simp)
 rw [h.miss x hx.1 hx.2] at h1
 exact q9.1 (by omega)
theorem kj {all:List Int} {j:Nat} {u:Int} (h:all[j]?=some u) (g:Int):(all.take (j+1)).count g=(all.take j).count g+if u=g then 1 else 0:=by
 rw [List.take_add_one,h,Option.toList_some,List.count_append]
 by_cases e:u=g
 ·subst e;simp
 ·rw [if_neg e,List.count_singleton,if_neg (by simpa using e)]
theorem qL.step {n:Nat} {pr:Int→List Int} {T R all:List Int} {x u:Int} {j:Nat} {M:Int→Int} (hall:∀g:Int,0≤g→g < n→all.count g=(pr g).count x) (hx:x∉T) (h:qL n pr T x (all.take j) R M) (hu:all[j]?=some u) (h0:0≤u) (h1:u < n):
  0 < M u∧qL n pr T x (all.take (j+1)) (if M u - 1=0 then R++[u] else R) (fun g=>if g=u then M u - 1 else M g):=by
 have hm:=h.miss u h0 h1
 have hlt:(all.take (j+1)).count u≤all.count u:=(List.take_sublist _ _).count_le u
 have hsn:=q8 pr hx u
 rw [kj hu,if_pos rfl,hall u h0 h1] at hlt
 have hpos:0 < M u:=by omega
 have hnot:u∉T++[x]++R:=fun hm'=>by have:=(h.ready u h0 h1).1 hm';omega
 refine ⟨hpos,?_⟩
 have hmiss:∀g:Int,0≤g→g < n→(if g=u then M u - 1 else M g)+((all.take (j+1)).count g:Int)=lN pr T g:=by
  intro g g0 g1
  rw [kj hu]
  by_cases e:g=u
  ·subst e
   rw [if_pos rfl,if_pos rfl]
   have:=h.miss g g0 g1
   omega
  ·rw [if_neg e,if_neg (fun q=>e q.symm)]
   have:=h.miss g g0 g1
   omega
 by_cases hz:M u - 1=0
 ·rw [if_pos hz]
  refine ⟨?_,fun z hz'=>?_,hmiss,fun g g0 g1=>?_,h.topo⟩
  ·rw [←List.append_assoc,List.nodup_append]
   refine ⟨h.nodup,by simp,fun a ha b hb=>?_⟩
   rw [Hm hb]
   exact fun e=>hnot (e▸ha)
  ·rw [←List.append_assoc] at hz'
   rcases Hn hz' with hz' | hz'
   ·exact h.dom z hz'
   ·rw [Hm hz'];exact ⟨h0,h1⟩
  ·rw [←List.append_assoc,List.mem_append,List.mem_singleton]
   by_cases e:g=u
   ·subst e;simp [hz]
   ·rw [if_neg e,h.ready g g0 g1]
    simp [e]
 ·rw [if_neg hz]
  refine ⟨h.nodup,h.dom,hmiss,fun g g0 g1=>?_,h.topo⟩
  by_cases e:g=u
  ·subst e
   rw [if_pos rfl]
   exact ⟨fun q=>absurd q hnot,fun q=>absurd q hz⟩
  ·rw [if_neg e]
   exact h.ready g g0 g1
theorem qL.done {n:Nat} {pr:Int→List Int} {T R all:List Int} {x:Int} {M:Int→Int} (hall:∀g:Int,0≤g→g < n→all.count g=(pr g).count x) (hx:x∉T) (h:qL n pr T x all R M):nl n pr (T++[x]) R M:=by
 refine ⟨h.nodup,h.dom,fun g h0 h1=>?_,h.ready,h.topo⟩
 have h2:=h.miss g h0 h1
 have h3:=q8 pr hx g
 rw [hall g h0 h1] at h2
 omega
structure iO (n:Nat) (pr:Int→List Int) (T:List Int):Prop where
 nodup:T.Nodup
 dom:∀z∈T,0≤z∧z < n
 topo:xD pr T
 full:∀g:Int,0≤g→g < n→(∀p∈pr g,p∈T)→g∈T
theorem nl.fin {n:Nat} {pr:Int→List Int} {T:List Int} {M:Int→Int} (h:nl n pr T [] M):iO n pr T:=by
 have h1:=h.nodup
 have h2:=h.dom
 have h3:=h.ready
 rw [List.append_nil] at h1 h2 h3
 exact ⟨h1,h2,h.topo,fun g h0 h4 hp=>(h3 g h0 h4).2 (by rw [h.miss g h0 h4,q9.2 hp];rfl)⟩
theorem nl.start {n:Nat} {pr:Int→List Int} {M:Int→Int} (hM:∀g:Int,0≤g→g < n→M g=(pr g).length):nl n pr [] ((cH n).filter fun g=>decide (M g=0)) M:=by
 refine ⟨by rw [Hr];exact (k8 n).filter _,fun z hz=>?_,fun g h0 h1=>?_,fun g h0 h1=>?_,fun i x h=>by simp at h⟩
 ·rw [Hr,List.mem_filter,fe] at hz
  exact hz.1
 ·rw [hM g h0 h1]
  unfold lN
  rw [List.filter_eq_self.2 (by simp)]
 ·rw [Hr,List.mem_filter,fe,decide_eq_true_eq]
  exact ⟨fun h=>h.2,fun h=>⟨⟨h0,h1⟩,h⟩⟩
def kx (n:Nat) (pr:Int→List Int):Prop:=∃r:Int→Nat,∀g:Int,0≤g→g < n→∀p∈pr g,r p < r g
theorem iO.all {n:Nat} {pr:Int→List Int} {T:List Int} (h:iO n pr T) (ha:kx n pr) (hp:∀g,∀p∈pr g,0≤p∧p < n):∀g:Int,0≤g→g < n→g∈T:=by
 obtain ⟨r,hr⟩:=ha
 have:∀(k:Nat) (g:Int),r g < k→0≤g→g < n→g∈T:=by
  intro k
  induction k with
  | zero=>intro g hk;exact absurd hk (Nat.not_lt_zero _)
  | succ k ih=>
   intro g hk h0 h1
   refine h.full g h0 h1 fun p hpp=>ih p ?_ (hp g p hpp).1 (hp g p hpp).2
   have:=hr g h0 h1 p hpp
   omega
 intro g h0 h1
 exact this (r g+1) g (by omega) h0 h1
theorem iO.len {n:Nat} {pr:Int→List Int} {T:List Int} (h:iO n pr T):T.length≤n:=iD h.nodup h.dom
theorem mV:∀(l T:List Int),l.Nodup→(∀x∈l,x∈T)→l.length≤T.length
 | [],_,_,_=>Nat.zero_le _
 | x::l,T,h,hs=>by
  have h':=List.nodup_cons.1 h
  have hx:=hs x (List.mem_cons_self ..)
  have:=mV l (T.erase x) h'.2 fun y hy=>(List.mem_erase_of_ne (fun e=>h'.1 (by rw [←e];exact hy))).2 (hs y (Ht _ hy))
  rw [List.length_erase_of_mem hx] at this
  have hpos:=List.length_pos_of_mem hx
  rw [List.length_cons]
  omega
theorem iO.len_all {n:Nat} {pr:Int→List Int} {T:List Int} (h:iO n pr T) (ha:∀g:Int,0≤g→g < n→g∈T):T.length=n:=by
 refine Nat.le_antisymm h.len ?_
 have:=mV (cH n) T (k8 n) fun z hz=>by
  rw [fe] at hz
  exact ha z hz.1 hz.2
 rwa [eS] at this
theorem iO.all_of_len {n:Nat} {pr:Int→List Int} {T:List Int} (h:iO n pr T) (hl:T.length=n):∀g:Int,0≤g→g < n→g∈T:=by
 intro g h0 h1
 apply Classical.byContradiction
 intro hn
 have:=iD (l:=g::T) (n:=n) (List.nodup_cons.2 ⟨hn,h.nodup⟩) fun z hz=>by
  rcases List.mem_cons.1 hz with rfl | hz
  ·exact ⟨h0,h1⟩
  ·exact h.dom z hz
 rw [List.length_cons] at this
 omega
theorem iO.acyc {n:Nat} {pr:Int→List Int} {T:List Int} (h:iO n pr T) (ha:∀g:Int,0≤g→g < n→g∈T):kx n pr:=by
 refine ⟨fun g=>T.idxOf g,fun g h0 h1 p hp=>?_⟩
 have hg:=ha g h0 h1
 have hi:=List.idxOf_lt_length_iff.2 hg
 have h2:=h.topo (T.idxOf g) g (by rw [Hz hi,List.getElem_idxOf]) p hp
 obtain ⟨j,hj⟩:=List.mem_iff_getElem?.1 h2
 rw [List.getElem?_take] at hj
 split at hj
 ·rename_i hlt
  dsimp only
  obtain ⟨hjl,hje⟩:=Hp hj
  have:T.idxOf p≤j:=by
   rw [←hje]
   have:=h.nodup.idxOf_getElem j hjl
   omega
  omega
 ·cases hj
end Go.Proofs.YtpbinloeemebkaaGreat
namespace Go.Proofs.YtpbinloeemebkaaGreat
open Go.RowKit
attribute [local irreducible] AT bO AX AO Av Kt bo dU DA cT
theorem zi (f:aL) (n:Int):bM Tryz.prog 281 [cx f,aH n] (c9 (kU f n)):=by
 refine aT Tryz.func281 rfl Tryz.ntmps281 rfl fun B=>?_
 repeat' (first|refine go ?_|refine HF a1 F8 ?_|refine bC ?_|fail)
 refine d7 (t:=4) [] (kU f n=true) rfl (fun Q' K=>?_) ?_
 ·repeat' (first|refine go ?_|refine HF a1 F8 ?_|refine HO F8 ?_|refine HS HB ?_|refine be rfl rfl rfl (fun _=>?_) (fun _=>?_))
  all_goals exact K _ _ rfl rfl (by unfold kU;simp_all <;> omega)
 repeat' (first|refine go ?_|fail)
 refine HN F8 ?_
 simp
instance (f:aL) (n:Int):AD Tryz.prog 281 [cx f,aH n] (c9 (kU f n)):=⟨zi f n⟩
theorem yI (f:aL) (g:Int):bM Tryz.prog 268 [cx f,aH g] (.fn 280 [.iptr (cf f),.iptr [aH g]]):=by
 refine aT Tryz.func268 rfl Tryz.ntmps268 rfl fun B=>?_
 repeat' (first|refine go ?_|refine HF a1 F8 ?_|refine bC ?_|fail)
 exact HP HA
instance (f:aL) (g:Int):AD Tryz.prog 268 [cx f,aH g] (.fn 280 [.iptr (cf f),.iptr [aH g]]):=⟨yI f g⟩
set_option maxHeartbeats 1000000 in
theorem Dc {α:Type} {σ0:ci} {l:Nat} (f:aL) (g:Nat) (gl:bn) (hg:f.Glyphs[g]?=some gl) (E:α→AL) (J:Nat→α→Prop)
  (hy:∀i x p,J i x→gl.Parts[i]?=some p→kU f p.Glyph=true→AY Tryz.prog σ0 l [.agg (dW p)] (E x) fun c L=>c=c9 true∧∃x',J (i+1) x'∧L=E x')
  (hs:∀i x p,J i x→gl.Parts[i]?=some p→kU f p.Glyph=false→J (i+1) x) (x0:α) (h0:J 0 x0) (hlen:gl.Parts.length≤1000000):
  zt Tryz.prog σ0 280 [.sc (.func (.yield l) #[] #[]),.iptr (cf f),.iptr [aH g]] (E x0) fun _ L=>∃x,J gl.Parts.length x∧L=E x:=by
 refine nu Tryz.func280 rfl Tryz.ntmps280 rfl fun B hB=>?_
 have hgg:=bA (c:=bS) hg
 repeat' (first|refine go ?_|refine ak ?_|refine HF a1 F8 ?_|(apply aX;first|refine aU a1 ?_|refine aK a1 ?_)|fail)
 refine aR [0,1,11,12] (α:=Nat×α) (fun y=>[(13,aH y.1)]) (fun y=>y.1≤gl.Parts.length∧J y.1 y.2) (fun y=>E y.2) (fun y=>gl.Parts.length - y.1) (0,x0) rfl ⟨rfl,trivial⟩ ⟨Nat.zero_le _,h0⟩ (fun _ _ h=>h) ?_
 rintro ⟨i,x⟩ ⟨hi,hj⟩
 dsimp only at hi hj ⊢
 try dsimp only [Hs,Hr,Hq,Hl]
 repeat' (first|refine go ?_|refine HF a1 F8 ?_)
 refine ay rfl (fun h=>?_) (fun h=>?_)
 ·have hil:i < gl.Parts.length:=by have:=Hy h;simp at this;omega
  obtain ⟨p,hp⟩:∃z,gl.Parts[i]?=some z:=⟨_,Hz hil⟩
  have hpg:=bA (c:=dW) hp
  repeat' (first|refine go ?_|refine ak ?_|refine HF a1 F8 ?_|(apply aX;first|refine aU a1 ?_|refine aK a1 ?_)|(apply aQ;first|refine HH 5 a1 0 HE ?_|refine HH 5 a1 1 HE ?_|refine HH 5 a1 2 HE ?_|refine HG a1 0 HD ?_|refine HG a1 1 HD ?_|refine HG a1 2 HD ?_|refine HG a1 3 HD ?_|fail)|refine bl a1 fun _=>?_|(apply bD;refine bf ?_)|fail)
  by_cases hG:kU f p.Glyph=true
  ·rw [hG]
   repeat' (first|refine HF a1 F8 ?_|refine HO F8 ?_)
   refine jV (E x) [] hB (hy i x p hj hp hG) rfl rfl rfl (by rw [List.append_nil];exact Ho _) rfl rfl fun c L1 ⟨hc,x',hj',hL⟩=>?_
   subst hc;subst hL
   rw [List.append_nil]
   repeat' (first|refine go ?_|refine HF a1 F8 ?_|refine HO F8 ?_|(apply aZ;refine aY ?_)|refine bL rfl ?_)
   exact aF (i+1,x') rfl ⟨by rw [Hv];rfl,trivial⟩ ⟨by dsimp only;omega,hj'⟩ (by dsimp only;omega) (fun _ _ h=>h)
  ·have hG':kU f p.Glyph=false:=by simpa using hG
   rw [hG']
   repeat' (first|refine go ?_|refine HF a1 F8 ?_|refine HS HB ?_|(apply aZ;refine aY ?_)|refine bL rfl ?_)
   exact aF (i+1,x) rfl ⟨by rw [Hv];rfl,trivial⟩ ⟨by dsimp only;omega,hs i x p hj hp hG'⟩ (by dsimp only;omega) (fun _ _ h=>h)
 ·have hil:i=gl.Parts.length:=by have:=Hx h;simp at this;omega
  subst hil
  repeat' (first|refine go ?_|fail)
  exact ce rfl ⟨x,hj,rfl⟩
end Go.Proofs.YtpbinloeemebkaaGreat
namespace Go.Proofs.YtpbinloeemebkaaGreat
open Go.RowKit
attribute [local irreducible] AT bO AX AO Av Kt bo dU DA cT
open Go.MapKept
attribute [local irreducible] p8
def prt (f:aL) (g:Int):List Int:=match f.Glyphs[g.toNat]? with
 | some gl=>(gl.Parts.map cX.Glyph).filter (kU f)
 | none=>[]
def uO (f:aL) (gl:bn) (i:Nat):List Int:=((gl.Parts.take i).map cX.Glyph).filter (kU f)
theorem xi {f:aL} {gl:bn} {i:Nat} {p:cX} (h:gl.Parts[i]?=some p) (hg:kU f p.Glyph=true):uO f gl (i+1)=uO f gl i++[p.Glyph]:=by
 unfold uO
 rw [List.take_add_one,h,Option.toList_some,List.map_append,List.filter_append]
 simp [hg]
theorem Bv {f:aL} {gl:bn} {i:Nat} {p:cX} (h:gl.Parts[i]?=some p) (hg:kU f p.Glyph=false):uO f gl (i+1)=uO f gl i:=by
 unfold uO
 rw [List.take_add_one,h,Option.toList_some,List.map_append,List.filter_append]
 simp [hg]
theorem xg {f:aL} {g:Nat} {gl:bn} (hg:f.Glyphs[g]?=some gl):uO f gl gl.Parts.length=prt f g:=by
 unfold uO prt
 rw [Int.toNat_natCast,hg,List.take_length]
theorem xh (f:aL) (gl:bn) (i:Nat):(uO f gl i).length≤gl.Parts.length:=by
 unfold uO
 refine Nat.le_trans (List.length_filter_le _ _) ?_
 rw [Hu,List.length_take]
 omega
theorem oY {f:aL} {z:Int}:kU f z=true↔0≤z∧z < f.Glyphs.length:=by unfold kU;simp
theorem EY {f:aL} {g p:Int} (h:p∈prt f g):0≤p∧p < f.Glyphs.length:=by
 unfold prt at h
 split at h
 ·rw [List.mem_filter] at h;exact oY.1 h.2
 ·cases h
structure Few (f:aL):Prop where
 n:f.Glyphs.length≤1000
 parts:∀gl∈f.Glyphs,gl.Parts.length≤1000
theorem Few.prt {f:aL} (h:Few f) (g:Int):(prt f g).length≤1000:=by
 unfold Go.Proofs.YtpbinloeemebkaaGreat.prt
 split
 ·rename_i gl hgl
  refine Nat.le_trans (List.length_filter_le _ _) ?_
  rw [Hu]
  exact h.parts gl (Hw hgl)
 ·exact Nat.zero_le _
theorem od {pr:Int→List Int} (h:∀g,(pr g).length≤1000) (z:Int):∀gs:List Int,(cw pr gs z).length≤1000 * gs.length
 | []=>by simp [cw]
 | g::gs=>by
  have ih:=od h z gs
  unfold cw at ih ⊢
  rw [List.flatMap_cons,List.length_append,Hu,List.length_cons]
  have h1:=List.length_filter_le (fun p=>decide (p=z)) (pr g)
  have h2:=h g
  omega
theorem zn {pr:Int→List Int} {gs:List Int} {z g:Int} (h:g∈cw pr gs z):g∈gs:=by
 unfold cw at h
 obtain ⟨y,hy,h1⟩:=List.mem_flatMap.1 h
 obtain ⟨_,_,rfl⟩:=List.mem_map.1 h1
 exact hy
theorem Bb (pr:Int→List Int) (T:List Int) (g:Int):lN pr T g≤(pr g).length:=List.length_filter_le _ _
def Mi (f:aL) (gl:bn) (g i:Nat):Int→Int:=fun z=>if z=g then (uO f gl i).length else if 0≤z∧z < g then (prt f z).length else 0
def Ui (f:aL) (gl:bn) (g i:Nat):Int→List Int:=fun z=>cw (prt f) (cH g) z++((uO f gl i).filter fun p=>decide (p=z)).map fun _=>(g:Int)
def Mb (f:aL) (g:Nat):Int→Int:=fun z=>if 0≤z∧z < g then (prt f z).length else 0
def Rb (f:aL) (g:Nat):List Int:=(cH g).filter fun z=>decide ((prt f z).length=0)
theorem C7 (f:aL) (gl:bn) (g:Nat):Mi f gl g 0=Mb f g:=by
 funext z
 unfold Mi Mb uO
 by_cases e:z=g
 ·subst e;rw [if_pos rfl,if_neg (by omega)];rfl
 ·rw [if_neg e]
theorem wD (f:aL) (gl:bn) (g:Nat):Ui f gl g 0=cw (prt f) (cH g):=by
 funext z
 unfold Ui uO
 simp
theorem E7 {f:aL} {g:Nat} {gl:bn} (hg:f.Glyphs[g]?=some gl):Mi f gl g gl.Parts.length=Mb f (g+1):=by
 funext z
 unfold Mi Mb
 rw [xg hg]
 by_cases e:z=g
 ·subst e;rw [if_pos rfl,if_pos (by omega)]
 ·rw [if_neg e]
  by_cases h:0≤z∧z < g
  ·rw [if_pos h,if_pos (by omega)]
  ·rw [if_neg h,if_neg (by omega)]
theorem E9 {f:aL} {g:Nat} {gl:bn} (hg:f.Glyphs[g]?=some gl):Ui f gl g gl.Parts.length=cw (prt f) (cH (g+1)):=by
 funext z
 unfold Ui
 rw [xg hg,rT]
 unfold cw
 rw [List.flatMap_append]
 simp
theorem E8 {f:aL} {gl:bn} {g i:Nat} {p:cX} (h:gl.Parts[i]?=some p) (hg:kU f p.Glyph=true):(fun q=>if q=(g:Int) then Mi f gl g i g+1 else Mi f gl g i q)=Mi f gl g (i+1):=by
 funext q
 unfold Mi
 rw [xi h hg]
 by_cases e:q=g
 ·rw [if_pos e,if_pos e,if_pos rfl];simp
 ·rw [if_neg e,if_neg e,if_neg e]
theorem Eb {f:aL} {gl:bn} {g i:Nat} {p:cX} (h:gl.Parts[i]?=some p) (hg:kU f p.Glyph=true):(fun q=>if q=p.Glyph then Ui f gl g i p.Glyph++[(g:Int)] else Ui f gl g i q)=Ui f gl g (i+1):=by
 funext q
 unfold Ui
 rw [xi h hg,List.filter_append,List.map_append]
 by_cases e:q=p.Glyph
 ·subst e;rw [if_pos rfl];simp
 ·have e':¬p.Glyph=q:=fun h=>e h.symm
  rw [if_neg e];simp [e']
theorem Fe {f:aL} {gl:bn} {g i:Nat} {p:cX} (h:gl.Parts[i]?=some p) (hg:kU f p.Glyph=false):Mi f gl g (i+1)=Mi f gl g i:=by unfold Mi;rw [Bv h hg]
theorem Fg {f:aL} {gl:bn} {g i:Nat} {p:cX} (h:gl.Parts[i]?=some p) (hg:kU f p.Glyph=false):Ui f gl g (i+1)=Ui f gl g i:=by unfold Ui;rw [Bv h hg]
theorem Ea {f:aL} (hf:Few f) (gl:bn) (hgl:gl∈f.Glyphs) {g:Nat} (hg:g≤1000) (i:Nat) (z:Int):(Ui f gl g i z).length≤1001000:=by
 unfold Ui
 have h1:=od hf.prt z (cH g)
 have h2:=xh f gl i
 have h3:=List.length_filter_le (fun p=>decide (p=z)) (uO f gl i)
 have h4:=hf.parts gl hgl
 rw [eS] at h1
 rw [List.length_append,Hu]
 omega
theorem li (f:aL) (g:Nat):Rb f (g+1)=if (prt f g).length=0 then Rb f g++[(g:Int)] else Rb f g:=by
 unfold Rb
 rw [rT,List.filter_append]
 by_cases h:(prt f g).length=0
 ·rw [if_pos h,List.filter_cons_of_pos (by simpa using h)];rfl
 ·rw [if_neg h,List.filter_cons_of_neg (by simpa using h)];simp
theorem zy (f:aL) (g:Nat):(Rb f g).length≤g:=by
 unfold Rb
 refine Nat.le_trans (List.length_filter_le _ _) ?_
 rw [eS]
 exact Nat.le_refl _
theorem l6 {a b:Nat×AB} {T T' t H R:AL} (h:T.Perm (t++T')):(a::b::(H++(T++R))).Perm (t++(a::b::(H++(T'++R)))):=by
 have h1:(a::b::(H++(T++R))).Perm (a::b::(H++(t++(T'++R)))):=by
  refine List.Perm.cons _ (List.Perm.cons _ (List.Perm.append_left _ ?_))
  rw [←List.append_assoc]
  exact h.append_right _
 refine h1.trans ?_
 have h2:(a::b::(H++(t++(T'++R))))=((a::b::H)++t)++(T'++R):=by simp
 have h3:t++(a::b::(H++(T'++R)))=(t++(a::b::H))++(T'++R):=by simp
 rw [h2,h3]
 exact List.Perm.append_right _ List.perm_append_comm
theorem jq {rec:Loop} (h1:rec.state= .ready) (h2:rec.pending=none):({ ({ rec with state:= .busy }:Loop) with state:= .ready,pending:=none }:Loop)=rec:=by cases rec;simp_all
abbrev KI:TypeDesc:= .int .i64
theorem C6 (f:aL):Mb f 0=fun _=>0:=by
 funext z
 unfold Mb
 rw [if_neg (by omega)]
abbrev KT:=Int→Option (Nat×Nat)
abbrev VM:=Value→Option AV
abbrev LX:=VM×VM×KT×(Int→List Int)
theorem uj {a b c d e:Nat×AB} {T M:AL}:(d::a::b::c::(T++(M++[e]))).Perm (a::b::c::d::(T++(e::M))):=by
 refine (List.perm_middle (l₁:=[a,b,c])).symm.trans ?_
 exact List.Perm.cons _ (List.Perm.cons _ (List.Perm.cons _ (List.Perm.cons _ (List.Perm.append_left T (List.perm_append_singleton e M)))))
def sr (bm bu p n:Nat) (kh:Option (Nat×List AV)) (R:List Int) (rest:AL) (x:LX):AL:=(bm,dc KI x.1)::(bu,dc KI x.2.1)::(hst p kh R++(mo 3 x.2.2.1 x.2.2.2 (cH n)++rest))
abbrev LS:=Nat×List Nat×VM×VM×KT×Option (Nat×List AV)
def u3 (dbs:List Nat):AL:=dbs.map fun b=>(b,ec)
theorem nZ {a b:Nat×AB} {H X:AL}:(a::b::(H++X)).Perm (H++(a::b::X)):=by
 have h1:(a::b::(H++X))=(a::b::H)++X:=rfl
 have h2:H++(a::b::X)=(H++[a,b])++X:=by simp
 rw [h1,h2]
 exact (List.perm_append_comm (l₁:=[a,b]) (l₂:=H)).append_right X
structure KS where
 T:List Int
 R:List Int
 M:Int→Int
 mm:VM
 kh:Option (Nat×List AV)
 kt:Option (Nat×Nat)
def Gk (bm bu p:Nat) (mu:VM) (X:AL) (x:KS):AL:=(bm,dc KI x.mm)::(bu,dc KI mu)::(hst p x.kh x.R++(tok x.kt 3 1 (aS x.T).length++X))
set_option maxHeartbeats 8000000 in
theorem CY (f:aL) (hf:Few f):AC Tryz.prog 234 [cx f,.imm 1 (aS (cH f.Glyphs.length))] [] fun c _=>∃T,c= .imm 1 (aS T)∧iO f.Glyphs.length (prt f) T:=by
 refine kB Tryz.func234 rfl Tryz.ntmps234 rfl fun B=>?_
 have hn:=hf.n
 have hil:(aS (cH f.Glyphs.length)).length=f.Glyphs.length:=by rw [aN,eS]
 generalize hN:f.Glyphs.length=n at *
 repeat' (first|refine go ?_|refine HF a1 F8 ?_|refine bC ?_|fail)
 refine gz KI fun bm=>?_
 repeat' (first|refine go ?_|(apply aQ;first|refine HH 5 a1 0 HE ?_|refine HH 5 a1 1 HE ?_|refine HH 5 a1 2 HE ?_|refine HH 6 a1 0 HE ?_|refine HH 6 a1 1 HE ?_|refine HH 6 a1 2 HE ?_|refine HH 9 a1 0 HE ?_|refine HH 9 a1 1 HE ?_|refine HH 9 a1 2 HE ?_|refine HH 10 a1 0 HE ?_|refine HH 10 a1 1 HE ?_|refine HH 10 a1 2 HE ?_|refine HG a1 0 HD ?_|refine HG a1 1 HD ?_|refine HG a1 2 HD ?_|refine HG a1 3 HD ?_|fail)|refine bl a1 fun _=>?_|fail)
 refine gz KI fun bu=>?_
 repeat' (first|refine go ?_|refine ak ?_|refine HF a1 F8 ?_|(apply aQ;first|refine HH 5 a1 0 HE ?_|refine HH 5 a1 1 HE ?_|refine HH 5 a1 2 HE ?_|refine HH 6 a1 0 HE ?_|refine HH 6 a1 1 HE ?_|refine HH 6 a1 2 HE ?_|refine HH 9 a1 0 HE ?_|refine HH 9 a1 1 HE ?_|refine HH 9 a1 2 HE ?_|refine HH 10 a1 0 HE ?_|refine HH 10 a1 1 HE ?_|refine HH 10 a1 2 HE ?_|refine HG a1 0 HD ?_|refine HG a1 1 HD ?_|refine HG a1 2 HD ?_|refine HG a1 3 HD ?_|fail)|refine bl a1 fun _=>?_|fail)
 rename_i p
 refine zY [2,5,6,7,17,18] (α:=LS) (fun x=>x9 x.2.1) (fun x=>[(19,aH x.1)]) (fun x=>x.1≤n∧nq x.2.2.1 (Mb f x.1)∧p9 x.2.2.2.1 x.2.2.2.2.1 (cw (prt f) (cH x.1))∧oe x.2.2.2.2.2 (Rb f x.1)) (fun x=>sr bm bu p n x.2.2.2.2.2 (Rb f x.1) (u3 x.2.1) (x.2.2.1,x.2.2.2.1,x.2.2.2.2.1,cw (prt f) (cH x.1))) (fun x=>n - x.1) (0,[],(fun _=>none),(fun _=>none),(fun _=>none),none) rfl ⟨rfl,trivial⟩ rfl ⟨Nat.zero_le _,?_,?_,rfl⟩ (fun σ w h=>?_) ?_
 ·intro z;exact .inl ⟨rfl,by rw [C6]⟩
 ·intro z;exact .inl ⟨rfl,rfl,rfl⟩
 ·have h1:=cZ.perm (L:=[(p,.box [.sc (.slice none 0 0)] 328),(bu,dc KI fun _=>none),(bm,dc KI fun _=>none)]) h (List.reverse_perm _).symm
  have h2:sr bm bu p n none (Rb f 0) (u3 []) ((fun _=>none),(fun _=>none),(fun _=>none),cw (prt f) (cH 0))=[(bm,dc KI fun _=>none),(bu,dc KI fun _=>none),(p,.box [.sc (.slice none 0 0)] 328)]:=by
   unfold sr
   rw [zk]
   rfl
  show cZ B σ (sr bm bu p n none (Rb f 0) (u3 []) ((fun _=>none),(fun _=>none),(fun _=>none),cw (prt f) (cH 0))) w
  rw [h2]
  exact h1
 rintro ⟨g,dbs,mm,mu,K,kh⟩ ⟨hg,hM,hU,hR⟩
 dsimp only at hg hM hU hR ⊢
 try dsimp only [Hs,Hr,Hq,Hl]
 repeat' (first|refine go ?_|refine HF a1 F8 ?_)
 rw [hil]
 refine ay rfl (fun h=>?_) (fun h=>?_)
 ·have hgl:g < n:=by have:=Hy h;omega
  obtain ⟨gl,hgg⟩:∃z,f.Glyphs[g]?=some z:=⟨_,Hz (by omega)⟩
  have hgm:=Hw hgg
  have hgi:=bG (jv hgl)
  clear h
  unfold sr
  dsimp only
  repeat' (first|refine go ?_|refine ak ?_|refine HF a1 F8 ?_|(apply aX;first|refine aU a1 ?_|refine aK a1 ?_)|(apply aQ;first|refine HH 5 a1 0 HE ?_|refine HH 5 a1 1 HE ?_|refine HH 5 a1 2 HE ?_|refine HH 6 a1 0 HE ?_|refine HH 6 a1 1 HE ?_|refine HH 6 a1 2 HE ?_|refine HH 9 a1 0 HE ?_|refine HH 9 a1 1 HE ?_|refine HH 9 a1 2 HE ?_|refine HH 10 a1 0 HE ?_|refine HH 10 a1 1 HE ?_|refine HH 10 a1 2 HE ?_|refine HG a1 0 HD ?_|refine HG a1 1 HD ?_|refine HG a1 2 HD ?_|refine HG a1 3 HD ?_|fail)|refine bl a1 fun _=>?_|(apply bD;refine bf ?_)|fail)
  refine gD (fr':=[(2,.iptr (cf f)),(5,.iptr [.sc (.map (some bm))]),(6,.iptr [.sc (.map (some bu))]),(7,.sc (.pointer (some ⟨p,0,none⟩))),(9,.iptr [aH g]),(17,.imm 1 (aS (cH n))),(18,aH n),(19,aH g),(25,.fn 280 [.iptr (cf f),.iptr [aH g]])]) (L':=sr bm bu p n kh (Rb f g) (u3 dbs) (mm,mu,K,Ui f gl g 0)) ⟨rfl,rfl,rfl,rfl,rfl,rfl,rfl,rfl,rfl,trivial⟩ (fun _ _ h=>by rw [wD];exact h) ?_
  refine gK (ps:=[26]) rfl fun σ0 l db rec hrec=>?_
  have hy:∀(i:Nat) (x:LX) (q:cX),(nq x.1 (Mi f gl g i)∧p9 x.2.1 x.2.2.1 x.2.2.2∧x.2.2.2=Ui f gl g i)→gl.Parts[i]?=some q→kU f q.Glyph=true→AY Tryz.prog σ0 l [.agg (dW q)] (sr bm bu p n kh (Rb f g) (u3 dbs) x++[(db,ec)]++[(l,eH rec)]) fun c L=>c=c9 true∧∃x':LX,(nq x'.1 (Mi f gl g (i+1))∧p9 x'.2.1 x'.2.2.1 x'.2.2.2∧x'.2.2.2=Ui f gl g (i+1))∧L=sr bm bu p n kh (Rb f g) (u3 dbs) x'++[(db,ec)]++[(l,eH rec)]:=by
   rintro i ⟨mm,mu,K,U⟩ q ⟨hM,hU,rfl⟩ hq hG
   dsimp only at hM hU ⊢
   refine oo hrec rfl rfl fun B1 hB1=>?_
   repeat' (first|refine go ?_|(apply aQ;first|refine HH 5 a1 0 HE ?_|refine HH 5 a1 1 HE ?_|refine HH 5 a1 2 HE ?_|refine HH 6 a1 0 HE ?_|refine HH 6 a1 1 HE ?_|refine HH 6 a1 2 HE ?_|refine HH 9 a1 0 HE ?_|refine HH 9 a1 1 HE ?_|refine HH 9 a1 2 HE ?_|refine HH 10 a1 0 HE ?_|refine HH 10 a1 1 HE ?_|refine HH 10 a1 2 HE ?_|refine HG a1 0 HD ?_|refine HG a1 1 HD ?_|refine HG a1 2 HD ?_|refine HG a1 3 HD ?_|fail)|refine bl a1 fun _=>?_|fail)
   refine gL hrec.state ?_
   unfold sr
   dsimp only
   have hqr:=oY.1 hG
   have hcnt:=xh f gl i
   have hpl:=hf.parts gl hgm
   have hMg:Mi f gl g i g=(uO f gl i).length:=by unfold Mi;rw [if_pos rfl]
   simp only [Hs,List.append_assoc]
   have hUl:=Ea hf gl hgm (g:=g) (by omega) i q.Glyph
   have hUi:(aS (Ui f gl g i q.Glyph)).length=(Ui f gl g i q.Glyph).length:=aN _
   have hz:q.Glyph∈cH n:=fe.2 (by omega)
   repeat' (first|refine go ?_|refine ak ?_|refine HF a1 F8 ?_)
   refine jm 0 (.int .i64 0) (aH (Mi f gl g i g)) Tryz.underlying326 Tryz.underlying3 rfl rfl rfl rfl (by kernel_rfl) (hM.at g) rfl ?_
   repeat' (first|(apply aZ;refine aY ?_)|fail)
   refine ee 0 (mS mm (.int .i64 g) (aH (Mi f gl g i g+1))) Tryz.underlying326 Tryz.underlying3 rfl rfl rfl rfl rfl gy (fun q h=>fK q h) ?_
   repeat' (first|refine go ?_|fail)
   refine bj 10 [(0,.v),(1,.v),(2,.v),(3,.v),(4,.v),(5,.v),(7,.v),(8,.v),(6,.e),(9,.e)] none ?_ trivial rfl (by kernel_rfl) (by kernel_rfl) (by kernel_rfl) mixed (by kernel_rfl) rfl
   repeat' (first|refine aE ?_|refine ba a1 ?_|refine ek a1 ?_|fail)
   refine y7 1 (.slice none 0 0) (.vec (K q.Glyph) 1 (aS (Ui f gl g i q.Glyph))) Tryz.underlying327 Tryz.underlying3 rfl rfl rfl rfl (by kernel_rfl) (hU.at q.Glyph) trivial ?_
   repeat' (first|refine aE ?_|fail)
   refine fZ a1 _ rfl rfl rfl rfl (l6 (oa hz)) (by rw [hUi];show _+1≤_;omega) (by rw [hUi];show (_+1) * 8≤_;omega) trivial fun k'=>?_
   repeat' (first|fail)
   refine HR [2,5,6,7,9,17,18,19,26,31,33,40] F8 ?_
   have hput:=BY (e:=3) (K:=K) (U:=Ui f gl g i) (k:=k') (l:=Ui f gl g i q.Glyph++[(g:Int)]) (k8 n) hz
   rw [show aS (Ui f gl g i q.Glyph)++[[AV.sc (.int .i64 (g:Int))]]=aS (Ui f gl g i q.Glyph++[(g:Int)]) from mM _ [(g:Int)]]
   refine aV (aJ (l6 hput.symm).symm) ?_
   repeat' (first|fail)
   refine ee 1 (mS mu (.int .i64 q.Glyph) (.vec k' 1 (aS (Ui f gl g i q.Glyph++[(g:Int)])))) Tryz.underlying327 Tryz.underlying3 rfl rfl rfl rfl rfl gy (fun q h=>fK q h) ?_
   repeat' (first|refine go ?_|fail)
   refine bk (L':=sr bm bu p n kh (Rb f g) (u3 dbs) (mS mm (.int .i64 g) (aH (Mi f gl g i g+1)),mS mu (.int .i64 q.Glyph) (.vec k' 1 (aS (Ui f gl g i q.Glyph++[(g:Int)]))),(fun y=>if y=q.Glyph then k' else K y),fun y=>if y=q.Glyph then Ui f gl g i q.Glyph++[(g:Int)] else Ui f gl g i y)++[(db,ec)]++[(l,eH { rec with state:= .busy })]) (aJ (List.Perm.of_eq (by simp only [sr,fi,Hs,List.append_assoc,Hr]))) (kF ?_)
   rw [jq hrec.state hrec.pending]
   refine ⟨rfl,(mS mm (.int .i64 g) (aH (Mi f gl g i g+1)),mS mu (.int .i64 q.Glyph) (.vec k' 1 (aS (Ui f gl g i q.Glyph++[(g:Int)]))),(fun y=>if y=q.Glyph then k' else K y),fun y=>if y=q.Glyph then Ui f gl g i q.Glyph++[(g:Int)] else Ui f gl g i y),⟨?_,hU.put q.Glyph k' _,Eb hq hG⟩,?_⟩
   ·have:=hM.put g (Mi f gl g i g+1)
    rw [E8 hq hG] at this
    exact this
   ·simp only [sr,Hs,List.append_assoc,Hr]
  have hsk:∀(i:Nat) (x:LX) (q:cX),(nq x.1 (Mi f gl g i)∧p9 x.2.1 x.2.2.1 x.2.2.2∧x.2.2.2=Ui f gl g i)→gl.Parts[i]?=some q→kU f q.Glyph=false→(nq x.1 (Mi f gl g (i+1))∧p9 x.2.1 x.2.2.1 x.2.2.2∧x.2.2.2=Ui f gl g (i+1)):=by
   intro i x q h hq hG
   rw [Fe hq hG,Fg hq hG]
   exact h
  have hit:=Dc (σ0:=σ0) (l:=l) f g gl hgg (fun x=>sr bm bu p n kh (Rb f g) (u3 dbs) x++[(db,ec)]++[(l,eH rec)]) (fun i x=>nq x.1 (Mi f gl g i)∧p9 x.2.1 x.2.2.1 x.2.2.2∧x.2.2.2=Ui f gl g i) hy hsk (mm,mu,K,Ui f gl g 0) ⟨by rw [C7];exact hM,by rw [wD];exact hU,rfl⟩ (by have:=hf.parts gl hgm;omega)
  refine ⟨_,hit,?_⟩
  rintro c L' ⟨⟨mm',mu',K',U'⟩,⟨hM',hU',rfl⟩,rfl⟩
  dsimp only at hM' hU' ⊢
  refine ⟨rec,_,Ho _,(by rw [hrec.state];intro h;cases h),?_⟩
  rw [hrec.pending]
  show AX _ _ _ _ _ _ _ _
  rw [E7 hgg] at hM'
  rw [E9 hgg] at hU' ⊢
  clear hy hsk hit hM hU
  unfold sr
  dsimp only
  simp only [Hs,List.append_assoc,Hr]
  repeat' (first|refine go ?_|refine HF a1 F8 ?_)
  refine jm 0 (.int .i64 0) (aH (Mb f (g+1) g)) Tryz.underlying326 Tryz.underlying3 rfl rfl rfl rfl (by kernel_rfl) (hM'.at g) rfl ?_
  rw [show Mb f (g+1) g=(prt f g).length by unfold Mb;rw [if_pos (by omega)]]
  repeat' (first|refine go ?_|refine HF a1 F8 ?_)
  refine ay rfl (fun h=>?_) (fun h=>?_)
  ·have h0:(prt f g).length=0:=by have:=Hy h;omega
   cases kh with
   | none=>
    have hR0:Rb f g=[]:=hR
    unfold hst pN tR
    dsimp only
    simp only [Hs,Hr]
    repeat' (first|refine go ?_|refine HF a1 F8 ?_|(apply bh;first|refine HJ a1 0 HC ?_|refine HJ a1 1 HC ?_|refine HJ a1 2 HC ?_|refine HJ a1 3 HC ?_|refine HK a1 0 HC ?_|refine HK a1 1 HC ?_|refine HK a1 2 HC ?_|refine HM a1 1 HA (by assumption) rfl ?_|refine HM a1 0 HA (by assumption) rfl ?_|fail)|refine bI a1 ?_|fail)
    refine yB a1 rfl rfl rfl rfl rfl rfl rfl fun b' cs' h1 h2=>?_
    repeat' (first|refine go ?_|refine HF a1 F8 ?_|(apply aZ;refine aY ?_)|(apply aQ;first|refine HH 5 a1 0 HE ?_|refine HH 5 a1 1 HE ?_|refine HH 5 a1 2 HE ?_|refine HH 6 a1 0 HE ?_|refine HH 6 a1 1 HE ?_|refine HH 6 a1 2 HE ?_|refine HH 9 a1 0 HE ?_|refine HH 9 a1 1 HE ?_|refine HH 9 a1 2 HE ?_|refine HH 10 a1 0 HE ?_|refine HH 10 a1 1 HE ?_|refine HH 10 a1 2 HE ?_|refine HG a1 0 HD ?_|refine HG a1 1 HD ?_|refine HG a1 2 HD ?_|refine HG a1 3 HD ?_|fail))
    refine nA (g+1,db::dbs,mm',mu',K',some (b',cs')) rfl ⟨by rw [Hv];rfl,trivial⟩ rfl ⟨by dsimp only;omega,hM',hU',?_⟩ (by dsimp only;omega) (fun σ w h=>?_)
    ·rw [li,if_pos h0,hR0]
     exact ⟨h1,h2,h2⟩
    ·have h:=cZ.perm (L:=(b',.box cs' 3)::(bm,dc KI mm')::(bu,dc KI mu')::(p,.box [.sc (.slice (some ⟨b',0,none⟩) 1 cs'.length)] 328)::(mo 3 K' (cw (prt f) (cH (g+1))) (cH n)++(u3 dbs++[(db,ec)]))) h uj
     show cZ B σ (sr bm bu p n (some (b',cs')) (Rb f (g+1)) (u3 (db::dbs)) (mm',mu',K',cw (prt f) (cH (g+1)))) w
     rw [li,if_pos h0,hR0]
     exact h
   | some kk=>
    obtain ⟨b,cs⟩:=kk
    rw [iy]
    simp only [Hs,Hr]
    repeat' (first|refine go ?_|refine HF a1 F8 ?_|(apply bh;first|refine HJ a1 0 HC ?_|refine HJ a1 1 HC ?_|refine HJ a1 2 HC ?_|refine HJ a1 3 HC ?_|refine HK a1 0 HC ?_|refine HK a1 1 HC ?_|refine HK a1 2 HC ?_|refine HM a1 1 HA (by assumption) rfl ?_|refine HM a1 0 HA (by assumption) rfl ?_|fail)|refine bI a1 ?_|fail)
    have hRl:=zy f g
    refine yA a1 3 rfl rfl rfl rfl rfl rfl rfl hR.2.1 (by omega) (by omega) rfl fun b' cs' h1 h2=>?_
    repeat' (first|refine go ?_|refine HF a1 F8 ?_|(apply aZ;refine aY ?_)|(apply aQ;first|refine HH 5 a1 0 HE ?_|refine HH 5 a1 1 HE ?_|refine HH 5 a1 2 HE ?_|refine HH 6 a1 0 HE ?_|refine HH 6 a1 1 HE ?_|refine HH 6 a1 2 HE ?_|refine HH 9 a1 0 HE ?_|refine HH 9 a1 1 HE ?_|refine HH 9 a1 2 HE ?_|refine HH 10 a1 0 HE ?_|refine HH 10 a1 1 HE ?_|refine HH 10 a1 2 HE ?_|refine HG a1 0 HD ?_|refine HG a1 1 HD ?_|refine HG a1 2 HD ?_|refine HG a1 3 HD ?_|fail))
    refine nA (g+1,db::dbs,mm',mu',K',some (b',cs')) rfl ⟨by rw [Hv];rfl,trivial⟩ rfl ⟨by dsimp only;omega,hM',hU',?_⟩ (by dsimp only;omega) (fun σ w h=>?_)
    ·rw [li,if_pos h0]
     refine ⟨?_,by rw [List.length_append];exact h2,by omega⟩
     rw [List.length_append,List.map_append,←hR.1]
     exact h1
    ·have h:=cZ.perm (L:=(b',.box cs' 3)::(bm,dc KI mm')::(bu,dc KI mu')::(p,.box [.sc (.slice (some ⟨b',0,none⟩) ((Rb f g).length+1) cs'.length)] 328)::(mo 3 K' (cw (prt f) (cH (g+1))) (cH n)++(u3 dbs++[(db,ec)]))) h uj
     show cZ B σ (sr bm bu p n (some (b',cs')) (Rb f (g+1)) (u3 (db::dbs)) (mm',mu',K',cw (prt f) (cH (g+1)))) w
     rw [li,if_pos h0]
     unfold sr
     rw [iy,List.length_append]
     exact h
  ·have h0:¬(prt f g).length=0:=by have:=Hx h;omega
   repeat' (first|refine go ?_|refine HF a1 F8 ?_|(apply aZ;refine aY ?_)|fail)
   refine nA (g+1,db::dbs,mm',mu',K',kh) rfl ⟨by rw [Hv];rfl,trivial⟩ rfl ⟨by dsimp only;omega,hM',hU',by rw [li,if_neg h0];exact hR⟩ (by dsimp only;omega) (fun σ w h=>?_)
   show cZ B σ (sr bm bu p n kh (Rb f (g+1)) (u3 (db::dbs)) (mm',mu',K',cw (prt f) (cH (g+1)))) w
   rw [li,if_neg h0]
   refine h.perm (List.Perm.cons _ (List.Perm.cons _ (List.Perm.append_left _ (List.Perm.append_left _ ?_))))
   exact List.perm_append_singleton _ _
 have hgn:g=n:=by have:=Hx h;omega
 subst hgn
 clear h
 have hst0:nl g (prt f) [] (Rb f g) (Mb f g):=by
  have h1:=nl.start (n:=g) (pr:=prt f) (M:=Mb f g) fun z h0 h1=>by unfold Mb;rw [if_pos ⟨h0,h1⟩]
  have h2:(cH g).filter (fun z=>decide (Mb f g z=0))=Rb f g:=by
   unfold Rb
   refine List.filter_congr fun z hz=>?_
   unfold Mb
   rw [if_pos (fe.1 hz)]
   exact decide_eq_decide.2 (by omega)
  rw [h2] at h1
  exact h1
 have hRl:=zy f g
 unfold sr
 dsimp only
 repeat' (first|refine go ?_|refine qP ?_)
 refine mT (by kernel_rfl) rfl rfl ?_
 repeat' (first|fail)
 refine bb (hst p kh (Rb f g)) _ (Ax p kh (Rb f g) hR (by omega)) rfl rfl nZ rfl fun c L1 ⟨kh',R',hL,hR',hpm⟩=>?_
 subst hL
 refine aV (aJ nZ.symm) ?_
 repeat' (first|refine go ?_|refine ak ?_|refine HF a1 F8 ?_)
 refine bW (cA (t:=11) (c':= .vec none 1 (aS [])) rfl fun σ v h=>dg 1 h) ?_
 refine aR [5,6,7] (α:=KS) (fun x=>[(11,.vec x.kt 1 (aS x.T))]) (fun x=>nl g (prt f) x.T x.R x.M∧nq x.mm x.M∧oe x.kh x.R) (fun x=>Gk bm bu p mu (mo 3 K (cw (prt f) (cH g)) (cH g)++u3 dbs) x) (fun x=>g - x.T.length) ⟨[],R',Mb f g,mm,kh',none⟩ rfl ⟨rfl,trivial⟩ ⟨hst0.perm hpm,hM,hR'⟩ (fun σ w h=>?_) ?_
 ·exact h
 rintro ⟨T,R,M,mm,kh,kt⟩ ⟨hK,hM,hR⟩
 dsimp only at hK hM hR ⊢
 unfold Gk
 dsimp only
 try dsimp only [Hs,Hr,Hq,Hl]
 cases kh with
 | none=>
  have hR0:R=[]:=hR
  subst hR0
  unfold hst pN tR
  dsimp only
  repeat' (first|refine go ?_|refine HF a1 F8 ?_|(apply bh;first|refine HJ a1 0 HC ?_|refine HJ a1 1 HC ?_|refine HJ a1 2 HC ?_|refine HJ a1 3 HC ?_|refine HK a1 0 HC ?_|refine HK a1 1 HC ?_|refine HK a1 2 HC ?_|refine HM a1 1 HA (by assumption) rfl ?_|refine HM a1 0 HA (by assumption) rfl ?_|fail)|refine bL rfl ?_)
  refine bk (cA (t:=4) (c':= .imm 1 (aS T)) rfl fun σ v h=>VR.im h) ?_
  refine eY (L':=u3 dbs) (((((List.sublist_append_right _ _).trans (List.sublist_append_right _ _)).trans (List.sublist_append_right _ _)).cons _).cons _) ?_
  exact fG (cs:=[.imm 1 (aS T)]) dbs [] rfl (Ho _) ⟨rfl,trivial⟩ ⟨T,rfl,hK.fin⟩
 | some kk=>
  obtain ⟨b,cs⟩:=kk
  rw [iy]
  have hTR:=iD hK.nodup hK.dom
  rw [List.length_append] at hTR
  repeat' (first|refine go ?_|refine HF a1 F8 ?_|(apply bh;first|refine HJ a1 0 HC ?_|refine HJ a1 1 HC ?_|refine HJ a1 2 HC ?_|refine HJ a1 3 HC ?_|refine HK a1 0 HC ?_|refine HK a1 1 HC ?_|refine HK a1 2 HC ?_|refine HM a1 1 HA (by assumption) rfl ?_|refine HM a1 0 HA (by assumption) rfl ?_|fail)|fail)
  refine ay rfl (fun h=>?_) (fun h=>?_)
  ·have h0:0 < R.length:=by have:=Hy h;omega
   clear h
   repeat' (first|refine go ?_|refine ak ?_)
   refine mT (by kernel_rfl) rfl rfl ?_
   repeat' (first|fail)
   refine bb (hst p (some (b,cs)) R) _ (CU p b cs R hR h0 (by omega)) rfl rfl nZ rfl fun c L1 ⟨z,cs',R',hc,hL,hR',hpm⟩=>?_
   subst hc;subst hL
   refine aV (aJ nZ.symm) ?_
   repeat' (first|fail)
   refine Bd (by kernel_rfl) rfl rfl ?_
   repeat' (first|refine go ?_|refine HF a1 F8 ?_|refine bI a1 ?_|fail)
   have hKm:=(hK.perm hpm).pop
   have hz:=hKm.dom z (by simp)
   have hTz:z∉T:=fun hm=>by
    have:=hKm.nodup
    rw [List.append_assoc,List.nodup_append] at this
    exact this.2.2 z hm z (by simp) rfl
   have hTl:=iD (List.nodup_append.1 hKm.nodup).1 (fun y hy=>hKm.dom y (List.mem_append_left _ hy))
   rw [List.length_append] at hTl
   have hTi:=aN T
   have hall:∀q:Int,0≤q→q < g→(cw (prt f) (cH g) z).count q=(prt f q).count z:=fun q q0 q1=>by rw [lU _ _ _ _ (k8 g),if_pos (fe.2 ⟨q0,q1⟩)]
   have hUl:=od hf.prt z (cH g)
   rw [eS] at hUl
   refine cj a1 _ rfl rfl rfl rfl (l6 (T:=tok kt 3 1 (aS T).length) (T':=[]) (by rw [List.append_nil])) (by rw [hTi];show _+1≤_;simp at hTl;omega) (by rw [hTi];show (_+1) * 8≤_;simp at hTl;omega) rfl fun k'=>?_
   rw [show aS T++[[AV.sc (.int .i64 z)]]=aS (T++[z]) from mM T [z]]
   refine aV (aJ (l6 (T:=tok k' 3 1 (aS (T++[z])).length) (T':=[]) (by rw [List.append_nil])).symm) ?_
   repeat' (first|refine go ?_|refine HF a1 F8 ?_)
   refine jm 1 (.slice none 0 0) (.vec (K z) 1 (aS (cw (prt f) (cH g) z))) Tryz.underlying327 Tryz.underlying3 rfl rfl rfl rfl (by kernel_rfl) (hU.at z) rfl ?_
   repeat' (first|refine ak ?_|refine go ?_|refine HF a1 F8 ?_)
   have hUi:=aN (cw (prt f) (cH g) z)
   refine aR [5,6,7,11,64,65] (α:=Nat×KS) (fun x=>[(66,aH x.1)]) (fun x=>x.2.T=T++[z]∧x.2.kt=k'∧x.1≤(cw (prt f) (cH g) z).length∧qL g (prt f) T z ((cw (prt f) (cH g) z).take x.1) x.2.R x.2.M∧nq x.2.mm x.2.M∧oe x.2.kh x.2.R) (fun x=>Gk bm bu p mu (mo 3 K (cw (prt f) (cH g)) (cH g)++u3 dbs) x.2) (fun x=>(cw (prt f) (cH g) z).length - x.1) (0,⟨T++[z],R',M,mm,some (b,cs'),k'⟩) rfl ⟨rfl,trivial⟩ ⟨rfl,rfl,Nat.zero_le _,hKm,hM,hR'⟩ (fun σ w h=>h) ?_
   clear hM hR hK hR' hKm hpm
   rintro ⟨j,⟨T',R,M,mm,kh,kt'⟩⟩ ⟨hT',hk',hj,hK,hM,hR⟩
   dsimp only at hT' hk' hj hK hM hR ⊢
   subst hT';subst hk'
   unfold Gk
   dsimp only
   try dsimp only [Hs,Hr,Hq,Hl]
   repeat' (first|refine go ?_|refine HF a1 F8 ?_)
   refine ay rfl (fun h=>?_) (fun h=>?_)
   ·have hjl:j < (cw (prt f) (cH g) z).length:=by have:=Hy h;rw [hUi] at this;omega
    obtain ⟨u,hu⟩:∃u,(cw (prt f) (cH g) z)[j]?=some u:=⟨_,Hz hjl⟩
    have hug:=bG hu
    have hur:=fe.1 (zn (Hw hu))
    obtain ⟨hpos,hK'⟩:=hK.step hall hTz hu hur.1 hur.2
    have hmu:=hK.miss u hur.1 hur.2
    have hml:=Bb (prt f) T u
    have hpl:=hf.prt u
    have hRl2:=iD hK.nodup hK.dom
    rw [List.length_append,List.length_append] at hRl2
    clear h
    repeat' (first|refine go ?_|refine ak ?_|refine HF a1 F8 ?_|(apply aX;first|refine aU a1 ?_|refine aK a1 ?_)|fail)
    refine jm 0 (.int .i64 0) (aH (M u)) Tryz.underlying326 Tryz.underlying3 rfl rfl rfl rfl (by kernel_rfl) (hM.at u) rfl ?_
    repeat' (first|(apply aZ;refine aY ?_)|fail)
    refine ee 0 (mS mm (.int .i64 u) (aH (M u - 1))) Tryz.underlying326 Tryz.underlying3 rfl rfl rfl rfl rfl gy (fun q h=>fK q h) ?_
    repeat' (first|refine go ?_|refine HF a1 F8 ?_)
    refine jm 0 (.int .i64 0) (aH (M u - 1)) Tryz.underlying326 Tryz.underlying3 rfl rfl rfl rfl (by kernel_rfl) (fun σ v h=>?_) rfl ?_
    ·have:=(hM.put u (M u - 1)).at u σ v h
     simpa using this
    repeat' (first|refine go ?_|refine HF a1 F8 ?_)
    refine ay rfl (fun h=>?_) (fun h=>?_)
    ·have h1:=Hy h
     rw [if_pos h1] at hK'
     repeat' (first|refine go ?_|fail)
     refine mT (by kernel_rfl) rfl rfl ?_
     repeat' (first|refine HF a1 F8 ?_)
     refine mT (by kernel_rfl) rfl rfl ?_
     repeat' (first|fail)
     refine bb (hst p kh R) _ (Ay p kh R u hR (by omega)) rfl rfl nZ rfl fun c L1 ⟨b2,cs2,R2,hL,hR2,hpm⟩=>?_
     subst hL
     refine aV (aJ nZ.symm) ?_
     repeat' (first|refine go ?_|refine HF a1 F8 ?_|(apply aZ;refine aY ?_)|fail)
     exact aF (j+1,⟨T++[z],R2,_,_,some (b2,cs2),kt'⟩) rfl ⟨by rw [Hv];rfl,trivial⟩ ⟨rfl,rfl,by dsimp only;omega,hK'.perm hpm,hM.put u (M u - 1),hR2⟩ (by dsimp only;omega) (fun _ _ h=>h)
    ·have h1:=Hx h
     rw [if_neg h1] at hK'
     repeat' (first|refine go ?_|refine HF a1 F8 ?_|(apply aZ;refine aY ?_)|fail)
     exact aF (j+1,⟨T++[z],R,_,_,kh,kt'⟩) rfl ⟨by rw [Hv];rfl,trivial⟩ ⟨rfl,rfl,by dsimp only;omega,hK',hM.put u (M u - 1),hR⟩ (by dsimp only;omega) (fun _ _ h=>h)
   ·have hjl:j=(cw (prt f) (cH g) z).length:=by have:=Hx h;rw [hUi] at this;omega
    subst hjl
    rw [List.take_length] at hK
    repeat' (first|refine go ?_|fail)
    exact aF ⟨T++[z],R,M,mm,kh,kt'⟩ rfl ⟨rfl,trivial⟩ ⟨hK.done hall hTz,hM,hR⟩ (by dsimp only;simp at hTl ⊢;omega) (fun _ _ h=>h)
  ·have hR0:R=[]:=List.eq_nil_of_length_eq_zero (by have:=Hx h;omega)
   subst hR0
   repeat' (first|refine go ?_|refine HF a1 F8 ?_)
   refine bk (cA (t:=4) (c':= .imm 1 (aS T)) rfl fun σ v h=>VR.im h) ?_
   refine eY (L':=u3 dbs) (((((List.sublist_append_right _ _).trans (List.sublist_append_right _ _)).trans (List.sublist_append_right _ _)).cons _).cons _) ?_
   exact fG (cs:=[.imm 1 (aS T)]) dbs [] rfl (Ho _) ⟨rfl,trivial⟩ ⟨T,rfl,hK.fin⟩
end Go.Proofs.YtpbinloeemebkaaGreat
