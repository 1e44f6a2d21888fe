/-
  The program: what the first look tells that finds something wrong, of looks whose number is not told.
-/
import Derived.Test.YtpmdfoaadejmkaaGreatDoorM34
namespace Go.Proofs.YtpmdfoaadejmkaaGreatDoor
open Go.RowKit
section
attribute [local irreducible] AT bP AX AO Av Kt bb dh DA cG
structure vI where
 f:FuncId
 caps:List AV
 L:AL
 e:Int
 N:Int→Prop
def vI.ok (x:vI):Prop:=bS Tryz.prog x.f∧AC Tryz.prog x.f x.caps x.L fun c _=>∃n,x.N n∧c=co (x.e,n)
def wO:List vI→Int
 | []=>0
 | x::r=>if x.e=0 then wO r else x.e
def HV:List vI→Int→Prop
 | []=>fun n=>n=0
 | x::r=>if x.e=0 then HV r else x.N
def Kx (l:List vI):AL:=(l.map vI.L).flatten
def wP:List vI→Prop
 | []=>True
 | x::r=>x.ok∧(x.e=0→wP r)
def Mj (x:vI):List AV:=[.fn x.f x.caps]
theorem HW {l:List vI} {i:Nat} {x:vI} (h:l[i]?=some x):(wO (l.drop i)=if x.e=0 then wO (l.drop (i+1)) else x.e)∧(HV (l.drop i)=if x.e=0 then HV (l.drop (i+1)) else x.N)∧(wP (l.drop i)→x.ok∧(x.e=0→wP (l.drop (i+1))))∧Kx (l.drop i)=x.L++Kx (l.drop (i+1)):=by
 obtain ⟨hi,hx⟩:=Np h
 rw [List.drop_eq_getElem_cons hi,hx]
 exact ⟨rfl,rfl,id,rfl⟩
theorem AE:∀{l:List vI},wO l=0→HV l=fun n=>n=0
 | [],_=>rfl
 | x::r,h=>by
  unfold wO at h
  unfold HV
  split
  ·rename_i h0
   rw [if_pos h0] at h
   exact AE h
  ·rename_i h0
   rw [if_neg h0] at h
   exact absurd h h0
theorem yl {σ0:cF} {l:Nat} (ls:List vI) (hok:wP ls) (E:AL) (E':Int→Int→AL) (hy:∀e n,e≠0→AY Tryz.prog σ0 l [aK e,aK n] E fun c L=>c=dy false∧L=E' e n):
  GJ Tryz.prog σ0 197 [.sc (.func (.yield l) #[] #[]),.iptr [.imm 1 (ls.map Mj)]] (Kx ls++E) fun _ L=>if wO ls=0 then L=E else ∃n,HV ls n∧L=E' (wO ls) n:=by
 refine ux Tryz.func197 rfl Tryz.ntmps197 rfl fun B hB=>?_
 refine W03 ?_
 refine cR 7 rfl rfl fun hlen=>?_
 rw [Nu] at hlen
 refine aM [0,7,8] (α:=Nat) (fun i=>[(9,aK i)]) (fun i=>i≤ls.length∧wO ls=wO (ls.drop i)∧HV ls=HV (ls.drop i)∧wP (ls.drop i)) (fun i=>Kx (ls.drop i)++E) (fun i=>ls.length - i) 0 rfl ⟨rfl,trivial⟩ ⟨Nat.zero_le _,rfl,rfl,hok⟩ (fun _ _ h=>h) fun i ⟨hi,he,hN,hok⟩=>?_
 try dsimp only [Ns,Nr,Nq,Nk]
 refine W01 ?_
 refine aj rfl (fun h=>?_) (fun h=>?_)
 ·have hil:i < ls.length:=by have:=Ny h;simp at this;omega
  obtain ⟨x,hx⟩:∃z,ls[i]?=some z:=⟨_,Nz hil⟩
  have hzg:=bG (c:=Mj) hx
  obtain ⟨h1,h2,h3,h4⟩:=HW hx
  obtain ⟨⟨hcf,hac⟩,hok⟩:=h3 hok
  rw [h1] at he
  rw [h2] at hN
  rw [h4]
  clear h1 h2 h3 h4
  refine W0a ?_
  have hac2:AC Tryz.prog x.f ([]++x.caps) x.L (fun c _=>∃n,x.N n∧c=co (x.e,n)):=hac
  refine dE (cs:=[]) x.L (Kx (ls.drop (i+1))++E) hac2 rfl rfl rfl (by rw [List.append_assoc]) rfl rfl fun c L1 ⟨n,hn,hc⟩=>?_
  subst hc
  refine aL (bF (List.sublist_append_right ..)) ?_
  unfold co
  refine W01 ?_
  by_cases h0:x.e=0
  ·rw [if_pos h0] at he hN
   rw [h0]
   refine W1h ?_
   exact aC (i+1) rfl ⟨by rw [Nv];rfl,trivial⟩ ⟨by omega,he,hN,hok h0⟩ (by omega) (fun _ _ h=>h)
  ·rw [if_neg h0] at he hN
   rw [show decide (x.e≠0)=true from decide_eq_true h0]
   refine W0J ?_
   refine aL (bF (List.sublist_append_right ..)) ?_
   refine re E [] hB (hy x.e n h0) rfl rfl rfl (cy rfl) rfl rfl fun c L1 ⟨hc,hL⟩=>?_
   subst hc;subst hL
   rw [List.append_nil]
   refine W1M ?_
   refine o8 rfl ?_
   rw [he,hN,if_neg h0]
   exact ⟨n,hn,rfl⟩
 ·have hil:i=ls.length:=by have:=Nx h;simp at this;omega
  subst hil
  rw [List.drop_length] at he ⊢
  repeat' (first|refine Ng ?_|fail)
  refine cD rfl ?_
  rw [he,show wO []=0 from rfl,if_pos rfl]
  rfl
set_option maxHeartbeats 1000000 in
theorem C8 (ls:List vI) (hok:wP ls):AC Tryz.prog 47 [.imm 1 (ls.map Mj)] (Kx ls) fun c _=>∃n,HV ls n∧c=co (wO ls,n):=by
 refine uv Tryz.func47 rfl Tryz.ntmps47 rfl fun B=>?_
 refine W1A ?_
 intros
 rename_i b2 b3
 refine lQ (ps:=[8,9]) rfl fun σ0 l db rec hrec=>?_
 have hy:∀e n:Int,e≠0→AY Tryz.prog σ0 l [aK e,aK n] ([(b3,.box [aK 0] 3),(b2,.box [aK 0] 35),(db,lZ)]++[(l,kf rec)]) fun c L=>c=dy false∧L=[(b3,.box [aK n] 3),(b2,.box [aK e] 35),(db,lZ)]++[(l,kf { ({ rec with state:= .busy }:Loop) with state:= .done,pending:=some .ret })]:=by
  intro e n he
  refine w9 hrec rfl rfl fun B1 hB1=>?_
  refine W01 ?_
  refine lT hrec.state ?_
  refine W1c ?_
  refine rx (L:=[(b3,.box [aK n] 3),(b2,.box [aK e] 35),(db,lZ)]) ?_
  exact ⟨rfl,rfl⟩
 refine ⟨_,(yl ls hok _ _ hy).perm ?_,fun c L' hL'=>?_⟩
 ·simp only [List.append_assoc,Ns,Nr]
  exact x8
 ·by_cases h0:wO ls=0
  ·rw [if_pos h0] at hL'
   subst hL'
   refine ⟨rec,_,Nn _,(by rw [hrec.state];intro h;cases h),?_⟩
   rw [hrec.pending]
   show AX _ _ _ _ _ _ _ _
   refine W0O ?_
   refine kU (cs:=[aK 0,aK 0]) [db] [(b3,.box [aK 0] 3),(b2,.box [aK 0] 35)] rfl (Nn _) ?_ ?_
   ·exact ⟨⟨b2,1,_,_,rfl,rfl,.inl ⟨cZ a5 rfl,rfl⟩⟩,⟨b3,0,_,_,rfl,rfl,.inl ⟨cZ a5 rfl,rfl⟩⟩,trivial⟩
   ·rw [h0,AE h0]
    exact ⟨0,rfl,rfl⟩
  ·rw [if_neg h0] at hL'
   obtain ⟨n,hn,hL'⟩:=hL'
   subst hL'
   refine ⟨_,_,Nn _,(by intro h;cases h),?_⟩
   show AX _ _ _ _ _ _ _ _
   repeat' (first|refine Ng ?_|fail)
   refine kU (cs:=[aK (wO ls),aK n]) [db] [(b3,.box [aK n] 3),(b2,.box [aK (wO ls)] 35)] rfl (Nn _) ?_ ⟨n,hn,rfl⟩
   exact ⟨⟨b2,1,_,_,rfl,rfl,.inl ⟨cZ a5 rfl,rfl⟩⟩,⟨b3,0,_,_,rfl,rfl,.inl ⟨cZ a5 rfl,rfl⟩⟩,trivial⟩
def nT (l:List Int):Int:=l.foldl (·+ ·) 0
theorem Dk (l:List Int) (z:Int):nT (l++[z])=nT l+z:=by unfold nT;rw [List.foldl_append];rfl
theorem Ba {b:Int} (hb:0≤b) (l:List Int) (h:∀z∈l,0≤z∧z≤b):0≤nT l∧nT l≤b * l.length:=by
  have key:∀(l:List Int) (a:Int),(∀z∈l,0≤z∧z≤b)→a≤l.foldl (·+ ·) a∧l.foldl (·+ ·) a≤a+b * l.length:=by
    intro l
    induction l with
    | nil=>intro a _;simp
    | cons x l ih=>
      intro a h
      have h1:=h x (List.mem_cons_self ..)
      have h2:=ih (a+x) fun z hz=>h z (Nt _ hz)
      rw [List.foldl_cons,List.length_cons,Nv,Int.mul_add]
      have:b * ((1:Nat):Int)=b:=by simp
      omega
  have:=key l 0 h
  unfold nT
  omega
def f4 (f:aT):Nat→Int→Int
 | 0,_=>0
 | k+1,z=>match f.Glyphs[z.toNat]? with | some gl=>gl.Points.length+nT (gl.Parts.map fun p:cA=>f4 f k p.Glyph) | none=>0
def rm (f:aT):Nat→Int→Prop
 | 0,_=>False
 | k+1,z=>(0≤z∧z < f.Glyphs.length)∧∀gl,f.Glyphs[z.toNat]?=some gl→∀p∈gl.Parts,rm f k p.Glyph
def qW (f:aT):Prop:=∀gl∈f.Glyphs,gl.Points.length≤200∧gl.Parts.length≤8
theorem nE {f:aT} {k:Nat} {z:Int} {gl:bj} (h:f.Glyphs[z.toNat]?=some gl):f4 f (k+1) z=(gl.Points.length:Int)+nT (gl.Parts.map fun p:cA=>f4 f k p.Glyph):=by
 rw [f4,h]
theorem yt {f:aT} {k:Nat} {z:Int} (h:f.Glyphs[z.toNat]?=none):f4 f (k+1) z=0:=by
 rw [f4,h]
theorem I5 (k:Nat) (h:k≤10):(9:Int) ^ k≤3486784401:=by
 have:∀j,j < 11→(9:Int) ^ j≤3486784401:=by decide
 exact this k (by omega)
theorem rS {f:aT} (hf:qW f):∀(k:Nat) (z:Int),0≤f4 f k z∧f4 f k z≤200 * 9 ^ k
 | 0,_=>by unfold f4;omega
 | k+1,z=>by
  have hp:(1:Int)≤9 ^ k:=by
   have:0 < (9:Int) ^ k:=Int.pow_pos (by omega)
   omega
  have h9:(9:Int) ^ (k+1)=9 ^ k * 9:=Int.pow_succ ..
  cases hg:f.Glyphs[z.toNat]? with
  | some gl=>
   rw [nE hg]
   have h1:=hf gl (Nw hg)
   have h2:=Ba (b:=200 * 9 ^ k) (by omega) (gl.Parts.map fun p:cA=>f4 f k p.Glyph) fun y hy=>by
    obtain ⟨p,_,rfl⟩:=List.mem_map.1 hy
    exact rS hf k p.Glyph
   rw [Nu] at h2
   have h3:(200 * 9 ^ k) * (gl.Parts.length:Int)≤(200 * 9 ^ k) * 8:=Int.mul_le_mul_of_nonneg_left (by omega) (by omega)
   omega
  | none=>
   rw [yt hg]
   omega
set_option maxHeartbeats 8000000 in
theorem wy (f:aT) (hf:qW f):∀(k:Nat),k≤10→∀(z:Int),rm f k z→bV Tryz.prog 159 [ca f,aK z] (aK (f4 f k z))
 | 0,_,_,h=>by cases h
 | k+1,hk,z,h=>by
  obtain ⟨⟨h0,h1⟩,hd⟩:=h
  obtain ⟨gl,hg⟩:∃g,f.Glyphs[z.toNat]?=some g:=⟨_,Nz (by omega)⟩
  have hgg:=bG (c:=bD) hg
  have hfew:=hf gl (Nw hg)
  have hd:=hd gl hg
  have hb:∀p:cA,0≤f4 f k p.Glyph∧f4 f k p.Glyph≤697356880200:=fun p=>by
   have h1:=rS hf k p.Glyph
   have h2:=I5 k (by omega)
   omega
  have hv:=nE (k:=k) hg
  have hpl:(gl.Points.map dl).length=gl.Points.length:=Nu ..
  have hql:(gl.Parts.map dJ).length=gl.Parts.length:=Nu ..
  have ih:=fun p hp=>wy f hf k (by omega) (cA.Glyph p) (hd p hp)
  clear hd
  refine aV Tryz.func159 rfl Tryz.ntmps159 rfl fun B=>?_
  rw [hv]
  repeat' (first|refine Ng ?_|refine ak ?_|refine NG a5 IG ?_|(apply aO;first|refine aN a5 ?_|refine aF a5 ?_)|refine bq ?_|fail)
  refine aM [1,2] (α:=Nat) (fun i=>[(6,aK i),(5,aK (gl.Points.length+nT ((gl.Parts.take i).map fun p:cA=>f4 f k p.Glyph)))]) (fun i=>i≤gl.Parts.length) (fun _=>[]) (fun i=>gl.Parts.length - i) 0 rfl ⟨rfl,by rw [hpl,List.take_zero,Nk,show nT []=0 from rfl,Int.add_zero];rfl,trivial⟩ (Nat.zero_le _) (fun _ _ h=>h) ?_
  intro i hi
  have hsb:=Ba (b:=697356880200) (by omega) ((gl.Parts.take i).map fun p:cA=>f4 f k p.Glyph) fun y hy=>by
   obtain ⟨p,_,rfl⟩:=List.mem_map.1 hy
   exact hb p
  rw [Nu,List.length_take] at hsb
  have hst:∀x,gl.Parts[i]?=some x→nT ((gl.Parts.take (i+1)).map fun p:cA=>f4 f k p.Glyph)=nT ((gl.Parts.take i).map fun p:cA=>f4 f k p.Glyph)+f4 f k x.Glyph:=fun x hx=>by
   rw [List.take_add_one,hx,Option.toList_some,List.map_append,Nq,Nk,Dk]
  generalize hgen:nT ((gl.Parts.take i).map fun p:cA=>f4 f k p.Glyph)=S at hsb hst ⊢
  have hS:0≤S∧S≤5578855041600:=by omega
  clear hsb
  try dsimp only [Ns,Nr,Nq,Nk]
  refine W0i ?_
  refine aj rfl (fun h=>?_) (fun h=>?_)
  ·have hil:i < gl.Parts.length:=by have:=Ny h;omega
   obtain ⟨x,hx⟩:∃z,gl.Parts[i]?=some z:=⟨_,Nz hil⟩
   have hxg:=bG (c:=dJ) hx
   have hst:=hst x hx
   have hxb:=hb x
   haveI a1:AD Tryz.prog 159 [ca f,aK x.Glyph] (aK (f4 f k x.Glyph)):=⟨ih x (Nw hx)⟩
   refine W0n ?_
   refine bv 14 [(0,.v),(1,.v),(2,.v),(3,.v),(4,.v),(5,.v),(6,.v),(7,.v),(8,.v),(9,.v),(10,.v),(11,.v),(12,.v),(13,.v)] none ?_ trivial rfl (by kernel_rfl) (by kernel_rfl) (by kernel_rfl) bQ (by kernel_rfl) rfl
   refine W1a ?_
   refine NP [1,2,6,39] IG ?_
   repeat' (first|refine Ng ?_|refine a7 ?_|refine NG a5 IG ?_|(apply aS;refine aR ?_)|fail)
   exact aC (i+1) rfl ⟨by rw [Nv];rfl,by rw [hst,←Int.add_assoc];rfl,trivial⟩ (by omega) (by omega) (fun _ _ h=>h)
  have hil:i=gl.Parts.length:=by have:=Nx h;omega
  subst hil
  rw [List.take_length] at hgen
  rw [hgen]
  refine W01 ?_
  exact NQ NA
theorem Ev {D:Int→Int} (ps:List cA):0≤dF D ps:=by
 have:∀(ps:List cA) (a:Int),0≤a→0≤ps.foldl (fun a p=>max a (D p.Glyph+1)) a:=by
  intro ps
  induction ps with
  | nil=>intro a h;exact h
  | cons p ps ih=>intro a h;exact ih (max a (D p.Glyph+1)) (by omega)
 exact this ps 0 (Int.le_refl _)
theorem tq {D:Int→Int} {m:Int}:∀{ps:List cA},dF D ps≤m↔0≤m∧∀p∈ps,D p.Glyph+1≤m:=by
 have:∀(ps:List cA) (a:Int),ps.foldl (fun a p=>max a (D p.Glyph+1)) a≤m↔a≤m∧∀p∈ps,D p.Glyph+1≤m:=by
  intro ps
  induction ps with
  | nil=>intro a;simp
  | cons p ps ih=>
   intro a
   rw [List.foldl_cons,ih]
   constructor
   ·rintro ⟨h,k⟩
    refine ⟨by omega,fun q hq=>?_⟩
    rcases List.mem_cons.1 hq with rfl | hq
    ·omega
    ·exact k q hq
   ·rintro ⟨h,k⟩
    have:=k p (List.mem_cons_self ..)
    exact ⟨by omega,fun q hq=>k q (Nt _ hq)⟩
 intro ps
 exact this ps 0
theorem qn {f:aT} {D P:Int→Int} (h:gh f D P):iW f.Glyphs.length (prt f):=by
 refine ⟨fun z=>(D z).toNat,fun g h0 h1 p hp=>?_⟩
 obtain ⟨gl,hg⟩:∃x,f.Glyphs[g.toNat]?=some x:=⟨_,Nz (by omega)⟩
 have hd:=(h g h0 h1 gl hg).1
 have hpr:=pO hp
 obtain ⟨gp,hgp⟩:∃x,f.Glyphs[p.toNat]?=some x:=⟨_,Nz (by omega)⟩
 have hdp:=(h p hpr.1 hpr.2 gp hgp).1
 have hnn:=Ev (D:=D) gp.Parts
 unfold prt at hp
 rw [hg] at hp
 obtain ⟨q,hq,rfl⟩:=List.mem_map.1 (List.mem_filter.1 hp).1
 have:=(tq.1 (Int.le_of_eq hd.symm)).2 q hq
 dsimp only
 omega
theorem rH {f:aT} (h:¬iW f.Glyphs.length (prt f)):j8 f=(33,0):=by
 unfold j8
 rw [dif_neg fun ⟨_,hq⟩=>h (qn hq)]
inductive zU (pr:Int→List Int):Int→Int→Prop where
 | one {a b:Int} (h:b∈pr a):zU pr a b
 | step {a b c:Int} (h:b∈pr a) (k:zU pr b c):zU pr a c
theorem zU.rank {pr:Int→List Int} {n:Nat} (hin:∀g,∀p∈pr g,0≤p∧p < n) {r:Int→Nat} (hr:∀g:Int,0≤g→g < n→∀p∈pr g,r p < r g) {a b:Int} (h:zU pr a b):0≤a→a < n→r b < r a:=by
 induction h with
 | one h=>intro h0 h1;exact hr _ h0 h1 _ h
 | step h k ih=>
  intro h0 h1
  have h2:=hin _ _ h
  have:=hr _ h0 h1 _ h
  have:=ih h2.1 h2.2
  omega
theorem iW.noRing {n:Nat} {pr:Int→List Int} (hin:∀g,∀p∈pr g,0≤p∧p < n) (h:iW n pr) {g:Int} (h0:0≤g) (h1:g < n):¬zU pr g g:=fun k=>by
 obtain ⟨r,hr⟩:=h
 have:=k.rank hin hr h0 h1
 omega
theorem C6 {l:List Int} (hn:l.Nodup) {p q:Int→Bool} (h:∀z∈l,p z=true→q z=true) {x:Int} (hx:x∈l) (hp:p x=false) (hq:q x=true):(l.filter p).length < (l.filter q).length:=by
 have h1:=lh (x::l.filter p) (l.filter q) (List.nodup_cons.2 ⟨fun hm=>(by rw [List.mem_filter,hp] at hm;cases hm.2),hn.filter _⟩) fun z hz=>by
  rcases List.mem_cons.1 hz with rfl | hz
  ·exact List.mem_filter.2 ⟨hx,hq⟩
  ·rw [List.mem_filter] at hz ⊢
   exact ⟨hz.1,h z hz.1 hz.2⟩
 rwa [List.length_cons] at h1
open Classical in
theorem mw {n:Nat} {pr:Int→List Int} (hin:∀g,∀p∈pr g,0≤p∧p < n) (h:∀g:Int,0≤g→g < n→¬zU pr g g):∃r:Int→Nat,(∀g:Int,0≤g→g < n→∀p∈pr g,r p < r g)∧∀g,r g≤n:=by
 refine ⟨fun g=>((cj n).filter fun z=>decide (zU pr g z)).length,fun g h0 h1 p hp=>?_,fun g=>?_⟩
 ·have hpr:=hin g p hp
  refine C6 (iD n) (x:=p) (fun z hz hh=>?_) (eB.2 hpr) ?_ ?_
  ·exact decide_eq_true (.step hp (Ny hh))
  ·exact decide_eq_false (h p hpr.1 hpr.2)
  ·exact decide_eq_true (.one hp)
 ·have:=List.length_filter_le (fun z=>decide (zU pr g z)) (cj n)
  rw [dR] at this
  exact this
theorem vQ {n:Nat} {pr:Int→List Int} (hin:∀g,∀p∈pr g,0≤p∧p < n):iW n pr↔∀g:Int,0≤g→g < n→¬zU pr g g:=
 ⟨fun h _ h0 h1=>h.noRing hin h0 h1,fun h=>by obtain ⟨r,hr,_⟩:=mw hin h;exact ⟨r,hr⟩⟩
def dN (f:aT):Nat→Int→Int
 | 0,_=>0
 | k+1,z=>match f.Glyphs[z.toNat]? with | some gl=>dF (dN f k) gl.Parts | none=>0
def pN (f:aT):Nat→Int→Int
 | 0,_=>0
 | k+1,z=>match f.Glyphs[z.toNat]? with | some gl=>pF (pN f k) gl.Parts gl.Points.length | none=>0
theorem ol {f:aT} {k:Nat} {z:Int} {gl:bj} (h:f.Glyphs[z.toNat]?=some gl):dN f (k+1) z=dF (dN f k) gl.Parts:=by rw [dN,h]
theorem vh {f:aT} {k:Nat} {z:Int} {gl:bj} (h:f.Glyphs[z.toNat]?=some gl):pN f (k+1) z=pF (pN f k) gl.Parts gl.Points.length:=by rw [pN,h]
theorem mV {f:aT} (hf:kP f) {z:Int} {gl:bj} (hg:f.Glyphs[z.toNat]?=some gl) {p:cA} (hp:p∈gl.Parts):p.Glyph∈prt f z∧0≤p.Glyph∧p.Glyph < f.Glyphs.length:=
 ⟨by rw [oN hf hg];exact List.mem_map_of_mem hp,ld.1 (hf.there gl (Nw hg) p hp)⟩
theorem Ew {f:aT} (hf:kP f) {r:Int→Nat} (hr:∀g:Int,0≤g→g < f.Glyphs.length→∀p∈prt f g,r p < r g):∀(k:Nat) (z:Int),0≤z→z < f.Glyphs.length→r z≤k→dN f (k+1) z=dN f (k+2) z∧pN f (k+1) z=pN f (k+2) z
 | k,z,h0,h1,hk=>by
  obtain ⟨gl,hg⟩:∃g,f.Glyphs[z.toNat]?=some g:=⟨_,Nz (by omega)⟩
  have key:∀p∈gl.Parts,dN f k p.Glyph=dN f (k+1) p.Glyph∧pN f k p.Glyph=pN f (k+1) p.Glyph:=fun p hp=>by
   obtain ⟨h2,h3,h4⟩:=mV hf hg hp
   have h5:=hr z h0 h1 _ h2
   cases k with
   | zero=>omega
   | succ j=>exact Ew hf hr j p.Glyph h3 h4 (by omega)
  rw [ol hg,ol hg,vh hg,vh hg]
  exact ⟨rK fun p hp=>(key p hp).1,sr fun p hp=>(key p hp).2⟩
theorem IU {f:aT} (hf:kP f) {r:Int→Nat} (hr:∀g:Int,0≤g→g < f.Glyphs.length→∀p∈prt f g,r p < r g):∀(k:Nat) (z:Int),0≤z→z < f.Glyphs.length→dN f k z≤r z
 | 0,z,_,_=>by unfold dN;omega
 | k+1,z,h0,h1=>by
  obtain ⟨gl,hg⟩:∃g,f.Glyphs[z.toNat]?=some g:=⟨_,Nz (by omega)⟩
  rw [ol hg,tq]
  refine ⟨by omega,fun p hp=>?_⟩
  obtain ⟨h2,h3,h4⟩:=mV hf hg hp
  have h5:=hr z h0 h1 _ h2
  have:=IU hf hr k p.Glyph h3 h4
  omega
theorem Hj {f:aT} (hf:kP f) (ha:iW f.Glyphs.length (prt f)):∃D P,gh f D P∧∀z:Int,0≤z→z < f.Glyphs.length→0≤D z∧D z≤f.Glyphs.length:=by
 obtain ⟨r,hr,hrn⟩:=mw (fun g p hp=>pO (g:=g) hp) ((vQ fun g p hp=>pO (g:=g) hp).1 ha)
 refine ⟨dN f (f.Glyphs.length+1),pN f (f.Glyphs.length+1),fun z h0 h1 gl hg=>?_,fun z h0 h1=>?_⟩
 ·obtain ⟨h2,h3⟩:=Ew hf hr f.Glyphs.length z h0 h1 (hrn z)
  rw [h2,h3,ol hg,vh hg]
  exact ⟨rfl,rfl⟩
 ·have h2:=IU hf hr (f.Glyphs.length+1) z h0 h1
  have h3:=hrn z
  obtain ⟨gl,hg⟩:∃g,f.Glyphs[z.toNat]?=some g:=⟨_,Nz (by omega)⟩
  rw [ol hg] at h2 ⊢
  have:=Ev (D:=dN f f.Glyphs.length) gl.Parts
  omega
theorem tw {f:aT} (hf:kP f) {D P:Int→Int} (h:gh f D P):∀(k:Nat) (z:Int),0≤z→z < f.Glyphs.length→D z < k→rm f k z
 | 0,z,h0,h1,hk=>by
  obtain ⟨gl,hg⟩:∃g,f.Glyphs[z.toNat]?=some g:=⟨_,Nz (by omega)⟩
  have:=(h z h0 h1 gl hg).1
  have:=Ev (D:=D) gl.Parts
  omega
 | k+1,z,h0,h1,hk=>by
  refine ⟨⟨h0,h1⟩,fun gl hg p hp=>?_⟩
  obtain ⟨h2,h3,h4⟩:=mV hf hg hp
  have h5:=(h z h0 h1 gl hg).1
  have h6:=(tq.1 (Int.le_of_eq h5.symm)).2 p hp
  exact tw hf h k p.Glyph h3 h4 (by omega)
theorem Aa {F P:cA→Int}:∀(ps:List cA) (a b:Int),0≤a→0≤b→min a 1001=min b 1001→(∀p∈ps,0≤P p∧0≤F p∧min (P p) 1001=min (F p) 1001)→min (ps.foldl (fun a p=>min (a+P p) 1001) a) 1001=min ((ps.map F).foldl (·+ ·) b) 1001
  | [],a,b,_,_,h,_=>h
  | p::ps,a,b,ha,hb,h,hp=>by
    have h1:=hp p (List.mem_cons_self ..)
    rw [List.foldl_cons,Nq,List.foldl_cons]
    exact Aa ps _ _ (by omega) (by omega) (by omega) fun q hq=>hp q (Nt _ hq)
theorem wx {f:aT} (hf:kP f) (hw:qW f) {D P:Int→Int} (h:gh f D P):∀(k:Nat) (z:Int),rm f k z→0≤P z∧min (P z) 1001=min (f4 f k z) 1001
  | 0,_,hd=>by cases hd
  | k+1,z,hd=>by
    obtain ⟨⟨h0,h1⟩,hd⟩:=hd
    obtain ⟨gl,hg⟩:∃g,f.Glyphs[z.toNat]?=some g:=⟨_,Nz (by omega)⟩
    have hd:=hd gl hg
    have hP:=(h z h0 h1 gl hg).2
    have ih:=fun p hp=>wx hf hw h k (cA.Glyph p) (hd p hp)
    have hnn:∀(ps:List cA) (a:Int),0≤a→(∀p∈ps,0≤P p.Glyph)→0≤pF P ps a:=by
      intro ps
      induction ps with
      | nil=>intro a h _;exact h
      | cons p ps ih2=>
        intro a h hh
        have:=hh p (List.mem_cons_self ..)
        exact ih2 (min (a+P p.Glyph) 1001) (by omega) fun q hq=>hh q (Nt _ hq)
    rw [hP,nE hg]
    refine ⟨hnn _ _ (by omega) fun p hp=>(ih p hp).1,?_⟩
    have hc:=Aa (F:=fun p=>f4 f k p.Glyph) (P:=fun p=>P p.Glyph) gl.Parts gl.Points.length gl.Points.length (by omega) (by omega) rfl fun p hp=>⟨(ih p hp).1,(rS hw k p.Glyph).1,(ih p hp).2⟩
    have hs:(gl.Parts.map fun p=>f4 f k p.Glyph).foldl (·+ ·) (gl.Points.length:Int)=gl.Points.length+nT (gl.Parts.map fun p=>f4 f k p.Glyph):=by
      unfold nT
      have:∀(l:List Int) (a b:Int),l.foldl (·+ ·) (a+b)=a+l.foldl (·+ ·) b:=by
        intro l
        induction l with
        | nil=>intro a b;rfl
        | cons x l ih3=>intro a b;rw [List.foldl_cons,List.foldl_cons,Int.add_assoc,ih3]
      have h3:=this (gl.Parts.map fun p=>f4 f k p.Glyph) gl.Points.length 0
      rwa [Int.add_zero] at h3
    rw [hs] at hc
    exact hc
structure na (f:aT) (to:Int) (S T:List Int) (done:List Int):Prop where
 nodup:T.Nodup
 dom:∀z∈T,0≤z∧z < f.Glyphs.length
 sub:∀z∈S,z∈T
 done:∀p∈done,p≠to∧p∈T
 new:∀x∈T,x∉S→∀p∈prt f x,p≠to∧p∈T
theorem xc {f:aT} (hf:kP f) {gl:bj} {i:Nat} {p:cA} (hp:gl.Parts[i]?=some p):(gl.Parts.take (i+1)).map cA.Glyph=(gl.Parts.take i).map cA.Glyph++[p.Glyph]:=by
 rw [List.take_add_one,hp,Option.toList_some,List.map_append];rfl
theorem na.more {f:aT} {to:Int} {S T done:List Int} (h:na f to S T done) {p:Int} (h1:p≠to) (h2:p∈T):na f to S T (done++[p]):=
 ⟨h.nodup,h.dom,h.sub,fun q hq=>by
  rcases Nm hq with hq | hq
  ·exact h.done q hq
  ·rw [List.mem_singleton] at hq;subst hq;exact ⟨h1,h2⟩,h.new⟩
theorem na.deep {f:aT} {to:Int} {S T T' done:List Int} {p:Int} (h:na f to S T done) (hp:p≠to) (hT:p∉T) (k:na f to (T++[p]) T' (prt f p)):na f to S T' (done++[p]):=by
 have hsub:∀z∈T,z∈T':=fun z hz=>k.sub z (List.mem_append.2 (.inl hz))
 have hpT:p∈T':=k.sub p (List.mem_append.2 (.inr (List.mem_singleton.2 rfl)))
 refine ⟨k.nodup,k.dom,fun z hz=>hsub z (h.sub z hz),fun q hq=>?_,fun x hx hS q hq=>?_⟩
 ·rcases Nm hq with hq | hq
  ·exact ⟨(h.done q hq).1,hsub q (h.done q hq).2⟩
  ·rw [List.mem_singleton] at hq;subst hq;exact ⟨hp,hpT⟩
 ·by_cases hxT:x∈T
  ·have:=h.new x hxT hS q hq
   exact ⟨this.1,hsub q this.2⟩
  ·by_cases e:x=p
   ·subst e;exact k.done q hq
   ·exact k.new x hx (fun hm=>by
     rcases Nm hm with hm | hm
     ·exact hxT hm
     ·exact e (Nl hm)) q hq
set_option maxHeartbeats 4000000 in
theorem sB (f:aT) (hf:kP f) (to:Int) (b:Nat):∀(k:Nat) (S:List Int) (g:Int),S.Nodup→(∀z∈S,0≤z∧z < f.Glyphs.length)→f.Glyphs.length < S.length+k→0≤g∧g < f.Glyphs.length→AC Tryz.prog 157 [ca f,aK g,aK to,.sc (.slice (some ⟨b,0,none⟩) f.Glyphs.length f.Glyphs.length)] [(b,.box (jA S f.Glyphs.length) 4)] fun c L=>∃(r:Bool) (T:List Int),c=dy r∧L=[(b,.box (jA T f.Glyphs.length) 4)]∧(r=true→zU (prt f) g to)∧(r=false→na f to S T (prt f g))
 | 0,S,g,hS,hSd,hk,_=>by
  have:=eW hS hSd
  omega
 | k+1,S,g,hS,hSd,hk,hg=>by
  obtain ⟨hg0,hg1⟩:=hg
  obtain ⟨gl,hgl⟩:∃x,f.Glyphs[g.toNat]?=some x:=⟨_,Nz (by omega)⟩
  have hgg:=bG (c:=bD) hgl
  have hgm:=Nw hgl
  have hn:=hf.n
  have hpl:(gl.Parts.map dJ).length=gl.Parts.length:=Nu ..
  have hpc:=hf.parts gl hgm
  have hall:=oN hf hgl
  have ih:=sB f hf to b k
  refine aV Tryz.func157 rfl Tryz.ntmps157 rfl fun B=>?_
  refine W0y ?_
  refine aM [1,2,3,4] (α:=Nat×List Int) (fun x=>[(9,aK x.1)]) (fun x=>x.1≤gl.Parts.length∧S.length≤x.2.length∧na f to S x.2 ((gl.Parts.take x.1).map cA.Glyph)) (fun x=>[(b,.box (jA x.2 f.Glyphs.length) 4)]) (fun x=>gl.Parts.length - x.1) (0,S) rfl ⟨rfl,trivial⟩ ⟨Nat.zero_le _,Nat.le_refl _,hS,hSd,fun _ h=>h,fun p hp=>(by cases hp),fun x hx hh=>absurd hx hh⟩ (fun _ _ h=>h) ?_
  rintro ⟨i,T⟩ ⟨hi,hTl,hP⟩
  dsimp only at hi hTl hP ⊢
  try dsimp only [Ns,Nr,Nq,Nk]
  refine W0i ?_
  refine aj rfl (fun h=>?_) (fun h=>?_)
  ·have hil:i < gl.Parts.length:=by have:=Ny h;omega
   obtain ⟨p,hp⟩:∃z,gl.Parts[i]?=some z:=⟨_,Nz hil⟩
   have hpg:=bG (c:=dJ) hp
   obtain ⟨hpp,hp0,hp1⟩:=mV hf hgl (Nw hp)
   clear h
   refine W0a ?_
   refine aj rfl (fun h=>?_) (fun h=>?_)
   ·have h:=Ny h
    refine W01 ?_
    exact NM IG ⟨true,T,rfl,rfl,fun _=>h▸ .one hpp,fun h=>by cases h⟩
   have h:=Nx h
   have hfg:=C9 T f.Glyphs.length hp0 hp1
   refine W0h ?_
   refine aj rfl (fun h2=>?_) (fun h2=>?_)
   ·have hpT:p.Glyph∉T:=fun hm=>by
     have:T.contains p.Glyph=true:=List.contains_iff_mem.2 hm
     rw [this] at h2
     cases h2
    clear h2
    refine W0i ?_
    refine NV a5 0 ND (by rw [Nat.ble_eq,tE];show _+1≤_;omega) ?_
    rw [fT,Cb T f.Glyphs.length hp0 hp1]
    refine W01 ?_
    refine b7 [(b,.box (jA (T++[p.Glyph]) f.Glyphs.length) 4)] [] (ih (T++[p.Glyph]) p.Glyph ?_ ?_ ?_ ⟨hp0,hp1⟩) rfl rfl (Nn _) rfl fun c L1 ⟨r,T',hc,hL,hr,hP'⟩=>?_
    ·exact List.nodup_append.2 ⟨hP.nodup,by simp,fun x hx y hy e=>by rw [List.mem_singleton] at hy;subst hy;subst e;exact hpT hx⟩
    ·intro z hz
     rcases Nm hz with hz | hz
     ·exact hP.dom z hz
     ·rw [List.mem_singleton] at hz;subst hz;exact ⟨hp0,hp1⟩
    ·rw [List.length_append,List.length_singleton];omega
    subst hc;subst hL
    cases r with
    | true=>
     refine W0s ?_
     exact NM IG ⟨true,T',rfl,rfl,fun _=> .step hpp (hr rfl),fun h=>by cases h⟩
    | false=>
     have hP2:=hP.deep h hpT (hP' rfl)
     have hTl2:=FP hP.nodup fun z hz=>(hP' rfl).sub z (List.mem_append.2 (.inl hz))
     refine W15 ?_
     exact aC (i+1,T') rfl ⟨by rw [Nv];rfl,trivial⟩ ⟨by dsimp only;omega,by dsimp only;omega,by dsimp only;rw [xc hf hp];exact hP2⟩ (by dsimp only;omega) (fun _ _ h=>h)
   ·have hpT:p.Glyph∈T:=by
     have h2:T.contains p.Glyph=true:=by simpa using h2
     exact List.contains_iff_mem.1 h2
    refine W02 ?_
    exact aC (i+1,T) rfl ⟨by rw [Nv];rfl,trivial⟩ ⟨by dsimp only;omega,hTl,by dsimp only;rw [xc hf hp];exact hP.more h hpT⟩ (by dsimp only;omega) (fun _ _ h=>h)
  have hil:i=gl.Parts.length:=by have:=Nx h;omega
  subst hil
  rw [List.take_length,←hall] at hP
  refine W01 ?_
  exact NM IG ⟨false,T,rfl,rfl,fun h=>(by cases h),fun _=>hP⟩
theorem Kc {f:aT} {g:Int} {T:List Int} (h:na f g [] T (prt f g)):¬zU (prt f) g g:=by
 have key:∀{a c:Int},zU (prt f) a c→(a=g∨a∈T)→c=g→False:=by
  intro a c hp
  induction hp with
  | @one a c hc=>
   rintro (rfl | ha) rfl
   ·exact (h.done _ hc).1 rfl
   ·exact (h.new _ ha (by simp) _ hc).1 rfl
  | @step a b c hb _ ih=>
   rintro (rfl | ha) hc
   ·exact ih (.inr (h.done _ hb).2) hc
   ·exact ih (.inr (h.new _ ha (by simp) _ hb).2) hc
 exact fun hp=>key hp (.inl rfl) rfl
def xN (f:aT) (d:Int→Int) (k:Int) (i:Nat) (D:Int→Int):Prop:=∀z:Int,0≤z→z < f.Glyphs.length→(0≤D z∧D z≤d z)∧(d z≤k→D z=d z)∧(z < i→d z≤k+1→D z=d z)
def Ku (f:aT) (d:Int→Int) (k:Int) (ps:List cA) (i:Nat) (D:Int→Int):Prop:=xN f d k i D∧∀p∈ps,d p.Glyph≤k→d p.Glyph+1≤D i
theorem xN.next {f:aT} {d D:Int→Int} {k:Int} (h:xN f d k f.Glyphs.length D):xN f d (k+1) 0 D:=fun z h0 h1=>by
 have:=h z h0 h1
 exact ⟨this.1,fun hk=>this.2.2 (by omega) hk,fun h=>by omega⟩
theorem Ku.step {f:aT} (hf:kP f) {d D P:Int→Int} (hd:gh f d P) {k:Int} {i j:Nat} {gl:bj} (hg:f.Glyphs[i]?=some gl) {p:cA} (hp:gl.Parts[j]?=some p) (h:Ku f d k (gl.Parts.take j) i D):Ku f d k (gl.Parts.take (j+1)) i (j6 D i (max (D i) (D p.Glyph+1)))∧(0≤max (D i) (D p.Glyph+1)):=by
 obtain ⟨h1,h2⟩:=h
 have hin:=(Np hg).1
 have hg':f.Glyphs[(i:Int).toNat]?=some gl:=by rw [Int.toNat_natCast];exact hg
 obtain ⟨_,hp0,hp1⟩:=mV hf hg' (Nw hp)
 have hdi:=(hd i (by omega) (by omega) gl hg').1
 have hle:=(tq.1 (Int.le_of_eq hdi.symm)).2 p (Nw hp)
 have hi:=h1 i (by omega) (by omega)
 have hpz:=h1 p.Glyph hp0 hp1
 refine ⟨⟨fun z z0 z1=>?_,fun q hq hk=>?_⟩,by omega⟩
 ·by_cases e:z=i
  ·subst e
   rw [js]
   refine ⟨by omega,fun hk=>by omega,fun hk=>by omega⟩
  ·rw [k5 e]
   exact h1 z z0 z1
 ·rw [js]
  rw [List.take_add_one,hp,Option.toList_some] at hq
  rcases Nm hq with hq | hq
  ·have:=h2 q hq hk
   omega
  ·rw [List.mem_singleton] at hq
   subst hq
   have:=hpz.2.1 hk
   omega
theorem Ku.done {f:aT} {d D P:Int→Int} (hd:gh f d P) {k:Int} {i:Nat} {gl:bj} (hg:f.Glyphs[i]?=some gl) (h:Ku f d k gl.Parts i D):xN f d k (i+1) D:=by
 obtain ⟨h1,h2⟩:=h
 have hin:=(Np hg).1
 have hg':f.Glyphs[(i:Int).toNat]?=some gl:=by rw [Int.toNat_natCast];exact hg
 have hdi:=(hd i (by omega) (by omega) gl hg').1
 intro z h0 hz
 have hz1:=h1 z h0 hz
 refine ⟨hz1.1,hz1.2.1,fun hzi hk=>?_⟩
 by_cases e:z=i
 ·subst e
  have:d (i:Int)≤D i:=by
   rw [hdi,tq]
   refine ⟨hz1.1.1,fun p hp=>h2 p hp ?_⟩
   have:=(tq.1 (Int.le_of_eq hdi.symm)).2 p hp
   omega
  omega
 ·exact hz1.2.2 (by omega) hk
set_option maxHeartbeats 4000000 in
theorem EH (f:aT) (hf:kP f) (d P:Int→Int) (hd:gh f d P) (hb:∀z:Int,0≤z→z < f.Glyphs.length→0≤d z∧d z≤f.Glyphs.length):bV Tryz.prog 158 [ca f] (.imm 1 (aW ((cj f.Glyphs.length).map d))):=by
 refine aV Tryz.func158 rfl Tryz.ntmps158 rfl fun B=>?_
 have hn:=hf.n
 have hml:(f.Glyphs.map bD).length=f.Glyphs.length:=Nu ..
 refine W08 ?_
 rw [hml]
 refine lg a5 f.Glyphs.length rfl rfl rfl rfl rfl rfl rfl (by omega) (by omega) rfl fun b=>?_
 rw [show (List.replicate f.Glyphs.length (List.map AV.sc [Value.int .i64 0])).flatten=dm f.Glyphs.length fun _=>0 from lY _]
 refine W03 ?_
 refine aM [1,3] (α:=Nat×(Int→Int)) (fun x=>[(4,aK x.1)]) (fun x=>x.1≤f.Glyphs.length∧xN f d x.1 0 x.2) (fun x=>[(b,.box (dm f.Glyphs.length x.2) 3)]) (fun x=>f.Glyphs.length - x.1) (0,(fun _=>0)) rfl ⟨rfl,trivial⟩ ⟨Nat.zero_le _,fun z h0 h1=>⟨by have:=hb z h0 h1;dsimp only;omega,fun h=>by have:=hb z h0 h1;dsimp only at h ⊢;omega,fun h=>by omega⟩⟩ (fun _ _ h=>h) ?_
 rintro ⟨r,D⟩ ⟨hr,hM⟩
 dsimp only at hr hM ⊢
 try dsimp only [Ns,Nr,Nq,Nk]
 refine W01 ?_
 refine aj rfl (fun h=>?_) (fun h=>?_)
 ·have hrl:r < f.Glyphs.length:=by have:=Ny h;omega
  clear h
  refine W03 ?_
  refine aM [1,3,4] (α:=Nat×(Int→Int)) (fun x=>[(5,aK x.1)]) (fun x=>x.1≤f.Glyphs.length∧xN f d r x.1 x.2) (fun x=>[(b,.box (dm f.Glyphs.length x.2) 3)]) (fun x=>f.Glyphs.length - x.1) (0,D) rfl ⟨rfl,trivial⟩ ⟨Nat.zero_le _,hM⟩ (fun _ _ h=>h) ?_
  clear hM
  rintro ⟨i,D⟩ ⟨hi,hM⟩
  dsimp only at hi hM ⊢
  try dsimp only [Ns,Nr,Nq,Nk]
  refine W01 ?_
  refine aj rfl (fun h=>?_) (fun h=>?_)
  ·have hil:i < f.Glyphs.length:=by have:=Ny h;omega
   obtain ⟨gl,hgl⟩:∃x,f.Glyphs[i]?=some x:=⟨_,Nz (by omega)⟩
   have hgg:=bG (c:=bD) hgl
   have hpl:(gl.Parts.map dJ).length=gl.Parts.length:=Nu ..
   have hpc:=hf.parts gl (Nw hgl)
   clear h
   refine W03 ?_
   refine aM [1,3,4,5] (α:=Nat×(Int→Int)) (fun x=>[(6,aK x.1)]) (fun x=>x.1≤gl.Parts.length∧Ku f d r (gl.Parts.take x.1) i x.2) (fun x=>[(b,.box (dm f.Glyphs.length x.2) 3)]) (fun x=>gl.Parts.length - x.1) (0,D) rfl ⟨rfl,trivial⟩ ⟨Nat.zero_le _,hM,fun p hp=>(by cases hp)⟩ (fun _ _ h=>h) ?_
   clear hM
   rintro ⟨j,D⟩ ⟨hj,hI⟩
   dsimp only at hj hI ⊢
   try dsimp only [Ns,Nr,Nq,Nk]
   refine W0i ?_
   refine aj rfl (fun h=>?_) (fun h=>?_)
   ·have hjl:j < gl.Parts.length:=by have:=Ny h;omega
    obtain ⟨p,hp⟩:∃z,gl.Parts[j]?=some z:=⟨_,Nz hjl⟩
    have hpg:=bG (c:=dJ) hp
    have hgl':f.Glyphs[(i:Int).toNat]?=some gl:=by rw [Int.toNat_natCast];exact hgl
    obtain ⟨_,hp0,hp1⟩:=mV hf hgl' (Nw hp)
    have hst:=hI.step hf hd hgl hp
    have hDp:=hI.1 p.Glyph hp0 hp1
    have hDb:=hb p.Glyph hp0 hp1
    have hc1:(dm f.Glyphs.length D)[0+(i:Int).toNat * 1]?=some (aK (D i)):=iv (by omega) (by omega)
    have hc2:(dm f.Glyphs.length D)[0+p.Glyph.toNat * 1]?=some (aK (D p.Glyph)):=iv hp0 hp1
    clear h
    refine W0n ?_
    refine bv 21 [(0,.v),(1,.v),(2,.v),(3,.v),(4,.v),(5,.l),(6,.v),(7,.v),(8,.v),(9,.v),(10,.v),(11,.v),(12,.v),(13,.v),(14,.v),(15,.v),(16,.v),(17,.v),(18,.l),(19,.v),(20,.v)] none ?_ trivial rfl (by kernel_rfl) (by kernel_rfl) (by kernel_rfl) bQ (by kernel_rfl) rfl
    refine W09 ?_
    refine du a5 rfl rfl rfl (by omega) trivial ?_
    repeat' (first|refine aD ?_|fail)
    refine ce a5 0 rfl rfl rfl hc1 trivial ?_
    refine W0b ?_
    refine du a5 rfl rfl rfl ⟨hp0,hp1⟩ trivial ?_
    repeat' (first|refine aD ?_|fail)
    refine ce a5 0 rfl rfl rfl hc2 trivial ?_
    refine W0x ?_
    refine NP [1,3,4,5,6,36,37,56] IG ?_
    refine W0F ?_
    refine NV a5 0 ND (by rw [Nat.ble_eq,jw];show _+1≤_;omega) ?_
    rw [fT,kW (by omega) (by omega)]
    refine W02 ?_
    exact aC (j+1,_) rfl ⟨by rw [Nv];rfl,trivial⟩ ⟨by dsimp only;omega,hst.1⟩ (by dsimp only;omega) (fun _ _ h=>h)
   have hjl:j=gl.Parts.length:=by have:=Nx h;omega
   subst hjl
   rw [List.take_length] at hI
   refine W02 ?_
   exact aC (i+1,D) rfl ⟨by rw [Nv];rfl,trivial⟩ ⟨by dsimp only;omega,hI.done hd hgl⟩ (by dsimp only;omega) (fun _ _ h=>h)
  have hil:i=f.Glyphs.length:=by have:=Nx h;omega
  subst hil
  refine W02 ?_
  exact aC (r+1,D) rfl ⟨by rw [Nv];rfl,trivial⟩ ⟨by dsimp only;omega,by dsimp only;rw [Nv];exact hM.next⟩ (by dsimp only;omega) (fun _ _ h=>h)
 have hil:r=f.Glyphs.length:=by have:=Nx h;omega
 subst hil
 have hDd:dm f.Glyphs.length D=dm f.Glyphs.length d:=by
  unfold dm
  refine List.map_congr_left fun z hz=>?_
  obtain ⟨h0,h1⟩:=eB.1 hz
  rw [(hM z h0 h1).2.1 (hb z h0 h1).2]
 rw [hDd]
 have hcd:dm f.Glyphs.length d=(aW ((cj f.Glyphs.length).map d)).flatten:=by rw [pI];unfold dm;rw [List.map_map];rfl
 have hcl:(aW ((cj f.Glyphs.length).map d)).length=f.Glyphs.length:=by rw [aJ,Nu,dR]
 clear h
 refine W01 ?_
 refine bf (xA (t:=2) (sz:=1) (l:=aW ((cj f.Glyphs.length).map d)) 0 rfl rfl hcd (by simp [aW]) hcl (by omega)) ?_
 refine bf (bH (t:=2) (c':= .imm 1 (aW ((cj f.Glyphs.length).map d))) rfl fun σ v h=>VR.im h) ?_
 exact NQ NA
end
end Go.Proofs.YtpmdfoaadejmkaaGreatDoor
