/-
  The program: how deep glyphs are, and how many points they have.
-/
import Derived.Test.YtpmdfoaadejmkaaGreatDoorM17
namespace Go.Proofs.YtpmdfoaadejmkaaGreatDoor
open Go.RowKit
section
attribute [local irreducible] AT bP AX AO Av Kt bb dh DA cG
def dF (D:Int→Int) (ps:List cA):Int:=ps.foldl (fun a p=>max a (D p.Glyph+1)) 0
def pF (P:Int→Int) (ps:List cA) (k:Int):Int:=ps.foldl (fun a p=>min (a+P p.Glyph) 1001) k
def dm (n:Nat) (D:Int→Int):List AV:=(cj n).map fun z=>aK (D z)
def j6 (D:Int→Int) (z v:Int):Int→Int:=fun q=>if q=z then v else D q
theorem js {D:Int→Int} {z v:Int}:j6 D z v z=v:=by simp [j6]
theorem k5 {D:Int→Int} {z v q:Int} (h:q≠z):j6 D z v q=D q:=by simp [j6,h]
theorem un (D:Int→Int) (z v w:Int):j6 (j6 D z v) z w=j6 D z w:=by
 funext q
 unfold j6
 by_cases e:q=z
 ·rw [if_pos e,if_pos e]
 ·rw [if_neg e,if_neg e,if_neg e]
theorem jw (n:Nat) (D:Int→Int):(dm n D).length=n:=by simp [dm,cj]
theorem iv {n:Nat} {D:Int→Int} {z:Int} (h0:0≤z) (h1:z < n):(dm n D)[0+z.toNat * 1]?=some (aK (D z)):=by
 rw [Nat.zero_add,Nat.mul_one]
 unfold dm
 rw [List.getElem?_map,ic (by omega),Option.map_some,show ((z.toNat:Nat):Int)=z by omega]
theorem kW {n:Nat} {D:Int→Int} {z v:Int} (h0:0≤z) (h1:z < n):(dm n D).set (0+z.toNat * 1) (aK v)=dm n (j6 D z v):=by
 rw [Nat.zero_add,Nat.mul_one]
 apply List.ext_getElem?
 intro i
 rw [List.getElem?_set,jw]
 unfold dm j6
 by_cases hi:z.toNat=i
 ·subst hi
  rw [if_pos rfl,if_pos (by omega),List.getElem?_map,ic (by omega),Option.map_some,if_pos (by omega)]
 ·rw [if_neg hi,List.getElem?_map,List.getElem?_map]
  by_cases hn:i < n
  ·rw [ic hn,Option.map_some,Option.map_some,if_neg (by omega)]
  ·rw [List.getElem?_eq_none (by rw [dR];omega)];rfl
theorem lY (n:Nat):(List.replicate n [aK 0]).flatten=dm n fun _=>0:=by
 rw [Am (cj n) n (dR n).symm]
 unfold gK dm
 rw [List.take_zero,Nr,Nat.sub_zero,dR,List.map_replicate]
 apply List.ext_getElem?
 intro i
 rw [List.getElem?_replicate,List.getElem?_map]
 by_cases h:i < n
 ·rw [if_pos h,ic h];rfl
 ·rw [if_neg h,List.getElem?_eq_none (by rw [dR];omega)];rfl
theorem Hf {D:Int→Int} {ps:List cA} {j:Nat} {p:cA} (h:ps[j]?=some p):dF D (ps.take (j+1))=max (dF D (ps.take j)) (D p.Glyph+1):=by
 unfold dF
 rw [List.take_add_one,h,Option.toList_some,List.foldl_append]
 rfl
theorem I7 {P:Int→Int} {ps:List cA} {k:Int} {j:Nat} {p:cA} (h:ps[j]?=some p):pF P (ps.take (j+1)) k=min (pF P (ps.take j) k+P p.Glyph) 1001:=by
 unfold pF
 rw [List.take_add_one,h,Option.toList_some,List.foldl_append]
 rfl
theorem nF {α β:Type} {F G:α→β→α}:∀(l:List β) (a:α),(∀b∈l,∀a,F a b=G a b)→l.foldl F a=l.foldl G a
 | [],_,_=>rfl
 | b::l,a,h=>by rw [List.foldl_cons,List.foldl_cons,h b (List.mem_cons_self ..)];exact nF l _ fun c hc=>h c (Nt _ hc)
theorem rK {D D':Int→Int} {ps:List cA} (h:∀p∈ps,D p.Glyph=D' p.Glyph):dF D ps=dF D' ps:=nF ps 0 fun p hp a=>by rw [h p hp]
theorem sr {P P':Int→Int} {ps:List cA} {k:Int} (h:∀p∈ps,P p.Glyph=P' p.Glyph):pF P ps k=pF P' ps k:=nF ps k fun p hp a=>by rw [h p hp]
theorem L9 {D:Int→Int} {m:Int} (h:∀z,0≤D z∧D z≤m):∀(ps:List cA),0≤dF D ps∧dF D ps≤m+1:=by
 intro ps
 have hm:0≤m:=by have:=h 0;omega
 have:∀(ps:List cA) (a:Int),0≤a→a≤m+1→0≤ps.foldl (fun a p=>max a (D p.Glyph+1)) a∧ps.foldl (fun a p=>max a (D p.Glyph+1)) a≤m+1:=by
  intro ps
  induction ps with
  | nil=>intro a h0 h1;exact ⟨h0,h1⟩
  | cons p ps ih=>intro a h0 h1;have:=h p.Glyph;exact ih (max a (D p.Glyph+1)) (by omega) (by omega)
 exact this ps 0 (by omega) (by omega)
theorem J1 {P:Int→Int} {k:Int} (h:∀z,0≤P z∧P z≤1000000) (hk:0≤k∧k≤1000000) (ps:List cA):0≤pF P ps k∧pF P ps k≤1000000:=by
 unfold pF
 induction ps generalizing k with
 | nil=>exact hk
 | cons p ps ih=>have:=h p.Glyph;exact ih (k:=min (k+P p.Glyph) 1001) (by omega)
def gh (f:aT) (D P:Int→Int):Prop:=∀z:Int,0≤z→z < f.Glyphs.length→∀gl,f.Glyphs[z.toNat]?=some gl→D z=dF D gl.Parts∧P z=pF P gl.Parts gl.Points.length
structure kP (f:aT):Prop extends Few f where
 points:∀gl∈f.Glyphs,gl.Points.length≤1000000
 there:∀gl∈f.Glyphs,∀p∈gl.Parts,gA f p.Glyph=true
theorem oN {f:aT} (hf:kP f) {z:Int} {gl:bj} (h:f.Glyphs[z.toNat]?=some gl):prt f z=gl.Parts.map cA.Glyph:=by
 unfold prt
 rw [h]
 refine List.filter_eq_self.2 fun y hy=>?_
 obtain ⟨p,hp,rfl⟩:=List.mem_map.1 hy
 exact hf.there gl (Nw h) p hp
def kr (_:Nat) (levels:Int):Int:=d3 (decide (levels > 4)) 34
def lC (_:Nat) (all:Int):Int:=d3 (decide (all≥1001)) 2
theorem yd (i:Nat) (n:Int):bV Tryz.prog 129 [aK i,aK n] (aK (kr i n)):=by
 refine aV Tryz.func129 rfl Tryz.ntmps129 rfl fun B=>?_
 refine W0e ?_
 exact NQ NA
theorem ye (i:Nat) (n:Int):bV Tryz.prog 131 [aK i,aK n] (aK (lC i n)):=by
 refine aV Tryz.func131 rfl Tryz.ntmps131 rfl fun B=>?_
 refine W0e ?_
 exact NQ NA
theorem BO (l:List Int):bV Tryz.prog 127 [.iptr [.imm 1 (aW l)]] (co (cw l kr)):=by
 refine aV Tryz.func127 rfl Tryz.ntmps127 rfl fun B=>?_
 refine W01 ?_
 refine b7 [] [] (om (u:= .sc (.func (.func 129) #[] #[])) (g:=129) (caps:=[]) rfl l _ (fun _ _=>True) [] trivial (dH (fun i x _=>yd i x))) rfl rfl (Nn _) rfl fun c L1 hc=>?_
 have hc:c=co (cw l kr):=hc
 subst hc
 unfold co
 refine W01 ?_
 exact NW NB
theorem BP (l:List Int):bV Tryz.prog 130 [.iptr [.imm 1 (aW l)]] (co (cw l lC)):=by
 refine aV Tryz.func130 rfl Tryz.ntmps130 rfl fun B=>?_
 refine W01 ?_
 refine b7 [] [] (om (u:= .sc (.func (.func 131) #[] #[])) (g:=131) (caps:=[]) rfl l _ (fun _ _=>True) [] trivial (dH (fun i x _=>ye i x))) rfl rfl (Nn _) rfl fun c L1 hc=>?_
 have hc:c=co (cw l lC):=hc
 subst hc
 unfold co
 refine W01 ?_
 exact NW NB
structure xL (f:aT) (T:List Int) (i:Nat) (D P:Int→Int):Prop where
 deep:∀z,0≤D z∧D z≤i
 many:∀z,0≤P z∧P z≤1000000
 done:∀(j:Nat) (z:Int),j < i→T[j]?=some z→∀gl,f.Glyphs[z.toNat]?=some gl→D z=dF D gl.Parts∧P z=pF P gl.Parts gl.Points.length
 rest:∀z,z∉T.take i→D z=0
theorem xL.start {f:aT} {T:List Int}:xL f T 0 (fun _=>0) (fun _=>0):=⟨fun _=>by simp,fun _=>by simp,fun j _ h=>absurd h (Nat.not_lt_zero _),fun _ _=>rfl⟩
theorem xL.next {f:aT} {T:List Int} (hf:kP f) (hT:jT f.Glyphs.length (prt f) T) {i:Nat} {D P:Int→Int} (h:xL f T i D P) {x:Int} {gl:bj} (hx:T[i]?=some x) (hgl:f.Glyphs[x.toNat]?=some gl):xL f T (i+1) (j6 D x (dF D gl.Parts)) (j6 P x (pF P gl.Parts gl.Points.length)):=by
 have hgm:=Nw hgl
 have hnot:∀(j:Nat) (z:Int),j≤i→T[j]?=some z→∀g,f.Glyphs[z.toNat]?=some g→∀p∈g.Parts,p.Glyph≠x:=by
  intro j z hj hz g hg p hp e
  have h1:=hT.topo j z hz p.Glyph (by rw [oN hf hg];exact List.mem_map_of_mem hp)
  rw [e] at h1
  obtain ⟨k,hk⟩:=List.mem_iff_getElem?.1 h1
  rw [List.getElem?_take] at hk
  split at hk
  ·rename_i hlt
   obtain ⟨k1,k2⟩:=Np hk
   obtain ⟨i1,i2⟩:=Np hx
   have e1:=hT.nodup.idxOf_getElem k k1
   have e2:=hT.nodup.idxOf_getElem i i1
   rw [k2] at e1
   rw [i2] at e2
   omega
  ·cases hk
 have hd:=L9 h.deep gl.Parts
 have hp:=J1 (k:=(gl.Points.length:Int)) h.many (by have:=hf.points gl hgm;omega) gl.Parts
 refine ⟨fun z=>?_,fun z=>?_,fun j z hj hz g hg=>?_,fun z hz=>?_⟩
 ·unfold j6
  split
  ·omega
  ·have:=h.deep z;omega
 ·unfold j6
  split
  ·exact hp
  ·exact h.many z
 ·rw [rK (D:=j6 D x (dF D gl.Parts)) (D':=D) fun p hp=>k5 (hnot j z (by omega) hz g hg p hp),sr (P:=j6 P x (pF P gl.Parts gl.Points.length)) (P':=P) fun p hp=>k5 (hnot j z (by omega) hz g hg p hp)]
  by_cases e:z=x
  ·subst e
   rw [hgl] at hg
   cases hg
   rw [js,js]
   exact ⟨rfl,rfl⟩
  ·rw [k5 e,k5 e]
   have hji:j < i:=by
    rcases Nat.lt_or_ge j i with h1 | h1
    ·exact h1
    ·have:j=i:=by omega
     subst this
     rw [hx] at hz
     cases hz
     exact absurd rfl e
   exact h.done j z hji hz g hg
 ·rw [List.take_add_one,hx,Option.toList_some,List.mem_append,List.mem_singleton] at hz
  rw [k5 (fun e=>hz (.inr e))]
  exact h.rest z fun hm=>hz (.inl hm)
def og (n:Nat) (D P:Int→Int):Int×Int:=gL [cw ((cj n).map D) kr,cw ((cj n).map P) lC]
set_option maxHeartbeats 8000000 in
theorem qm (f:aT) (hf:kP f) (hr:iW f.Glyphs.length (prt f)∨AC Tryz.prog 211 [ca f] [] fun c _=>∃z:Int,c=aK z):AC Tryz.prog 56 [ca f] [] fun c _=>(∃D P,gh f D P∧iW f.Glyphs.length (prt f)∧c=co (og f.Glyphs.length D P))∨(¬iW f.Glyphs.length (prt f)∧∃z:Int,c=co (33,z)):=by
 refine aV Tryz.func56 rfl Tryz.ntmps56 rfl fun B=>?_
 have hn:=hf.n
 have hml:(f.Glyphs.map bD).length=f.Glyphs.length:=Nu ..
 refine W08 ?_
 refine b7 [] [] (FY f hf.toFew hr) rfl rfl (Nn _) rfl fun c L1 hc=>?_
 refine aL (bF (List.nil_sublist _)) ?_
 rcases hc with ⟨T,hc,hT,hTl⟩ | ⟨hna,z,hc⟩
 rotate_left
 ·subst hc
  refine W0s ?_
  exact NT NA (.inr ⟨hna,z,rfl⟩)
 subst hc
 have hall:=hT.all_of_len hTl
 have hacy:=hT.acyc hall
 have hTi:=aJ T
 refine W0W ?_
 rw [hml]
 refine lg a5 f.Glyphs.length rfl rfl rfl rfl rfl rfl rfl (by omega) (by omega) rfl fun bd=>?_
 rw [show (List.replicate f.Glyphs.length (List.map AV.sc [Value.int .i64 0])).flatten=dm f.Glyphs.length fun _=>0 from lY _]
 repeat' (first|refine Ng ?_|refine NG a5 IG ?_|(apply aI;first|refine NI 7 a5 0 NF ?_|refine NI 7 a5 1 NF ?_|refine NI 7 a5 2 NF ?_|refine NI 8 a5 0 NF ?_|refine NI 8 a5 1 NF ?_|refine NI 8 a5 2 NF ?_|refine NI 12 a5 0 NF ?_|refine NI 12 a5 1 NF ?_|refine NI 12 a5 2 NF ?_|refine NH a5 0 NE ?_|refine NH a5 1 NE ?_|refine NH a5 2 NE ?_|refine NH a5 3 NE ?_|fail)|refine bn a5 fun _=>?_|fail)
 rw [hml]
 refine lg a5 f.Glyphs.length rfl rfl rfl rfl rfl rfl rfl (by omega) (by omega) rfl fun bp=>?_
 rw [show (List.replicate f.Glyphs.length (List.map AV.sc [Value.int .i64 0])).flatten=dm f.Glyphs.length fun _=>0 from lY _]
 repeat' (first|refine Ng ?_|refine ak ?_|refine NG a5 IG ?_|(apply aI;first|refine NI 7 a5 0 NF ?_|refine NI 7 a5 1 NF ?_|refine NI 7 a5 2 NF ?_|refine NI 8 a5 0 NF ?_|refine NI 8 a5 1 NF ?_|refine NI 8 a5 2 NF ?_|refine NI 12 a5 0 NF ?_|refine NI 12 a5 1 NF ?_|refine NI 12 a5 2 NF ?_|refine NH a5 0 NE ?_|refine NH a5 1 NE ?_|refine NH a5 2 NE ?_|refine NH a5 3 NE ?_|fail)|refine bn a5 fun _=>?_|fail)
 refine aM [1,7,8,31,32] (α:=Nat×(Int→Int)×(Int→Int)) (fun x=>[(33,aK x.1)]) (fun x=>x.1≤f.Glyphs.length∧xL f T x.1 x.2.1 x.2.2) (fun x=>[(bp,.box (dm f.Glyphs.length x.2.2) 3),(bd,.box (dm f.Glyphs.length x.2.1) 3)]) (fun x=>f.Glyphs.length - x.1) (0,(fun _=>0),(fun _=>0)) rfl ⟨rfl,trivial⟩ ⟨Nat.zero_le _,xL.start⟩ (fun _ _ h=>h) ?_
 rintro ⟨i,D,P⟩ ⟨hi,hC⟩
 dsimp only at hi hC ⊢
 try dsimp only [Ns,Nr,Nq,Nk]
 refine W01 ?_
 refine aj rfl (fun h=>?_) (fun h=>?_)
 ·have hil:i < T.length:=by have:=Ny h;rw [hTi] at this;omega
  obtain ⟨x,hx⟩:∃x,T[i]?=some x:=⟨_,Nz hil⟩
  have hxi:=bK hx
  have hxr:=hT.dom x (Nw hx)
  obtain ⟨gl,hgl⟩:∃z,f.Glyphs[x.toNat]?=some z:=⟨_,Nz (by omega)⟩
  have hgm:=Nw hgl
  have hgg:=bG (c:=bD) hgl
  have hpm:(gl.Points.map dl).length=gl.Points.length:=Nu ..
  have hpl:=hf.points gl hgm
  clear h
  refine W0a ?_
  refine bv 10 [(0,.v),(1,.v),(2,.v),(3,.v),(4,.v),(5,.v),(6,.v),(7,.v),(8,.v),(9,.v)] none ?_ trivial rfl (by kernel_rfl) (by kernel_rfl) (by kernel_rfl) bQ (by kernel_rfl) rfl
  refine W0b ?_
  refine NP [1,7,8,10,31,32,33,37,38,46] IG ?_
  refine W0F ?_
  refine NV a5 0 ND (by rw [Nat.ble_eq,jw];show _+1≤_;omega) ?_
  rw [fT,kW hxr.1 hxr.2,hpm]
  refine W0a ?_
  have hTx:x∉T.take i:=fun hm=>by
   obtain ⟨k,hk⟩:=List.mem_iff_getElem?.1 hm
   rw [List.getElem?_take] at hk
   split at hk
   ·obtain ⟨k1,k2⟩:=Np hk
    obtain ⟨i1,i2⟩:=Np hx
    have e1:=hT.nodup.idxOf_getElem k k1
    have e2:=hT.nodup.idxOf_getElem i i1
    rw [k2] at e1
    rw [i2] at e2
    omega
   ·cases hk
  have hD0:j6 D x 0=D:=by
   funext q
   unfold j6
   split
   ·rename_i e;rw [e,hC.rest x hTx]
   ·rfl
  have hql:(gl.Parts.map dJ).length=gl.Parts.length:=Nu ..
  have hqn:=hf.parts gl hgm
  refine aM [1,7,8,10,31,32,33,53,54] (α:=Nat) (fun j=>[(55,aK j)]) (fun j=>j≤gl.Parts.length) (fun j=>[(bp,.box (dm f.Glyphs.length (j6 P x (pF P (gl.Parts.take j) gl.Points.length))) 3),(bd,.box (dm f.Glyphs.length (j6 D x (dF D (gl.Parts.take j)))) 3)]) (fun j=>gl.Parts.length - j) 0 rfl ⟨rfl,trivial⟩ (Nat.zero_le _) (fun _ _ h=>by rw [List.take_zero,show dF D []=0 from rfl,hD0];exact h) fun j hj=>?_
  try dsimp only [Ns,Nr,Nq,Nk]
  refine W01 ?_
  refine aj rfl (fun h=>?_) (fun h=>?_)
  ·have hjl:j < gl.Parts.length:=by have:=Ny h;omega
   obtain ⟨q,hq⟩:∃q,gl.Parts[j]?=some q:=⟨_,Nz hjl⟩
   have hqg:=bG (c:=dJ) hq
   have hqr:=ld.1 (hf.there gl hgm q (Nw hq))
   have hne:q.Glyph≠x:=fun e=>by
    have h1:=hT.topo i x hx q.Glyph (by rw [oN hf hgl];exact List.mem_map_of_mem (Nw hq))
    rw [e] at h1
    exact hTx h1
   have hc1:(dm f.Glyphs.length (j6 D x (dF D (gl.Parts.take j))))[0+x.toNat * 1]?=some (aK (dF D (gl.Parts.take j))):=by rw [iv hxr.1 hxr.2,js]
   have hc2:(dm f.Glyphs.length (j6 D x (dF D (gl.Parts.take j))))[0+q.Glyph.toNat * 1]?=some (aK (D q.Glyph)):=by rw [iv hqr.1 hqr.2,k5 hne]
   have hc3:(dm f.Glyphs.length (j6 P x (pF P (gl.Parts.take j) gl.Points.length)))[0+x.toNat * 1]?=some (aK (pF P (gl.Parts.take j) gl.Points.length)):=by rw [iv hxr.1 hxr.2,js]
   have hc4:(dm f.Glyphs.length (j6 P x (pF P (gl.Parts.take j) gl.Points.length)))[0+q.Glyph.toNat * 1]?=some (aK (P q.Glyph)):=by rw [iv hqr.1 hqr.2,k5 hne]
   have hDq:=hC.deep q.Glyph
   have hPq:=hC.many q.Glyph
   have hPj:=J1 (k:=(gl.Points.length:Int)) hC.many (by omega) (gl.Parts.take j)
   clear h
   repeat' (first|refine Ng ?_|refine ak ?_|refine NG a5 IG ?_|(apply aO;first|refine aN a5 ?_|refine aF a5 ?_)|(apply aI;first|refine NI 7 a5 0 NF ?_|refine NI 7 a5 1 NF ?_|refine NI 7 a5 2 NF ?_|refine NI 8 a5 0 NF ?_|refine NI 8 a5 1 NF ?_|refine NI 8 a5 2 NF ?_|refine NI 12 a5 0 NF ?_|refine NI 12 a5 1 NF ?_|refine NI 12 a5 2 NF ?_|refine NH a5 0 NE ?_|refine NH a5 1 NE ?_|refine NH a5 2 NE ?_|refine NH a5 3 NE ?_|fail)|refine bn a5 fun _=>?_|fail)
   refine bv 13 [(0,.v),(1,.v),(2,.v),(3,.v),(4,.v),(5,.l),(6,.v),(7,.v),(8,.v),(9,.v),(10,.l),(11,.v),(12,.v)] none ?_ trivial rfl (by kernel_rfl) (by kernel_rfl) (by kernel_rfl) bQ (by kernel_rfl) rfl
   refine W09 ?_
   refine du a5 rfl rfl rfl hxr trivial ?_
   repeat' (first|refine aD ?_|fail)
   refine ce a5 1 rfl rfl rfl hc1 trivial ?_
   refine W09 ?_
   refine du a5 rfl rfl rfl hqr trivial ?_
   repeat' (first|refine aD ?_|fail)
   refine ce a5 1 rfl rfl rfl hc2 trivial ?_
   refine W0x ?_
   refine NP [1,7,8,10,12,31,32,33,53,54,55,59,60,71] IG ?_
   refine W0F ?_
   refine NV a5 1 ND (by rw [Nat.ble_eq,jw];show _+1≤_;omega) ?_
   rw [fT,kW hxr.1 hxr.2,un,←Hf hq]
   repeat' (first|refine Ng ?_|fail)
   refine bv 13 [(0,.v),(1,.v),(2,.v),(3,.v),(4,.v),(5,.l),(6,.v),(7,.v),(8,.v),(9,.v),(10,.l),(11,.v),(12,.v)] none ?_ trivial rfl (by kernel_rfl) (by kernel_rfl) (by kernel_rfl) bQ (by kernel_rfl) rfl
   refine W09 ?_
   refine du a5 rfl rfl rfl hxr trivial ?_
   repeat' (first|refine aD ?_|fail)
   refine ce a5 0 rfl rfl rfl hc3 trivial ?_
   refine W09 ?_
   refine du a5 rfl rfl rfl hqr trivial ?_
   repeat' (first|refine aD ?_|fail)
   refine ce a5 0 rfl rfl rfl hc4 trivial ?_
   refine W0x ?_
   refine NP [1,7,8,10,31,32,33,53,54,55,73,74,85] IG ?_
   refine W0F ?_
   refine NV a5 0 ND (by rw [Nat.ble_eq,jw];show _+1≤_;omega) ?_
   rw [fT,kW hxr.1 hxr.2,un,←I7 hq]
   refine W02 ?_
   exact aC (j+1) rfl ⟨by rw [Nv];rfl,trivial⟩ (by omega) (by omega) (fun _ _ h=>h)
  ·have hjl:j=gl.Parts.length:=by have:=Nx h;omega
   subst hjl
   rw [List.take_length]
   refine W02 ?_
   exact aC (i+1,_,_) rfl ⟨by rw [Nv];rfl,trivial⟩ ⟨by dsimp only;omega,hC.next hf hT hx hgl⟩ (by dsimp only;omega) (fun _ _ h=>h)
 ·have hil:i=f.Glyphs.length:=by have:=Nx h;rw [hTi] at this;omega
  subst hil
  clear h
  have hdeep:gh f D P:=by
   intro z h0 h1 gl hgl
   obtain ⟨j,hj⟩:=List.mem_iff_getElem?.1 (hall z h0 h1)
   exact hC.done j z (by have:=(Np hj).1;omega) hj gl hgl
  have hcd:∀F:Int→Int,dm f.Glyphs.length F=(aW ((cj f.Glyphs.length).map F)).flatten:=fun F=>by rw [pI];unfold dm;rw [List.map_map];rfl
  have hcl:∀F:Int→Int,(aW ((cj f.Glyphs.length).map F)).length=f.Glyphs.length:=fun F=>by rw [aJ,Nu,dR]
  refine bU (uk (t:=7) (sz:=1) (l:=aW ((cj f.Glyphs.length).map D)) 1 rfl rfl (hcd D) (by simp [aW]) (hcl D) (by omega)) ?_
  refine bU (uk (t:=8) (sz:=1) (l:=aW ((cj f.Glyphs.length).map P)) 1 rfl rfl (hcd P) (by simp [aW]) (hcl P) (by omega)) ?_
  refine W0g ?_
  refine b7 [] _ (kx [⟨127,[.iptr [.imm 1 (aW ((cj f.Glyphs.length).map D))]],[],(cw ((cj f.Glyphs.length).map D) kr).1,(cw ((cj f.Glyphs.length).map D) kr).2⟩,⟨130,[.iptr [.imm 1 (aW ((cj f.Glyphs.length).map P))]],[],(cw ((cj f.Glyphs.length).map P) lC).1,(cw ((cj f.Glyphs.length).map P) lC).2⟩] ⟨⟨inferInstance,BO _⟩,fun _=>⟨⟨inferInstance,BP _⟩,fun _=>trivial⟩⟩) rfl rfl (Nn _) rfl fun c L1 hc=>?_
  rw [lf] at hc
  have hc:c=co (og f.Glyphs.length D P):=hc
  subst hc
  unfold co
  refine W01 ?_
  exact NT NA (.inl ⟨D,P,hdeep,hacy,rfl⟩)
theorem lA {err:Nat→Int}:∀(k i:Nat),(dL err k i).1=0↔∀j,i≤j→j < i+k→err j=0
 | 0,i=>by simp only [dL,true_iff];intro j h1 h2;omega
 | k+1,i=>by
  simp only [dL]
  by_cases h:err i=0
  ·rw [if_pos h,lA k (i+1)]
   constructor
   ·intro hh j h1 h2
    by_cases e:j=i
    ·subst e;exact h
    ·exact hh j (by omega) (by omega)
   ·intro hh j h1 h2;exact hh j (by omega) (by omega)
  ·rw [if_neg h]
   constructor
   ·intro hh;exact absurd hh h
   ·intro hh;exact hh i (Nat.le_refl _) (by omega)
theorem fN {α:Type} {l:List α} {w:Nat→α→Int}:(cw l w).1=0↔∀i x,l[i]?=some x→w i x=0:=by
 unfold cw dK
 rw [lA]
 constructor
 ·intro h i x hx
  have:=h i (Nat.zero_le _) (by have:=(Np hx).1;omega)
  rwa [fW hx] at this
 ·intro h j _ hj
  obtain ⟨x,hx⟩:∃x,l[j]?=some x:=⟨_,Nz (by omega)⟩
  rw [fW hx]
  exact h j x hx
theorem d6 {α:Type} {most:Int} {l:List α} {w:Nat→α→Int}:(bT most l w).1=0↔(l.length:Int)≤most∧∀i x,l[i]?=some x→w i x=0:=by
 have h:=fN (l:=l) (w:=w)
 unfold cw at h
 unfold bT dB
 by_cases hm:(l.length:Int) > most
 ·rw [if_pos hm]
  constructor
  ·intro hh;cases hh
  ·intro hh;omega
 ·rw [if_neg hm,h]
  exact ⟨fun hh=>⟨by omega,hh⟩,fun hh=>hh.2⟩
theorem dq:∀{l:List (Int×Int)},(gL l).1=0↔∀x∈l,x.1=0
 | []=>by simp [gL]
 | x::r=>by
  unfold gL
  by_cases h:x.1=0
  ·rw [if_pos h,dq]
   constructor
   ·intro hh y hy
    rcases List.mem_cons.1 hy with rfl | hy
    ·exact h
    ·exact hh y hy
   ·intro hh y hy;exact hh y (Nt _ hy)
  ·rw [if_neg h]
   constructor
   ·intro hh;exact absurd hh h
   ·intro hh;exact hh x (List.mem_cons_self ..)
theorem gy {f:aT} (h:(bT 400 f.Glyphs (cX f)).1=0):kP f:=by
 obtain ⟨h1,h2⟩:=d6.1 h
 have hg:∀gl∈f.Glyphs,∃name,nI f gl name=0:=fun gl hgl=>by
  obtain ⟨i,hi⟩:=List.mem_iff_getElem?.1 hgl
  exact ⟨_,h2 i gl hi⟩
 have hgl:∀gl∈f.Glyphs,eX gl=0∧(bT 8 gl.Parts (iS f)).1=0:=fun gl hm=>by
  obtain ⟨name,hn⟩:=hg gl hm
  unfold nI at hn
  rw [dq] at hn
  exact ⟨hn (eX gl,0) (by simp),hn (bT 8 gl.Parts (iS f)) (by simp)⟩
 refine ⟨⟨by omega,fun gl hm=>?_⟩,fun gl hm=>?_,fun gl hm p hp=>?_⟩
 ·have:=(d6.1 (hgl gl hm).2).1;omega
 ·have h3:=(hgl gl hm).1
  unfold eX at h3
  split at h3
  ·cases h3
  ·split at h3
   ·cases h3
   ·omega
 ·obtain ⟨i,hi⟩:=List.mem_iff_getElem?.1 hp
  have h3:=(d6.1 (hgl gl hm).2).2 i p hi
  unfold iS at h3
  split at h3
  ·cases h3
  ·rename_i hh
   simpa using hh
theorem BU {f:aT} (hf:kP f) (ha:iW f.Glyphs.length (prt f)) {D P D' P':Int→Int} (h:gh f D P) (h':gh f D' P'):∀z:Int,0≤z→z < f.Glyphs.length→D z=D' z∧P z=P' z:=by
 obtain ⟨r,hr⟩:=ha
 have:∀(k:Nat) (z:Int),r z < k→0≤z→z < f.Glyphs.length→D z=D' z∧P z=P' z:=by
  intro k
  induction k with
  | zero=>intro z hk;exact absurd hk (Nat.not_lt_zero _)
  | succ k ih=>
   intro z hk h0 h1
   obtain ⟨gl,hgl⟩:∃g,f.Glyphs[z.toNat]?=some g:=⟨_,Nz (by omega)⟩
   have hsm:∀p∈gl.Parts,D p.Glyph=D' p.Glyph∧P p.Glyph=P' p.Glyph:=fun p hp=>by
    have hin:=ld.1 (hf.there gl (Nw hgl) p hp)
    have:=hr z h0 h1 p.Glyph (by rw [oN hf hgl];exact List.mem_map_of_mem hp)
    exact ih p.Glyph (by omega) hin.1 hin.2
   obtain ⟨h2,h3⟩:=h z h0 h1 gl hgl
   obtain ⟨h4,h5⟩:=h' z h0 h1 gl hgl
   rw [h2,h3,h4,h5]
   exact ⟨rK fun p hp=>(hsm p hp).1,sr fun p hp=>(hsm p hp).2⟩
 intro z h0 h1
 exact this (r z+1) z (by omega) h0 h1
theorem yf {n:Nat} {D P D' P':Int→Int} (h:∀z:Int,0≤z→z < n→D z=D' z∧P z=P' z):og n D P=og n D' P':=by
 unfold og
 rw [List.map_congr_left (f:=D) (g:=D') fun z hz=>(h z (eB.1 hz).1 (eB.1 hz).2).1,List.map_congr_left (f:=P) (g:=P') fun z hz=>(h z (eB.1 hz).1 (eB.1 hz).2).2]
open Classical in
noncomputable def j8 (f:aT):Int×Int:=if h:∃q:(Int→Int)×(Int→Int),gh f q.1 q.2 then og f.Glyphs.length h.choose.1 h.choose.2 else (33,0)
theorem oh {f:aT} (hf:kP f) (ha:iW f.Glyphs.length (prt f)) {D P:Int→Int} (h:gh f D P):j8 f=og f.Glyphs.length D P:=by
 unfold j8
 have hex:∃q:(Int→Int)×(Int→Int),gh f q.1 q.2:=⟨(D,P),h⟩
 rw [dif_pos hex]
 exact yf (BU hf ha hex.choose_spec h)
theorem He (f:aT) (hf:kP f) (ha:iW f.Glyphs.length (prt f)):AC Tryz.prog 55 [.iptr (cn f)] [] fun c _=>c=co ((j8 f).1,(j8 f).2):=by
 refine aV Tryz.func55 rfl Tryz.ntmps55 rfl fun B=>?_
 refine W01 ?_
 refine b7 [] [] (qm f hf (.inl ha)) rfl rfl (Nn _) rfl fun c L1 hc=>?_
 rcases hc with ⟨D,P,h1,h2,hc⟩ | ⟨hna,_⟩
 ·rw [←oh hf ha h1] at hc
  subst hc
  unfold co
  refine W01 ?_
  exact NW NB
 ·exact absurd ha hna
def ox (_:Nat) (l:List fh):Int:=il l
def jN (f:aT) (_:Nat) (r:List ev):Int:=G4 f.Axes.length r
def g7 (f:aT) (_:Nat) (l:aY):Int:=g8 f l
noncomputable def tH (f:aT):List (Int×Int):=[(mi f,0),bT 400 f.Glyphs (cX f),j8 f,bT 1000 f.Chars (f7 f),bT 40 f.Lookups (g7 f),bT 20 f.Features (f9 f),bT 3 f.Axes (fV f),bT 16 f.Regions (jN f),bT 20 f.Funcs ox,bT 64 f.Cvt t3]
noncomputable def iN (f:aT):Int×Int:=gL (tH f)
noncomputable def uL (f:aT) (m1 m2 m3:Nat):List Lk:=[⟨48,[.iptr (cn f)],[],mi f,0⟩,
 ⟨112,[.iptr [.imm 9 (f.Glyphs.map bD)],.iptr [aK 400],.iptr [.fn 51 [.iptr (cn f),.iptr [.sc (.map (some m1))]]]],[(m1,cx .string (cM (fa f)))],(bT 400 f.Glyphs (cX f)).1,(bT 400 f.Glyphs (cX f)).2⟩,
 ⟨55,[.iptr (cn f)],[],(j8 f).1,(j8 f).2⟩,
 ⟨132,[.iptr [.imm 2 (f.Chars.map ek)],.iptr [aK 1000],.iptr [.fn 58 [.iptr (cn f)]]],[],(bT 1000 f.Chars (f7 f)).1,(bT 1000 f.Chars (f7 f)).2⟩,
 ⟨134,[.iptr [.imm 3 (f.Lookups.map br)],.iptr [aK 40],.iptr [.fn 61 [.iptr (cn f)]]],[],(bT 40 f.Lookups (g7 f)).1,(bT 40 f.Lookups (g7 f)).2⟩,
 ⟨142,[.iptr [.imm 2 (f.Features.map cg)],.iptr [aK 20],.iptr [.fn 64 [.iptr (cn f),.iptr [.sc (.map (some m2))]]]],[(m2,cx .string (cM (iB f)))],(bT 20 f.Features (f9 f)).1,(bT 20 f.Features (f9 f)).2⟩,
 ⟨145,[.iptr [.imm 4 (f.Axes.map cO)],.iptr [aK 3],.iptr [.fn 68 [.iptr [.sc (.map (some m3))]]]],[(m3,cx .string (cM (it f)))],(bT 3 f.Axes (fV f)).1,(bT 3 f.Axes (fV f)).2⟩,
 ⟨147,[.iptr [.imm 1 (f.Regions.map bX)],.iptr [aK 16],.iptr [.fn 71 [.iptr (cn f)]]],[],(bT 16 f.Regions (jN f)).1,(bT 16 f.Regions (jN f)).2⟩,
 ⟨151,[.iptr [.imm 1 (f.Funcs.map dO)],.iptr [aK 20],.iptr [.sc (.func (.func 74) #[] #[])]],[],(bT 20 f.Funcs ox).1,(bT 20 f.Funcs ox).2⟩,
 ⟨155,[.iptr [.imm 1 (f.Cvt.map BI)],.iptr [aK 64],.iptr [.sc (.func (.func 77) #[] #[])]],[],(bT 64 f.Cvt t3).1,(bT 64 f.Cvt t3).2⟩]
theorem rU (f:aT) (m1 m2 m3:Nat) (hA:(bT 400 f.Glyphs (cX f)).1=0→iW f.Glyphs.length (prt f)):wM (uL f m1 m2 m3):=by
 refine ⟨⟨inferInstance,tO f⟩,fun _=>⟨⟨inferInstance,?_⟩,fun h1=>⟨⟨inferInstance,He f (gy h1) (hA h1)⟩,fun _=>⟨⟨inferInstance,?_⟩,fun _=>⟨⟨inferInstance,?_⟩,fun _=>⟨⟨inferInstance,?_⟩,fun _=>⟨⟨inferInstance,?_⟩,fun _=>⟨⟨inferInstance,?_⟩,fun _=>⟨⟨inferInstance,?_⟩,fun _=>⟨⟨inferInstance,?_⟩,fun _=>trivial⟩⟩⟩⟩⟩⟩⟩⟩⟩⟩
 ·exact B6 (u:= .fn 51 [.iptr (cn f),.iptr [.sc (.map (some m1))]]) rfl f.Glyphs 400 (gO f.Glyphs (cX f)) (fun _ L=>L=[(m1,cx .string (cM (fa f)))]) _ rfl fun _=>pd fun i x _=>rV f i x m1
 ·exact Ig (u:= .fn 58 [.iptr (cn f)]) rfl f.Chars 1000 (gO f.Chars (f7 f)) (fun _ _=>True) [] trivial fun hm=>dH fun i x hx=>BL f i x hx hm
 ·exact Ih (u:= .fn 61 [.iptr (cn f)]) rfl f.Lookups 40 (gO f.Lookups (g7 f)) (fun _ _=>True) [] trivial fun _=>dH fun i x _=>uT f i x
 ·exact Ii (u:= .fn 64 [.iptr (cn f),.iptr [.sc (.map (some m2))]]) rfl f.Features 20 (gO f.Features (f9 f)) (fun _ L=>L=[(m2,cx .string (cM (iB f)))]) _ rfl fun _=>pd fun i x _=>C4 f i x m2
 ·exact Ij (u:= .fn 68 [.iptr [.sc (.map (some m3))]]) rfl f.Axes 3 (gO f.Axes (fV f)) (fun _ L=>L=[(m3,cx .string (cM (it f)))]) _ rfl fun _=>pd fun i x _=>BB f i x m3
 ·exact Ik (u:= .fn 71 [.iptr (cn f)]) rfl f.Regions 16 (gO f.Regions (jN f)) (fun _ _=>True) [] trivial fun _=>dH fun i x _=>xj f i x
 ·exact Il (u:= .sc (.func (.func 74) #[] #[])) (g:=74) (caps:=[]) rfl f.Funcs 20 (gO f.Funcs ox) (fun _ _=>True) [] trivial fun _=>dH fun i x _=>BN i x
 ·exact Im (u:= .sc (.func (.func 77) #[] #[])) (g:=77) (caps:=[]) rfl f.Cvt 64 (gO f.Cvt t3) (fun _ _=>True) [] trivial fun _=>dH fun i x _=>Et i x
set_option maxHeartbeats 4000000 in
theorem HK (f:aT) (hA:(bT 400 f.Glyphs (cX f)).1=0→iW f.Glyphs.length (prt f)):AC Tryz.prog 25 [ca f] [] fun c _=>c=co (iN f):=by
 refine aV Tryz.func25 rfl Tryz.ntmps25 rfl fun B=>?_
 refine W08 ?_
 refine b7 [] _ (wt f.Glyphs) rfl rfl (Nn _) rfl fun c L1 ⟨m1,hc,hL⟩=>?_
 subst hc;subst hL
 refine W0l ?_
 intros
 refine b7 [] _ (wu f.Features) rfl rfl (Nn _) rfl fun c L1 ⟨m2,hc,hL⟩=>?_
 subst hc;subst hL
 refine W0l ?_
 intros
 refine b7 [] _ (wv f.Axes) rfl rfl (Nn _) rfl fun c L1 ⟨m3,hc,hL⟩=>?_
 subst hc;subst hL
 refine W0K ?_
 intros
 refine bv 36 [(0,.v),(1,.v),(2,.v),(3,.v),(4,.v),(5,.v),(6,.v),(7,.v),(8,.v),(9,.v),(10,.v),(11,.v),(12,.v),(13,.v),(14,.v),(15,.v),(16,.v),(17,.v),(18,.v),(19,.v),(20,.v),(21,.v),(22,.v),(23,.v),(24,.v),(25,.v),(26,.v),(27,.v),(28,.v),(29,.v),(30,.v),(31,.v),(32,.v),(33,.e),(34,.v),(35,.v)] none ?_ trivial rfl (by kernel_rfl) (by kernel_rfl) (by kernel_rfl) bQ (by kernel_rfl) rfl
 refine W0t ?_
 refine dz (hc:=⟨FG f.Cvt 64⟩) ?_
 refine W0M ?_
 refine iF (L:=[(m3,cx .string (cM (it f))),(m2,cx .string (cM (iB f))),(m1,cx .string (cM (fa f)))]) _ [] (kx (uL f m1 m2 m3) (rU f m1 m2 m3 hA)) rfl rfl (by rw [List.append_nil];exact (List.reverse_perm _).symm) trivial fun c L1 hc=>?_
 rw [lf] at hc
 have hc:c=co (iN f):=hc
 subst hc
 unfold co
 refine W09 ?_
 refine NP [50,51] IG ?_
 refine W0k ?_
 exact NW NB
def Nb (f:FuncId) (args:List AV) (C:Prop):Prop:=AC Tryz.prog f args [] fun c L=>L=[]∧∃e:Int,c=aK e∧(e=0↔C)
def uO (i:fh):Prop:=(1≤i.Op∧i.Op≤39)∧-999999999≤i.A∧i.A≤999999999
theorem kM {α:Type} {p:α→Prop} {l:List α} {i:Nat} {x:α} (h:l[i]?=some x) (ha:∀y∈l.take i,p y) (hx:p x):∀y∈l.take (i+1),p y:=by
 rw [List.take_add_one,h]
 intro y hy
 rcases Nm hy with hy | hy
 ·exact ha y hy
 ·simp at hy
  exact hy▸hx
set_option maxHeartbeats 4000000 in
theorem FC (n:Int):bV Tryz.prog 163 [aK n] (dy (cY n)):=by
 refine aV Tryz.func163 rfl Tryz.ntmps163 rfl fun B=>?_
 refine W01 ?_
 refine bY (t:=2) [] (-16384≤n∧n≤16384) rfl (fun Q' K=>?_) ?_
 ·repeat' (first|refine Ng ?_|refine NG a5 IG ?_|refine NN IG ?_|refine NO NB ?_|refine NR NA (fun _=>?_) (fun _=>?_))
  all_goals exact K _ _ rfl rfl (by clear K;simp_all <;> omega)
 repeat' (first|refine Ng ?_|fail)
 exact NQ NA
instance (n:Int):AD Tryz.prog 163 [aK n] (dy (cY n)):=⟨FC n⟩
def nq (t:ev):Bool:=decide ((-64≤t.Start∧t.Start≤t.Peak∧t.Peak≤t.End∧t.End≤64)∧(t.Peak=0∨t.Start≥0∨t.End≤0))
set_option maxHeartbeats 4000000 in
theorem Do (t:ev):bV Tryz.prog 164 [.agg (iL t)] (dy (nq t)):=by
 refine aV Tryz.func164 rfl Tryz.ntmps164 rfl fun B=>?_
 obtain ⟨a,b,c⟩:=t
 unfold nq iL
 dsimp only
 refine W08 ?_
 refine bY (t:=2) [] ((-64≤a∧a≤b∧b≤c∧c≤64)∧(b=0∨a≥0∨c≤0)) rfl (fun Q' K=>?_) ?_
 ·repeat' (first|refine Ng ?_|refine NG a5 IG ?_|refine NN IG ?_|refine NO NB ?_|refine cq rfl rfl rfl ?_|refine NR NA (fun _=>?_) (fun _=>?_))
  all_goals exact K _ _ rfl rfl (by clear K;simp_all <;> omega)
 repeat' (first|refine Ng ?_|fail)
 exact NQ NA
instance (t:ev):AD Tryz.prog 164 [.agg (iL t)] (dy (nq t)):=⟨Do t⟩
def kv (n:Int) (last:Int):List Int→Bool
 | []=>decide (last=n - 1)
 | e::l=>decide (¬(e < 0∨e≥n∨e < last+2)) && kv n e l
set_option maxHeartbeats 4000000 in
theorem C0 (pts:List eO) (ends:List Int) (hp:pts.length≤1000000) (he:ends.length≤1000000):bV Tryz.prog 229 [.agg [.imm 3 (pts.map dl),.imm 1 (aW ends)]] (dy (kv pts.length (-1) ends)):=by
 refine aV Tryz.func229 rfl Tryz.ntmps229 rfl fun B=>?_
 have hei:=aJ ends
 have hpl:(pts.map dl).length=pts.length:=Nu ..
 refine W0y ?_
 refine aM [1] (α:=Nat×Int) (fun x=>[(4,aK x.1),(3,aK x.2)]) (fun x=>x.1≤ends.length∧(-1≤x.2∧x.2≤pts.length)∧kv pts.length (-1) ends=kv pts.length x.2 (ends.drop x.1)) (fun _=>[]) (fun x=>ends.length - x.1) (0,-1) rfl ⟨rfl,rfl,trivial⟩ ⟨Nat.zero_le _,by dsimp only;omega,rfl⟩ (fun _ _ h=>h) ?_
 rintro ⟨i,last⟩ ⟨hi,hla,hq⟩
 dsimp only at hi hla hq ⊢
 try dsimp only [Ns,Nr,Nq,Nk]
 refine W01 ?_
 refine aj rfl (fun h=>?_) (fun h=>?_)
 ·have hil:i < ends.length:=by have:=Ny h;omega
  obtain ⟨e,hx⟩:∃z,ends[i]?=some z:=⟨_,Nz hil⟩
  have hxg:=bK hx
  have hdr:ends.drop i=e::ends.drop (i+1):=by
   rw [List.drop_eq_getElem_cons hil]
   rw [Nz hil] at hx
   rw [Option.some.inj hx]
  rw [hdr] at hq
  rw [show kv pts.length last (e::ends.drop (i+1))=(decide (¬(e < 0∨e≥pts.length∨e < last+2)) && kv pts.length e (ends.drop (i+1))) from rfl] at hq
  refine W0n ?_
  refine bv 27 [(0,.v),(1,.v),(2,.v),(3,.v),(4,.v),(5,.v),(6,.v),(7,.v),(8,.v),(9,.v),(10,.v),(11,.v),(12,.v),(13,.v),(14,.v),(15,.v),(16,.v),(17,.v),(18,.v),(19,.v),(20,.v),(21,.v),(22,.v),(23,.v),(24,.v),(25,.v),(26,.v)] none ?_ trivial rfl (by kernel_rfl) (by kernel_rfl) (by kernel_rfl) bQ (by kernel_rfl) rfl
  refine W0b ?_
  by_cases h1:e < 0
  ·rw [decide_eq_true h1]
   refine W11 ?_
   refine NP [1,4,38] IG ?_
   refine W18 ?_
   exact NM IG (by rw [hq,decide_eq_false (by omega)];rfl)
  rw [decide_eq_false h1]
  refine W0b ?_
  by_cases h2:((pts.map dl).length:Int)≤e
  ·rw [decide_eq_true h2]
   refine W11 ?_
   refine NP [1,4,38] IG ?_
   refine W18 ?_
   exact NM IG (by rw [hq,decide_eq_false (by omega)];rfl)
  rw [decide_eq_false h2]
  refine W13 ?_
  refine NP [1,4,38] IG ?_
  refine W1H ?_
  refine aj rfl (fun h3=>?_) (fun h3=>?_)
  ·have h3:=Ny h3
   refine W01 ?_
   exact NM IG (by rw [hq,decide_eq_false (by omega)];rfl)
  have h3:=Nx h3
  refine W1r ?_
  refine aC (i+1,e) rfl ⟨by rw [Nv];rfl,rfl,trivial⟩ ⟨by dsimp only;omega,by dsimp only;omega,?_⟩ (by dsimp only;omega) (fun _ _ h=>h)
  rw [hq,decide_eq_true (by omega),Bool.true_and]
 have hil:i=ends.length:=by have:=Nx h;omega
 subst hil
 refine W02 ?_
 refine NM IG ?_
 rw [hq,List.drop_length,hpl]
 rfl
def zi (f:aT) (p:cA):Prop:=(0≤p.Glyph∧p.Glyph < f.Glyphs.length)∧cY p.X=true∧cY p.Y=true
def vj (f:aT) (g:bj):Prop:=g.Parts.length≤8∧∀p∈g.Parts,zi f p
def DY (g:bj):Prop:=g.Anchors.length≤16∧∀i a,g.Anchors[i]?=some a→iI g i a=0
def vS (g:bj) (a:d9):Prop:=(a.Kind < 1∨a.Kind > 4)∨(a.Class < 0∨a.Class > 15)∨((a.Kind=3∨a.Kind=4)∧a.Class≠0)∨[a.X,a.Y].all cY=false∨(a.Kind=2∧g.Mark=false)
instance (g:bj) (a:d9):Decidable (vS g a):=by unfold vS;infer_instance
theorem H2 {g:bj} {i:Nat} {a:d9} (h1:¬vS g a) (h2:¬∃b∈g.Anchors.take i,b.Kind=a.Kind∧b.Class=a.Class):iI g i a=0:=by
 unfold iI
 unfold vS at h1
 rw [if_neg]
 rintro (h | h | h | h | h | h)
 ·exact h1 (.inl h)
 ·exact h1 (.inr (.inl h))
 ·exact h1 (.inr (.inr (.inl h)))
 ·exact h1 (.inr (.inr (.inr (.inl h))))
 ·exact h1 (.inr (.inr (.inr (.inr h))))
 ·exact h2 h
theorem eh {α:Type} {l:List α} {w:Nat→α→Int} {i:Nat} {x:α} (hx:l[i]?=some x) (ha:∀j y,j < i→l[j]?=some y→w j y=0) (h:w i x=0):∀j y,j < i+1→l[j]?=some y→w j y=0:=by
 intro j y hj hy
 by_cases e:j=i
 ·subst e
  rw [hx] at hy
  exact Option.some.inj hy▸h
 ·exact ha j y (by omega) hy
def EK (f:aT) (g:bj):Prop:=g.Deltas.length≤400∧∀i a,g.Deltas[i]?=some a→lF f g i a=0
def EI (f:aT) (d:dk):Prop:=d.Region < 0∨d.Region≥f.Regions.length
def EJ (g:bj) (d:dk):Prop:=(d.Point < -1∨d.Point≥g.Points.length)∨[d.X,d.Y].all cY=false∨(d.Point= -1∧d.Y≠0)
def Hl (g:bj) (i:Nat) (d:dk):Bool:=match i with | 0=>false | j+1=>match g.Deltas[j]? with | some b=>decide (d.Region < b.Region∨(d.Region=b.Region∧d.Point≤b.Point)) | none=>false
instance (f:aT) (d:dk):Decidable (EI f d):=by unfold EI;infer_instance
instance (g:bj) (d:dk):Decidable (EJ g d):=by unfold EJ;infer_instance
theorem r8 (f:aT) (g:bj) (i:Nat) (d:dk):lF f g i d=if EI f d then 61 else if EJ g d then 30 else if Hl g i d=true then 24 else 0:=rfl
set_option maxHeartbeats 4000000 in
theorem tW (s:ByteArray) (hs:s.size≤140737488355328):bV Tryz.prog 162 [vE s] (dy (dx s)):=by
 refine aV Tryz.func162 rfl Tryz.ntmps162 rfl fun B=>?_
 refine W03 ?_
 refine aM [0] (α:=Nat) (fun i=>[(3,aK i)]) (fun i=>i≤s.size∧∀j,j < i→nM j (lW s j)=true) (fun _=>[]) (fun i=>s.size - i) 0 rfl ⟨rfl,trivial⟩ ⟨Nat.zero_le _,fun j hj=>absurd hj (Nat.not_lt_zero _)⟩ (fun _ _ h=>h) fun i hi=>?_
 try dsimp only [Ns,Nr,Nq,Nk]
 refine W01 ?_
 refine aj rfl (fun h=>?_) (fun h=>?_)
 ·have hil:i < s.size:=by have:=Ny h;omega
  obtain ⟨c,hc⟩:=ri hil
  have hb:=kV hc
  refine W03 ?_
  refine rd a5 rfl rfl rfl rfl (by omega) (by rw [Int.toNat_natCast];exact hc) rfl ?_
  generalize (c.toNat:Int)=z at *
  refine W01 ?_
  refine bY (t:=5) [0,3,4] (kz z=true∨z=95∨z=46) rfl (fun Q' K=>?_) ?_
  ·clear hi hb hc h
   repeat' (first|refine Ng ?_|refine NG a5 IG ?_|refine NN IG ?_|refine NO NB ?_|refine cq rfl rfl rfl ?_|refine NR NA (fun _=>?_) (fun _=>?_))
   all_goals exact K _ _ rfl rfl (by clear K;unfold kz;simp_all <;> omega)
  refine W01 ?_
  refine bY (t:=54) [0,3] (nM i z=false) rfl (fun Q' K=>?_) ?_
  ·clear hi hb hc h
   repeat' (first|refine Ng ?_|refine NG a5 IG ?_|refine NN IG ?_|refine NO NB ?_|refine cq rfl rfl rfl ?_|refine NR NA (fun _=>?_) (fun _=>?_))
   all_goals exact K _ _ rfl rfl (by clear K;unfold nM;grind)
  repeat' (first|refine Ng ?_|fail)
  refine aj rfl (fun h2=>?_) (fun h2=>?_)
  ·have h2:=Ny h2
   refine W01 ?_
   refine NM IG ?_
   unfold dx
   rw [jW hil (by rw [hb];exact h2),Bool.and_false]
  ·have h2:=Nx h2
   refine W02 ?_
   refine aC (i+1) rfl ⟨by rw [Nv];rfl,trivial⟩ ⟨by omega,fun j hj=>?_⟩ (by omega) (fun _ _ h=>h)
   by_cases e:j=i
   ·subst e;rw [hb];simpa using h2
   ·exact hi.2 j (by omega)
 have hil:i=s.size:=by have:=Nx h;omega
 subst hil
 refine W01 ?_
 have he:s=(⟨#[]⟩:ByteArray)↔s.size=0:=by
  constructor
  ·intro e;rw [e];rfl
  ·intro e
   obtain ⟨a⟩:=s
   have:a=#[]:=Array.eq_empty_of_size_eq_zero e
   rw [this]
 refine bY (t:=2) [] (1≤s.size∧s.size≤16) rfl (fun Q' K=>?_) ?_
 ·repeat' (first|refine Ng ?_|refine NG a5 IG ?_|refine NN IG ?_|refine NO NB ?_|refine NR NA (fun _=>?_) (fun _=>?_))
  all_goals exact K _ _ rfl rfl (by clear K hi;simp only [bne_iff_ne,ne_eq,he,decide_eq_true_iff,decide_eq_false_iff_not,Bool.not_eq_true',Bool.not_eq_false',Bool.not_true,Bool.not_false,Bool.false_eq_true,false_iff,true_iff] at * <;> omega)
 repeat' (first|refine Ng ?_|fail)
 refine NM IG ?_
 unfold dx
 rw [km.2 hi.2,Bool.and_true]
def Gm (n:Nat):List (List Int)→Nat
 | []=>n
 | q::r=>if n≤2000 then Gm (n+1+q.length) r else n
def IR (n:Nat):List (List (List Int))→Nat
 | []=>n
 | s::r=>IR (Gm n s) r
def Kj (n:Nat) (r:bk):Nat:=IR (n+r.Out.length+r.Calls.length) [r.Back,r.In,r.Ahead]
def B4 (n:Nat):List bk→Nat
 | []=>n
 | r::rs=>if n≤2000 then B4 (Kj n r) rs else n
def uX:Nat:=140737488355328
structure DD (r:bk):Prop where
 out:r.Out.length≤uX
 calls:r.Calls.length≤uX
 sets:∀s∈[r.Back,r.In,r.Ahead],s.length≤uX∧∀q∈s,q.length≤uX
def MV (g n t:Nat):Prop:=(n+t≤2000→g=n+t)∧(2000 < n+t→2000 < g)
def LK {α:Type} (g:α→Nat) (n:Nat):List α→Nat
 | []=>n
 | a::l=>if n≤2000 then LK g (n+g a) l else n
end
end Go.Proofs.YtpmdfoaadejmkaaGreatDoor
