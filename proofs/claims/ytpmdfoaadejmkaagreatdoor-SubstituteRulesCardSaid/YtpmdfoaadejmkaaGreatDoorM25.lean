/-
  The program: how deep glyphs are, and how many points they have.
-/
import Derived.Test.YtpmdfoaadejmkaaGreatDoorM24
import Derived.Test.YtpmdfoaadejmkaaGreatDoorM21
namespace Go.Proofs.YtpmdfoaadejmkaaGreatDoor
open Go.RowKit
attribute [local irreducible] AT bJ AX AO Av Kt bi dq DA cG
def dF (D:Int→Int) (ps:List ec):Int:=ps.foldl (fun a p=>max a (D p.Glyph+1)) 0
def pF (P:Int→Int) (ps:List ec) (k:Int):Int:=ps.foldl (fun a p=>min (a+P p.Glyph) 1001) k
def eG (n:Nat) (D:Int→Int):List AV:=(cQ n).map fun z=>aF (D z)
def iN (D:Int→Int) (z v:Int):Int→Int:=fun q=>if q=z then v else D q
theorem mA {D:Int→Int} {z v:Int}:iN D z v z=v:=by simp [iN]
theorem l7 {D:Int→Int} {z v q:Int} (h:q≠z):iN D z v q=D q:=by simp [iN,h]
theorem tI (D:Int→Int) (z v w:Int):iN (iN D z v) z w=iN D z w:=by
 funext q
 unfold iN
 by_cases e:q=z
 ·rw [if_pos e,if_pos e]
 ·rw [if_neg e,if_neg e,if_neg e]
theorem kF (n:Nat) (D:Int→Int):(eG n D).length=n:=by simp [eG,cQ]
theorem kE {n:Nat} {D:Int→Int} {z:Int} (h0:0≤z) (h1:z < n):(eG n D)[0+z.toNat * 1]?=some (aF (D z)):=by
 rw [Nat.zero_add,Nat.mul_one]
 unfold eG
 rw [List.getElem?_map,ku (by omega),Option.map_some,show ((z.toNat:Nat):Int)=z by omega]
theorem mV {n:Nat} {D:Int→Int} {z v:Int} (h0:0≤z) (h1:z < n):(eG n D).set (0+z.toNat * 1) (aF v)=eG n (iN D z v):=by
 rw [Nat.zero_add,Nat.mul_one]
 apply List.ext_getElem?
 intro i
 rw [List.getElem?_set,kF]
 unfold eG iN
 by_cases hi:z.toNat=i
 ·subst hi
  rw [if_pos rfl,if_pos (by omega),List.getElem?_map,ku (by omega),Option.map_some,if_pos (by omega)]
 ·rw [if_neg hi,List.getElem?_map,List.getElem?_map]
  by_cases hn:i < n
  ·rw [ku hn,Option.map_some,Option.map_some,if_neg (by omega)]
  ·rw [List.getElem?_eq_none (by rw [f7];omega)];rfl
theorem pn (n:Nat):(List.replicate n [aF 0]).flatten=eG n fun _=>0:=by
 rw [yI (cQ n) n (f7 n).symm]
 unfold fZ eG
 rw [List.take_zero,Kq,Nat.sub_zero,f7,List.map_replicate]
 apply List.ext_getElem?
 intro i
 rw [List.getElem?_replicate,List.getElem?_map]
 by_cases h:i < n
 ·rw [if_pos h,ku h];rfl
 ·rw [if_neg h,List.getElem?_eq_none (by rw [f7];omega)];rfl
theorem EY {D:Int→Int} {ps:List ec} {j:Nat} {p:ec} (h:ps[j]?=some p):dF D (ps.take (j+1))=max (dF D (ps.take j)) (D p.Glyph+1):=by
 unfold dF
 rw [List.take_add_one,h,Option.toList_some,List.foldl_append]
 rfl
theorem FN {P:Int→Int} {ps:List ec} {k:Int} {j:Nat} {p:ec} (h:ps[j]?=some p):pF P (ps.take (j+1)) k=min (pF P (ps.take j) k+P p.Glyph) 1001:=by
 unfold pF
 rw [List.take_add_one,h,Option.toList_some,List.foldl_append]
 rfl
theorem mZ {α β:Type} {F G:α→β→α}:∀(l:List β) (a:α),(∀b∈l,∀a,F a b=G a b)→l.foldl F a=l.foldl G a
 | [],_,_=>rfl
 | b::l,a,h=>by rw [List.foldl_cons,List.foldl_cons,h b (List.mem_cons_self ..)];exact mZ l _ fun c hc=>h c (Ks _ hc)
theorem vk {D D':Int→Int} {ps:List ec} (h:∀p∈ps,D p.Glyph=D' p.Glyph):dF D ps=dF D' ps:=mZ ps 0 fun p hp a=>by rw [h p hp]
theorem vY {P P':Int→Int} {ps:List ec} {k:Int} (h:∀p∈ps,P p.Glyph=P' p.Glyph):pF P ps k=pF P' ps k:=mZ ps k fun p hp a=>by rw [h p hp]
theorem Iv {D:Int→Int} {m:Int} (h:∀z,0≤D z∧D z≤m):∀(ps:List ec),0≤dF D ps∧dF D ps≤m+1:=by
 intro ps
 have hm:0≤m:=by have:=h 0;omega
 have:∀(ps:List ec) (a:Int),0≤a→a≤m+1→0≤ps.foldl (fun a p=>max a (D p.Glyph+1)) a∧ps.foldl (fun a p=>max a (D p.Glyph+1)) a≤m+1:=by
  intro ps
  induction ps with
  | nil=>intro a h0 h1;exact ⟨h0,h1⟩
  | cons p ps ih=>intro a h0 h1;have:=h p.Glyph;exact ih (max a (D p.Glyph+1)) (by omega) (by omega)
 exact this ps 0 (by omega) (by omega)
theorem GF {P:Int→Int} {k:Int} (h:∀z,0≤P z∧P z≤1000000) (hk:0≤k∧k≤1000000) (ps:List ec):0≤pF P ps k∧pF P ps k≤1000000:=by
 unfold pF
 induction ps generalizing k with
 | nil=>exact hk
 | cons p ps ih=>have:=h p.Glyph;exact ih (k:=min (k+P p.Glyph) 1001) (by omega)
def kw (f:aZ) (D P:Int→Int):Prop:=∀z:Int,0≤z→z < f.Glyphs.length→∀gl,f.Glyphs[z.toNat]?=some gl→D z=dF D gl.Parts∧P z=pF P gl.Parts gl.Points.length
structure wC (f:aZ):Prop extends Few f where
 points:∀gl∈f.Glyphs,gl.Points.length≤1000000
 there:∀gl∈f.Glyphs,∀p∈gl.Parts,lN f p.Glyph=true
theorem uu {f:aZ} (hf:wC f) {z:Int} {gl:bD} (h:f.Glyphs[z.toNat]?=some gl):prt f z=gl.Parts.map ec.Glyph:=by
 unfold prt
 rw [h]
 refine List.filter_eq_self.2 fun y hy=>?_
 obtain ⟨p,hp,rfl⟩:=List.mem_map.1 hy
 exact hf.there gl (Kw h) p hp
def qU (_:Nat) (levels:Int):Int:=eu (decide (levels > 4)) 34
def rq (_:Nat) (all:Int):Int:=eu (decide (all≥1001)) 2
theorem x9 (i:Nat) (n:Int):bU Tryz.prog 129 [aF i,aF n] (aF (qU i n)):=by
 refine aN Tryz.func129 rfl Tryz.ntmps129 rfl fun B=>?_
 repeat' (first|refine L3 ?_|refine KG a4 HY ?_|(apply bF;refine bv ?_)|fail)
 exact KQ KA
theorem xa (i:Nat) (n:Int):bU Tryz.prog 131 [aF i,aF n] (aF (rq i n)):=by
 refine aN Tryz.func131 rfl Tryz.ntmps131 rfl fun B=>?_
 repeat' (first|refine L3 ?_|refine KG a4 HY ?_|(apply bF;refine bv ?_)|fail)
 exact KQ KA
theorem zX (l:List Int):bU Tryz.prog 127 [.iptr [.imm 1 (aW l)]] (cD (dm l qU)):=by
 refine aN Tryz.func127 rfl Tryz.ntmps127 rfl fun B=>?_
 repeat' (first|refine L3 ?_|refine KG a4 HY ?_)
 refine b6 [] [] (nz (u:= .sc (.func (.func 129) #[] #[])) (g:=129) (caps:=[]) rfl l _ (fun _ _=>True) [] trivial (dw (fun i x _=>x9 i x))) rfl rfl (Lz _) rfl fun c L1 hc=>?_
 have hc:c=cD (dm l qU):=hc
 subst hc
 unfold cD
 repeat' (first|refine L3 ?_|refine KG a4 HY ?_)
 exact bf rfl rfl rfl rfl
theorem zY (l:List Int):bU Tryz.prog 130 [.iptr [.imm 1 (aW l)]] (cD (dm l rq)):=by
 refine aN Tryz.func130 rfl Tryz.ntmps130 rfl fun B=>?_
 repeat' (first|refine L3 ?_|refine KG a4 HY ?_)
 refine b6 [] [] (nz (u:= .sc (.func (.func 131) #[] #[])) (g:=131) (caps:=[]) rfl l _ (fun _ _=>True) [] trivial (dw (fun i x _=>xa i x))) rfl rfl (Lz _) rfl fun c L1 hc=>?_
 have hc:c=cD (dm l rq):=hc
 subst hc
 unfold cD
 repeat' (first|refine L3 ?_|refine KG a4 HY ?_)
 exact bf rfl rfl rfl rfl
structure wA (f:aZ) (T:List Int) (i:Nat) (D P:Int→Int):Prop where
 deep:∀z,0≤D z∧D z≤i
 many:∀z,0≤P z∧P z≤1000000
 done:∀(j:Nat) (z:Int),j < i→T[j]?=some z→∀gl,f.Glyphs[z.toNat]?=some gl→D z=dF D gl.Parts∧P z=pF P gl.Parts gl.Points.length
 rest:∀z,z∉T.take i→D z=0
theorem wA.start {f:aZ} {T:List Int}:wA f T 0 (fun _=>0) (fun _=>0):=⟨fun _=>by simp,fun _=>by simp,fun j _ h=>absurd h (Nat.not_lt_zero _),fun _ _=>rfl⟩
theorem wA.next {f:aZ} {T:List Int} (hf:wC f) (hT:jp f.Glyphs.length (prt f) T) {i:Nat} {D P:Int→Int} (h:wA f T i D P) {x:Int} {gl:bD} (hx:T[i]?=some x) (hgl:f.Glyphs[x.toNat]?=some gl):wA f T (i+1) (iN D x (dF D gl.Parts)) (iN P x (pF P gl.Parts gl.Points.length)):=by
 have hgm:=Kw hgl
 have hnot:∀(j:Nat) (z:Int),j≤i→T[j]?=some z→∀g,f.Glyphs[z.toNat]?=some g→∀p∈g.Parts,p.Glyph≠x:=by
  intro j z hj hz g hg p hp e
  have h1:=hT.topo j z hz p.Glyph (by rw [uu hf hg];exact List.mem_map_of_mem hp)
  rw [e] at h1
  obtain ⟨k,hk⟩:=List.mem_iff_getElem?.1 h1
  rw [List.getElem?_take] at hk
  split at hk
  ·rename_i hlt
   obtain ⟨k1,k2⟩:=Ko hk
   obtain ⟨i1,i2⟩:=Ko hx
   have e1:=hT.nodup.idxOf_getElem k k1
   have e2:=hT.nodup.idxOf_getElem i i1
   rw [k2] at e1
   rw [i2] at e2
   omega
  ·cases hk
 have hd:=Iv h.deep gl.Parts
 have hp:=GF (k:=(gl.Points.length:Int)) h.many (by have:=hf.points gl hgm;omega) gl.Parts
 refine ⟨fun z=>?_,fun z=>?_,fun j z hj hz g hg=>?_,fun z hz=>?_⟩
 ·unfold iN
  split
  ·omega
  ·have:=h.deep z;omega
 ·unfold iN
  split
  ·exact hp
  ·exact h.many z
 ·rw [vk (D:=iN D x (dF D gl.Parts)) (D':=D) fun p hp=>l7 (hnot j z (by omega) hz g hg p hp),vY (P:=iN P x (pF P gl.Parts gl.Points.length)) (P':=P) fun p hp=>l7 (hnot j z (by omega) hz g hg p hp)]
  by_cases e:z=x
  ·subst e
   rw [hgl] at hg
   cases hg
   rw [mA,mA]
   exact ⟨rfl,rfl⟩
  ·rw [l7 e,l7 e]
   have hji:j < i:=by
    rcases Nat.lt_or_ge j i with h1 | h1
    ·exact h1
    ·have:j=i:=by omega
     subst this
     rw [hx] at hz
     cases hz
     exact absurd rfl e
   exact h.done j z hji hz g hg
 ·rw [List.take_add_one,hx,Option.toList_some,List.mem_append,List.mem_singleton] at hz
  rw [l7 (fun e=>hz (.inr e))]
  exact h.rest z fun hm=>hz (.inl hm)
def nw (n:Nat) (D P:Int→Int):Int×Int:=gV [dm ((cQ n).map D) qU,dm ((cQ n).map P) rq]
set_option maxHeartbeats 8000000 in
theorem vj (f:aZ) (hf:wC f) (hr:lq f.Glyphs.length (prt f)∨AC Tryz.prog 211 [df f] [] fun c _=>∃z:Int,c=aF z):AC Tryz.prog 56 [df f] [] fun c _=>(∃D P,kw f D P∧lq f.Glyphs.length (prt f)∧c=cD (nw f.Glyphs.length D P))∨(¬lq f.Glyphs.length (prt f)∧∃z:Int,c=cD (33,z)):=by
 refine aN Tryz.func56 rfl Tryz.ntmps56 rfl fun B=>?_
 have hn:=hf.n
 have hml:(f.Glyphs.map bT).length=f.Glyphs.length:=Ku ..
 repeat' (first|refine L3 ?_|refine KG a4 HY ?_|refine bA ?_|fail)
 refine b6 [] [] (DN f hf.toFew hr) rfl rfl (Lz _) rfl fun c L1 hc=>?_
 refine aP (c6 (List.nil_sublist _)) ?_
 rcases hc with ⟨T,hc,hT,hTl⟩ | ⟨hna,z,hc⟩
 rotate_left
 ·subst hc
  repeat' (first|refine L3 ?_|refine KG a4 HY ?_|refine bH rfl ?_)
  exact KX KA (.inr ⟨hna,z,rfl⟩)
 subst hc
 have hall:=hT.all_of_len hTl
 have hacy:=hT.acyc hall
 have hTi:=bb T
 repeat' (first|refine L3 ?_|refine KG a4 HY ?_|refine bE rfl ?_)
 rw [hml]
 refine j9 a4 f.Glyphs.length rfl rfl rfl rfl rfl rfl rfl (by omega) (by omega) rfl fun bd=>?_
 rw [show (List.replicate f.Glyphs.length (List.map AV.sc [Value.int .i64 0])).flatten=eG f.Glyphs.length fun _=>0 from pn _]
 repeat' (first|refine L3 ?_|refine KG a4 HY ?_|(apply aM;first|refine KL 7 a4 0 KF ?_|refine KL 7 a4 1 KF ?_|refine KL 7 a4 2 KF ?_|refine KL 8 a4 0 KF ?_|refine KL 8 a4 1 KF ?_|refine KL 8 a4 2 KF ?_|refine KL 12 a4 0 KF ?_|refine KL 12 a4 1 KF ?_|refine KL 12 a4 2 KF ?_|refine KH a4 0 KE ?_|refine KH a4 1 KE ?_|refine KH a4 2 KE ?_|refine KH a4 3 KE ?_|fail)|refine bq a4 fun _=>?_|fail)
 rw [hml]
 refine j9 a4 f.Glyphs.length rfl rfl rfl rfl rfl rfl rfl (by omega) (by omega) rfl fun bp=>?_
 rw [show (List.replicate f.Glyphs.length (List.map AV.sc [Value.int .i64 0])).flatten=eG f.Glyphs.length fun _=>0 from pn _]
 repeat' (first|refine L3 ?_|refine ak ?_|refine KG a4 HY ?_|(apply aM;first|refine KL 7 a4 0 KF ?_|refine KL 7 a4 1 KF ?_|refine KL 7 a4 2 KF ?_|refine KL 8 a4 0 KF ?_|refine KL 8 a4 1 KF ?_|refine KL 8 a4 2 KF ?_|refine KL 12 a4 0 KF ?_|refine KL 12 a4 1 KF ?_|refine KL 12 a4 2 KF ?_|refine KH a4 0 KE ?_|refine KH a4 1 KE ?_|refine KH a4 2 KE ?_|refine KH a4 3 KE ?_|fail)|refine bq a4 fun _=>?_|fail)
 refine aR [1,7,8,31,32] (α:=Nat×(Int→Int)×(Int→Int)) (fun x=>[(33,aF x.1)]) (fun x=>x.1≤f.Glyphs.length∧wA f T x.1 x.2.1 x.2.2) (fun x=>[(bp,.box (eG f.Glyphs.length x.2.2) 3),(bd,.box (eG f.Glyphs.length x.2.1) 3)]) (fun x=>f.Glyphs.length - x.1) (0,(fun _=>0),(fun _=>0)) rfl ⟨rfl,trivial⟩ ⟨Nat.zero_le _,wA.start⟩ (fun _ _ h=>h) ?_
 rintro ⟨i,D,P⟩ ⟨hi,hC⟩
 dsimp only at hi hC ⊢
 try dsimp only [Kr,Kq,Kp,Lv]
 repeat' (first|refine L3 ?_|refine KG a4 HY ?_)
 refine aw rfl (fun h=>?_) (fun h=>?_)
 ·have hil:i < T.length:=by have:=Ky h;rw [hTi] at this;omega
  obtain ⟨x,hx⟩:∃x,T[i]?=some x:=⟨_,Kz hil⟩
  have hxi:=bP hx
  have hxr:=hT.dom x (Kw hx)
  obtain ⟨gl,hgl⟩:∃z,f.Glyphs[x.toNat]?=some z:=⟨_,Kz (by omega)⟩
  have hgm:=Kw hgl
  have hgg:=c5 (c:=bT) hgl
  have hpm:(gl.Points.map dR).length=gl.Points.length:=Ku ..
  have hpl:=hf.points gl hgm
  clear h
  repeat' (first|refine L3 ?_|refine ak ?_|refine KG a4 HY ?_|(apply aQ;first|refine aO a4 ?_|refine aG a4 ?_)|fail)
  refine bn 10 [(0,.v),(1,.v),(2,.v),(3,.v),(4,.v),(5,.v),(6,.v),(7,.v),(8,.v),(9,.v)] none ?_ trivial rfl (by kernel_rfl) (by kernel_rfl) (by kernel_rfl) bI (by kernel_rfl) rfl
  repeat' (first|refine aB ?_|refine aX a4 ?_|(apply cm;refine cA a4 ?_)|fail)
  refine KU [1,7,8,10,31,32,33,37,38,46] HY ?_
  repeat' (first|(apply aQ;first|refine aO a4 ?_|refine aG a4 ?_)|fail)
  refine KZ a4 0 KD (by rw [Nat.ble_eq,kF];show _+1≤_;omega) ?_
  rw [je,mV hxr.1 hxr.2,hpm]
  repeat' (first|refine L3 ?_|refine ak ?_|refine KG a4 HY ?_|(apply aQ;first|refine aO a4 ?_|refine aG a4 ?_)|fail)
  have hTx:x∉T.take i:=fun hm=>by
   obtain ⟨k,hk⟩:=List.mem_iff_getElem?.1 hm
   rw [List.getElem?_take] at hk
   split at hk
   ·obtain ⟨k1,k2⟩:=Ko hk
    obtain ⟨i1,i2⟩:=Ko hx
    have e1:=hT.nodup.idxOf_getElem k k1
    have e2:=hT.nodup.idxOf_getElem i i1
    rw [k2] at e1
    rw [i2] at e2
    omega
   ·cases hk
  have hD0:iN D x 0=D:=by
   funext q
   unfold iN
   split
   ·rename_i e;rw [e,hC.rest x hTx]
   ·rfl
  have hql:(gl.Parts.map eR).length=gl.Parts.length:=Ku ..
  have hqn:=hf.parts gl hgm
  refine aR [1,7,8,10,31,32,33,53,54] (α:=Nat) (fun j=>[(55,aF j)]) (fun j=>j≤gl.Parts.length) (fun j=>[(bp,.box (eG f.Glyphs.length (iN P x (pF P (gl.Parts.take j) gl.Points.length))) 3),(bd,.box (eG f.Glyphs.length (iN D x (dF D (gl.Parts.take j)))) 3)]) (fun j=>gl.Parts.length - j) 0 rfl ⟨rfl,trivial⟩ (Nat.zero_le _) (fun _ _ h=>by rw [List.take_zero,show dF D []=0 from rfl,hD0];exact h) fun j hj=>?_
  try dsimp only [Kr,Kq,Kp,Lv]
  repeat' (first|refine L3 ?_|refine KG a4 HY ?_)
  refine aw rfl (fun h=>?_) (fun h=>?_)
  ·have hjl:j < gl.Parts.length:=by have:=Ky h;omega
   obtain ⟨q,hq⟩:∃q,gl.Parts[j]?=some q:=⟨_,Kz hjl⟩
   have hqg:=c5 (c:=eR) hq
   have hqr:=qf.1 (hf.there gl hgm q (Kw hq))
   have hne:q.Glyph≠x:=fun e=>by
    have h1:=hT.topo i x hx q.Glyph (by rw [uu hf hgl];exact List.mem_map_of_mem (Kw hq))
    rw [e] at h1
    exact hTx h1
   have hc1:(eG f.Glyphs.length (iN D x (dF D (gl.Parts.take j))))[0+x.toNat * 1]?=some (aF (dF D (gl.Parts.take j))):=by rw [kE hxr.1 hxr.2,mA]
   have hc2:(eG f.Glyphs.length (iN D x (dF D (gl.Parts.take j))))[0+q.Glyph.toNat * 1]?=some (aF (D q.Glyph)):=by rw [kE hqr.1 hqr.2,l7 hne]
   have hc3:(eG f.Glyphs.length (iN P x (pF P (gl.Parts.take j) gl.Points.length)))[0+x.toNat * 1]?=some (aF (pF P (gl.Parts.take j) gl.Points.length)):=by rw [kE hxr.1 hxr.2,mA]
   have hc4:(eG f.Glyphs.length (iN P x (pF P (gl.Parts.take j) gl.Points.length)))[0+q.Glyph.toNat * 1]?=some (aF (P q.Glyph)):=by rw [kE hqr.1 hqr.2,l7 hne]
   have hDq:=hC.deep q.Glyph
   have hPq:=hC.many q.Glyph
   have hPj:=GF (k:=(gl.Points.length:Int)) hC.many (by omega) (gl.Parts.take j)
   clear h
   repeat' (first|refine L3 ?_|refine ak ?_|refine KG a4 HY ?_|(apply aQ;first|refine aO a4 ?_|refine aG a4 ?_)|(apply aM;first|refine KL 7 a4 0 KF ?_|refine KL 7 a4 1 KF ?_|refine KL 7 a4 2 KF ?_|refine KL 8 a4 0 KF ?_|refine KL 8 a4 1 KF ?_|refine KL 8 a4 2 KF ?_|refine KL 12 a4 0 KF ?_|refine KL 12 a4 1 KF ?_|refine KL 12 a4 2 KF ?_|refine KH a4 0 KE ?_|refine KH a4 1 KE ?_|refine KH a4 2 KE ?_|refine KH a4 3 KE ?_|fail)|refine bq a4 fun _=>?_|fail)
   refine bn 13 [(0,.v),(1,.v),(2,.v),(3,.v),(4,.v),(5,.l),(6,.v),(7,.v),(8,.v),(9,.v),(10,.l),(11,.v),(12,.v)] none ?_ trivial rfl (by kernel_rfl) (by kernel_rfl) (by kernel_rfl) bI (by kernel_rfl) rfl
   repeat' (first|refine aB ?_|refine aX a4 ?_|fail)
   refine cR a4 rfl rfl rfl hxr trivial ?_
   repeat' (first|refine aB ?_|fail)
   refine bN a4 1 rfl rfl rfl hc1 trivial ?_
   repeat' (first|refine aB ?_|refine aX a4 ?_|fail)
   refine cR a4 rfl rfl rfl hqr trivial ?_
   repeat' (first|refine aB ?_|fail)
   refine bN a4 1 rfl rfl rfl hc2 trivial ?_
   repeat' (first|refine aB ?_|refine aX a4 ?_|(apply dz;refine eL ?_)|fail)
   refine KU [1,7,8,10,12,31,32,33,53,54,55,59,60,71] HY ?_
   repeat' (first|(apply aQ;first|refine aO a4 ?_|refine aG a4 ?_)|fail)
   refine KZ a4 1 KD (by rw [Nat.ble_eq,kF];show _+1≤_;omega) ?_
   rw [je,mV hxr.1 hxr.2,tI,←EY hq]
   repeat' (first|refine L3 ?_|fail)
   refine bn 13 [(0,.v),(1,.v),(2,.v),(3,.v),(4,.v),(5,.l),(6,.v),(7,.v),(8,.v),(9,.v),(10,.l),(11,.v),(12,.v)] none ?_ trivial rfl (by kernel_rfl) (by kernel_rfl) (by kernel_rfl) bI (by kernel_rfl) rfl
   repeat' (first|refine aB ?_|refine aX a4 ?_|fail)
   refine cR a4 rfl rfl rfl hxr trivial ?_
   repeat' (first|refine aB ?_|fail)
   refine bN a4 0 rfl rfl rfl hc3 trivial ?_
   repeat' (first|refine aB ?_|refine aX a4 ?_|fail)
   refine cR a4 rfl rfl rfl hqr trivial ?_
   repeat' (first|refine aB ?_|fail)
   refine bN a4 0 rfl rfl rfl hc4 trivial ?_
   repeat' (first|refine aB ?_|refine aX a4 ?_|(apply dz;refine eL ?_)|fail)
   refine KU [1,7,8,10,31,32,33,53,54,55,73,74,85] HY ?_
   repeat' (first|(apply aQ;first|refine aO a4 ?_|refine aG a4 ?_)|fail)
   refine KZ a4 0 KD (by rw [Nat.ble_eq,kF];show _+1≤_;omega) ?_
   rw [je,mV hxr.1 hxr.2,tI,←FN hq]
   repeat' (first|refine L3 ?_|refine KG a4 HY ?_|(apply aU;refine aT ?_)|fail)
   exact aD (j+1) rfl ⟨by rw [Kv];rfl,trivial⟩ (by omega) (by omega) (fun _ _ h=>h)
  ·have hjl:j=gl.Parts.length:=by have:=Kx h;omega
   subst hjl
   rw [List.take_length]
   repeat' (first|refine L3 ?_|refine KG a4 HY ?_|(apply aU;refine aT ?_)|fail)
   exact aD (i+1,_,_) rfl ⟨by rw [Kv];rfl,trivial⟩ ⟨by dsimp only;omega,hC.next hf hT hx hgl⟩ (by dsimp only;omega) (fun _ _ h=>h)
 ·have hil:i=f.Glyphs.length:=by have:=Kx h;rw [hTi] at this;omega
  subst hil
  clear h
  have hdeep:kw f D P:=by
   intro z h0 h1 gl hgl
   obtain ⟨j,hj⟩:=List.mem_iff_getElem?.1 (hall z h0 h1)
   exact hC.done j z (by have:=(Ko hj).1;omega) hj gl hgl
  have hcd:∀F:Int→Int,eG f.Glyphs.length F=(aW ((cQ f.Glyphs.length).map F)).flatten:=fun F=>by rw [t6];unfold eG;rw [List.map_map];rfl
  have hcl:∀F:Int→Int,(aW ((cQ f.Glyphs.length).map F)).length=f.Glyphs.length:=fun F=>by rw [bb,Ku,f7]
  refine c8 (tG (t:=7) (sz:=1) (l:=aW ((cQ f.Glyphs.length).map D)) 1 rfl rfl (hcd D) (by simp [aW]) (hcl D) (by omega)) ?_
  refine c8 (tG (t:=8) (sz:=1) (l:=aW ((cQ f.Glyphs.length).map P)) 1 rfl rfl (hcd P) (by simp [aW]) (hcl P) (by omega)) ?_
  repeat' (first|refine L3 ?_|refine KG a4 HY ?_|refine bW a4 ?_|fail)
  refine b6 [] _ (jY [⟨127,[.iptr [.imm 1 (aW ((cQ f.Glyphs.length).map D))]],[],(dm ((cQ f.Glyphs.length).map D) qU).1,(dm ((cQ f.Glyphs.length).map D) qU).2⟩,⟨130,[.iptr [.imm 1 (aW ((cQ f.Glyphs.length).map P))]],[],(dm ((cQ f.Glyphs.length).map P) rq).1,(dm ((cQ f.Glyphs.length).map P) rq).2⟩] ⟨⟨inferInstance,zX _⟩,fun _=>⟨⟨inferInstance,zY _⟩,fun _=>trivial⟩⟩) rfl rfl (Lz _) rfl fun c L1 hc=>?_
  rw [kR] at hc
  have hc:c=cD (nw f.Glyphs.length D P):=hc
  subst hc
  unfold cD
  repeat' (first|refine L3 ?_|refine KG a4 HY ?_)
  exact KX KA (.inl ⟨D,P,hdeep,hacy,rfl⟩)
theorem lf {err:Nat→Int}:∀(k i:Nat),(du err k i).1=0↔∀j,i≤j→j < i+k→err j=0
 | 0,i=>by simp only [du,true_iff];intro j h1 h2;omega
 | k+1,i=>by
  simp only [du]
  by_cases h:err i=0
  ·rw [if_pos h,lf k (i+1)]
   constructor
   ·intro hh j h1 h2
    by_cases e:j=i
    ·subst e;exact h
    ·exact hh j (by omega) (by omega)
   ·intro hh j h1 h2;exact hh j (by omega) (by omega)
  ·rw [if_neg h]
   constructor
   ·intro hh;exact absurd hh h
   ·intro hh;exact hh i (Nat.le_refl _) (by omega)
theorem qZ {α:Type} {l:List α} {w:Nat→α→Int}:(dm l w).1=0↔∀i x,l[i]?=some x→w i x=0:=by
 unfold dm dx
 rw [lf]
 constructor
 ·intro h i x hx
  have:=h i (Nat.zero_le _) (by have:=(Ko hx).1;omega)
  rwa [iR hx] at this
 ·intro h j _ hj
  obtain ⟨x,hx⟩:∃x,l[j]?=some x:=⟨_,Kz (by omega)⟩
  rw [iR hx]
  exact h j x hx
theorem ji {α:Type} {most:Int} {l:List α} {w:Nat→α→Int}:(cC most l w).1=0↔(l.length:Int)≤most∧∀i x,l[i]?=some x→w i x=0:=by
 have h:=qZ (l:=l) (w:=w)
 unfold dm at h
 unfold cC dp
 by_cases hm:(l.length:Int) > most
 ·rw [if_pos hm]
  constructor
  ·intro hh;cases hh
  ·intro hh;omega
 ·rw [if_neg hm,h]
  exact ⟨fun hh=>⟨by omega,hh⟩,fun hh=>hh.2⟩
theorem dT:∀{l:List (Int×Int)},(gV l).1=0↔∀x∈l,x.1=0
 | []=>by simp [gV]
 | x::r=>by
  unfold gV
  by_cases h:x.1=0
  ·rw [if_pos h,dT]
   constructor
   ·intro hh y hy
    rcases List.mem_cons.1 hy with rfl | hy
    ·exact h
    ·exact hh y hy
   ·intro hh y hy;exact hh y (Ks _ hy)
  ·rw [if_neg h]
   constructor
   ·intro hh;exact absurd hh h
   ·intro hh;exact hh x (List.mem_cons_self ..)
theorem jI {f:aZ} (h:(cC 400 f.Glyphs (eE f)).1=0):wC f:=by
 obtain ⟨h1,h2⟩:=ji.1 h
 have hg:∀gl∈f.Glyphs,∃name,oT f gl name=0:=fun gl hgl=>by
  obtain ⟨i,hi⟩:=List.mem_iff_getElem?.1 hgl
  exact ⟨_,h2 i gl hi⟩
 have hgl:∀gl∈f.Glyphs,jh gl=0∧(cC 8 gl.Parts (mK f)).1=0:=fun gl hm=>by
  obtain ⟨name,hn⟩:=hg gl hm
  unfold oT at hn
  rw [dT] at hn
  exact ⟨hn (jh gl,0) (by simp),hn (cC 8 gl.Parts (mK f)) (by simp)⟩
 refine ⟨⟨by omega,fun gl hm=>?_⟩,fun gl hm=>?_,fun gl hm p hp=>?_⟩
 ·have:=(ji.1 (hgl gl hm).2).1;omega
 ·have h3:=(hgl gl hm).1
  unfold jh at h3
  split at h3
  ·cases h3
  ·split at h3
   ·cases h3
   ·omega
 ·obtain ⟨i,hi⟩:=List.mem_iff_getElem?.1 hp
  have h3:=(ji.1 (hgl gl hm).2).2 i p hi
  unfold mK at h3
  split at h3
  ·cases h3
  ·rename_i hh
   simpa using hh
theorem A7 {f:aZ} (hf:wC f) (ha:lq f.Glyphs.length (prt f)) {D P D' P':Int→Int} (h:kw f D P) (h':kw f D' P'):∀z:Int,0≤z→z < f.Glyphs.length→D z=D' z∧P z=P' z:=by
 obtain ⟨r,hr⟩:=ha
 have:∀(k:Nat) (z:Int),r z < k→0≤z→z < f.Glyphs.length→D z=D' z∧P z=P' z:=by
  intro k
  induction k with
  | zero=>intro z hk;exact absurd hk (Nat.not_lt_zero _)
  | succ k ih=>
   intro z hk h0 h1
   obtain ⟨gl,hgl⟩:∃g,f.Glyphs[z.toNat]?=some g:=⟨_,Kz (by omega)⟩
   have hsm:∀p∈gl.Parts,D p.Glyph=D' p.Glyph∧P p.Glyph=P' p.Glyph:=fun p hp=>by
    have hin:=qf.1 (hf.there gl (Kw hgl) p hp)
    have:=hr z h0 h1 p.Glyph (by rw [uu hf hgl];exact List.mem_map_of_mem hp)
    exact ih p.Glyph (by omega) hin.1 hin.2
   obtain ⟨h2,h3⟩:=h z h0 h1 gl hgl
   obtain ⟨h4,h5⟩:=h' z h0 h1 gl hgl
   rw [h2,h3,h4,h5]
   exact ⟨vk fun p hp=>(hsm p hp).1,vY fun p hp=>(hsm p hp).2⟩
 intro z h0 h1
 exact this (r z+1) z (by omega) h0 h1
theorem xb {n:Nat} {D P D' P':Int→Int} (h:∀z:Int,0≤z→z < n→D z=D' z∧P z=P' z):nw n D P=nw n D' P':=by
 unfold nw
 rw [List.map_congr_left (f:=D) (g:=D') fun z hz=>(h z (fA.1 hz).1 (fA.1 hz).2).1,List.map_congr_left (f:=P) (g:=P') fun z hz=>(h z (fA.1 hz).1 (fA.1 hz).2).2]
open Classical in
noncomputable def ny (f:aZ):Int×Int:=if h:∃q:(Int→Int)×(Int→Int),kw f q.1 q.2 then nw f.Glyphs.length h.choose.1 h.choose.2 else (33,0)
theorem qR {f:aZ} (hf:wC f) (ha:lq f.Glyphs.length (prt f)) {D P:Int→Int} (h:kw f D P):ny f=nw f.Glyphs.length D P:=by
 unfold ny
 have hex:∃q:(Int→Int)×(Int→Int),kw f q.1 q.2:=⟨(D,P),h⟩
 rw [dif_pos hex]
 exact xb (A7 hf ha hex.choose_spec h)
theorem EX (f:aZ) (hf:wC f) (ha:lq f.Glyphs.length (prt f)):AC Tryz.prog 55 [.iptr (cJ f)] [] fun c _=>c=cD ((ny f).1,(ny f).2):=by
 refine aN Tryz.func55 rfl Tryz.ntmps55 rfl fun B=>?_
 repeat' (first|refine L3 ?_|refine KG a4 HY ?_)
 refine b6 [] [] (vj f hf (.inl ha)) rfl rfl (Lz _) rfl fun c L1 hc=>?_
 rcases hc with ⟨D,P,h1,h2,hc⟩ | ⟨hna,_⟩
 ·rw [←qR hf ha h1] at hc
  subst hc
  unfold cD
  repeat' (first|refine L3 ?_|refine KG a4 HY ?_)
  exact bf rfl rfl rfl rfl
 ·exact absurd ha hna
def yM (_:Nat) (l:List gr):Int:=o4 l
def p9 (f:aZ) (_:Nat) (r:List fk):Int:=B2 f.Axes.length r
def jz (f:aZ) (_:Nat) (l:aL):Int:=ml f l
noncomputable def CO (f:aZ):List (Int×Int):=[(pu f,0),cC 400 f.Glyphs (eE f),ny f,cC 1000 f.Chars (jw f),cC 40 f.Lookups (jz f),cC 20 f.Features (kJ f),cC 3 f.Axes (kD f),cC 16 f.Regions (p9 f),cC 20 f.Funcs yM,cC 64 f.Cvt Ct]
noncomputable def nB (f:aZ):Int×Int:=gV (CO f)
noncomputable def yK (f:aZ) (m1 m2 m3:Nat):List Lk:=[⟨48,[.iptr (cJ f)],[],pu f,0⟩,
 ⟨112,[.iptr [.imm 9 (f.Glyphs.map bT)],.iptr [aF 400],.iptr [.fn 51 [.iptr (cJ f),.iptr [.sc (.map (some m1))]]]],[(m1,dc .string (cZ (kN f)))],(cC 400 f.Glyphs (eE f)).1,(cC 400 f.Glyphs (eE f)).2⟩,
 ⟨55,[.iptr (cJ f)],[],(ny f).1,(ny f).2⟩,
 ⟨132,[.iptr [.imm 2 (f.Chars.map eB)],.iptr [aF 1000],.iptr [.fn 58 [.iptr (cJ f)]]],[],(cC 1000 f.Chars (jw f)).1,(cC 1000 f.Chars (jw f)).2⟩,
 ⟨134,[.iptr [.imm 3 (f.Lookups.map bw)],.iptr [aF 40],.iptr [.fn 61 [.iptr (cJ f)]]],[],(cC 40 f.Lookups (jz f)).1,(cC 40 f.Lookups (jz f)).2⟩,
 ⟨142,[.iptr [.imm 2 (f.Features.map cy)],.iptr [aF 20],.iptr [.fn 64 [.iptr (cJ f),.iptr [.sc (.map (some m2))]]]],[(m2,dc .string (cZ (m6 f)))],(cC 20 f.Features (kJ f)).1,(cC 20 f.Features (kJ f)).2⟩,
 ⟨145,[.iptr [.imm 4 (f.Axes.map cX)],.iptr [aF 3],.iptr [.fn 68 [.iptr [.sc (.map (some m3))]]]],[(m3,dc .string (cZ (iT f)))],(cC 3 f.Axes (kD f)).1,(cC 3 f.Axes (kD f)).2⟩,
 ⟨147,[.iptr [.imm 1 (f.Regions.map bZ)],.iptr [aF 16],.iptr [.fn 71 [.iptr (cJ f)]]],[],(cC 16 f.Regions (p9 f)).1,(cC 16 f.Regions (p9 f)).2⟩,
 ⟨151,[.iptr [.imm 1 (f.Funcs.map dU)],.iptr [aF 20],.iptr [.sc (.func (.func 74) #[] #[])]],[],(cC 20 f.Funcs yM).1,(cC 20 f.Funcs yM).2⟩,
 ⟨155,[.iptr [.imm 1 (f.Cvt.map zR)],.iptr [aF 64],.iptr [.sc (.func (.func 77) #[] #[])]],[],(cC 64 f.Cvt Ct).1,(cC 64 f.Cvt Ct).2⟩]
theorem xl (f:aZ) (m1 m2 m3:Nat) (hA:(cC 400 f.Glyphs (eE f)).1=0→lq f.Glyphs.length (prt f)):xD (yK f m1 m2 m3):=by
 refine ⟨⟨inferInstance,Ao f⟩,fun _=>⟨⟨inferInstance,?_⟩,fun h1=>⟨⟨inferInstance,EX f (jI h1) (hA h1)⟩,fun _=>⟨⟨inferInstance,?_⟩,fun _=>⟨⟨inferInstance,?_⟩,fun _=>⟨⟨inferInstance,?_⟩,fun _=>⟨⟨inferInstance,?_⟩,fun _=>⟨⟨inferInstance,?_⟩,fun _=>⟨⟨inferInstance,?_⟩,fun _=>⟨⟨inferInstance,?_⟩,fun _=>trivial⟩⟩⟩⟩⟩⟩⟩⟩⟩⟩
 ·exact FX (u:= .fn 51 [.iptr (cJ f),.iptr [.sc (.map (some m1))]]) rfl f.Glyphs 400 (gh f.Glyphs (eE f)) (fun _ L=>L=[(m1,dc .string (cZ (kN f)))]) _ rfl fun _=>sj fun i x _=>xt f i x m1
 ·exact FY (u:= .fn 58 [.iptr (cJ f)]) rfl f.Chars 1000 (gh f.Chars (jw f)) (fun _ _=>True) [] trivial fun hm=>dw fun i x hx=>zV f i x hx hm
 ·exact FZ (u:= .fn 61 [.iptr (cJ f)]) rfl f.Lookups 40 (gh f.Lookups (jz f)) (fun _ _=>True) [] trivial fun _=>dw fun i x _=>u6 f i x
 ·exact G0 (u:= .fn 64 [.iptr (cJ f),.iptr [.sc (.map (some m2))]]) rfl f.Features 20 (gh f.Features (kJ f)) (fun _ L=>L=[(m2,dc .string (cZ (m6 f)))]) _ rfl fun _=>sj fun i x _=>Ac f i x m2
 ·exact G1 (u:= .fn 68 [.iptr [.sc (.map (some m3))]]) rfl f.Axes 3 (gh f.Axes (kD f)) (fun _ L=>L=[(m3,dc .string (cZ (iT f)))]) _ rfl fun _=>sj fun i x _=>zJ f i x m3
 ·exact G2 (u:= .fn 71 [.iptr (cJ f)]) rfl f.Regions 16 (gh f.Regions (p9 f)) (fun _ _=>True) [] trivial fun _=>dw fun i x _=>w9 f i x
 ·exact G3 (u:= .sc (.func (.func 74) #[] #[])) (g:=74) (caps:=[]) rfl f.Funcs 20 (gh f.Funcs yM) (fun _ _=>True) [] trivial fun _=>dw fun i x _=>zW i x
 ·exact G4 (u:= .sc (.func (.func 77) #[] #[])) (g:=77) (caps:=[]) rfl f.Cvt 64 (gh f.Cvt Ct) (fun _ _=>True) [] trivial fun _=>dw fun i x _=>Cr i x
set_option maxHeartbeats 4000000 in
theorem Fs (f:aZ) (hA:(cC 400 f.Glyphs (eE f)).1=0→lq f.Glyphs.length (prt f)):AC Tryz.prog 25 [df f] [] fun c _=>c=cD (nB f):=by
 refine aN Tryz.func25 rfl Tryz.ntmps25 rfl fun B=>?_
 repeat' (first|refine L3 ?_|refine KG a4 HY ?_|refine bA ?_|fail)
 refine b6 [] _ (CJ f.Glyphs) rfl rfl (Lz _) rfl fun c L1 ⟨m1,hc,hL⟩=>?_
 subst hc;subst hL
 repeat' (first|refine L3 ?_|refine KG a4 HY ?_|(apply aM;first|refine KL 4 a4 0 KF ?_|refine KL 4 a4 1 KF ?_|refine KL 4 a4 2 KF ?_|refine KL 5 a4 0 KF ?_|refine KL 5 a4 1 KF ?_|refine KL 5 a4 2 KF ?_|refine KL 6 a4 0 KF ?_|refine KL 6 a4 1 KF ?_|refine KL 6 a4 2 KF ?_|refine KH a4 0 KE ?_|refine KH a4 1 KE ?_|refine KH a4 2 KE ?_|refine KH a4 3 KE ?_|fail)|refine bq a4 fun _=>?_|fail)
 refine b6 [] _ (CK f.Features) rfl rfl (Lz _) rfl fun c L1 ⟨m2,hc,hL⟩=>?_
 subst hc;subst hL
 repeat' (first|refine L3 ?_|refine KG a4 HY ?_|(apply aM;first|refine KL 4 a4 0 KF ?_|refine KL 4 a4 1 KF ?_|refine KL 4 a4 2 KF ?_|refine KL 5 a4 0 KF ?_|refine KL 5 a4 1 KF ?_|refine KL 5 a4 2 KF ?_|refine KL 6 a4 0 KF ?_|refine KL 6 a4 1 KF ?_|refine KL 6 a4 2 KF ?_|refine KH a4 0 KE ?_|refine KH a4 1 KE ?_|refine KH a4 2 KE ?_|refine KH a4 3 KE ?_|fail)|refine bq a4 fun _=>?_|fail)
 refine b6 [] _ (CL f.Axes) rfl rfl (Lz _) rfl fun c L1 ⟨m3,hc,hL⟩=>?_
 subst hc;subst hL
 repeat' (first|refine L3 ?_|(apply aM;first|refine KL 4 a4 0 KF ?_|refine KL 4 a4 1 KF ?_|refine KL 4 a4 2 KF ?_|refine KL 5 a4 0 KF ?_|refine KL 5 a4 1 KF ?_|refine KL 5 a4 2 KF ?_|refine KL 6 a4 0 KF ?_|refine KL 6 a4 1 KF ?_|refine KL 6 a4 2 KF ?_|refine KH a4 0 KE ?_|refine KH a4 1 KE ?_|refine KH a4 2 KE ?_|refine KH a4 3 KE ?_|fail)|refine bq a4 fun _=>?_|fail)
 refine bn 36 [(0,.v),(1,.v),(2,.v),(3,.v),(4,.v),(5,.v),(6,.v),(7,.v),(8,.v),(9,.v),(10,.v),(11,.v),(12,.v),(13,.v),(14,.v),(15,.v),(16,.v),(17,.v),(18,.v),(19,.v),(20,.v),(21,.v),(22,.v),(23,.v),(24,.v),(25,.v),(26,.v),(27,.v),(28,.v),(29,.v),(30,.v),(31,.v),(32,.v),(33,.e),(34,.v),(35,.v)] none ?_ trivial rfl (by kernel_rfl) (by kernel_rfl) (by kernel_rfl) bI (by kernel_rfl) rfl
 repeat' (first|refine aB ?_|refine aX a4 ?_|(apply dh;refine dK ?_)|fail)
 refine dK (hc:=⟨Hz f.Cvt 64⟩) ?_
 repeat' (first|refine aB ?_|refine eD a4 ?_|fail)
 refine fG (L:=[(m3,dc .string (cZ (iT f))),(m2,dc .string (cZ (m6 f))),(m1,dc .string (cZ (kN f)))]) _ [] (jY (yK f m1 m2 m3) (xl f m1 m2 m3 hA)) rfl rfl (by rw [List.append_nil];exact (List.reverse_perm _).symm) trivial fun c L1 hc=>?_
 rw [kR] at hc
 have hc:c=cD (nB f):=hc
 subst hc
 unfold cD
 repeat' (first|refine aB ?_|refine aX a4 ?_|fail)
 refine KU [50,51] HY ?_
 repeat' (first|refine L3 ?_|refine a7 ?_|refine KG a4 HY ?_)
 exact bf rfl rfl rfl rfl
end Go.Proofs.YtpmdfoaadejmkaaGreatDoor
namespace Go.Proofs.YtpmdfoaadejmkaaGreatDoor
open Go.RowKit
attribute [local irreducible] AT bJ AX AO Av Kt bi dq DA cG
def IN (c:UInt8) (m:Bool):bD:=⟨⟨#[c]⟩,0,m,[],[],[],[],[],[]⟩
def ur:List bD:=[IN 97 false,IN 98 false,IN 99 false,IN 100 false,IN 109 true]
def fO (ls:List aL):aZ:=⟨1000,ur,[],ls,[],[],[],[],[]⟩
def Eb:List aL:=[⟨3,false,[⟨[],[[0],[1]],[],[2],[],0⟩]⟩,⟨1,false,[⟨[],[[2]],[],[3],[],0⟩]⟩]
theorem rN (ls:List aL):lq (fO ls).Glyphs.length (prt (fO ls)):=by
 refine ⟨fun _=>0,fun g h0 h1 p hp=>?_⟩
 exfalso
 have hg:g.toNat < 5:=by have:g < 5:=h1;omega
 unfold prt at hp
 obtain ⟨x,hx⟩:∃x,(fO ls).Glyphs[g.toNat]?=some x:=⟨_,Kz hg⟩
 have hm:x.Parts=[]:=by
  have:∀y∈ur,y.Parts=[]:=by decide+kernel
  exact this x (Kw hx)
 rw [hx] at hp
 dsimp only at hp
 rw [hm] at hp
 simp at hp
theorem pG (ls:List aL):(cC 400 ur (eE (fO ls))).1=0:=by
 have h0:(cC 400 ur (eE (fO []))).1=0:=by decide
 exact h0
theorem AR (ls:List aL):kw (fO ls) (fun _=>0) (fun _=>0):=by
 intro z h0 h1 gl hgl
 have h1:z < 5:=h1
 have:z=0∨z=1∨z=2∨z=3∨z=4:=by omega
 rcases this with rfl | rfl | rfl | rfl | rfl <;> (injection hgl with e;subst e;exact ⟨by decide,by decide⟩)
theorem w3 {ls:List aL} (h:(cC 40 ls (jz (fO ls))).1=0):(nB (fO ls)).1=0:=by
 refine dT.2 fun x hx=>?_
 have hc:(ny (fO ls)).1=0:=by
  rw [qR (jI (pG ls)) (rN ls) (AR ls)]
  show (nw 5 (fun _=>0) (fun _=>0)).1=0
  decide
 simp only [CO,List.mem_cons,List.not_mem_nil,or_false] at hx
 rcases hx with rfl | rfl | rfl | rfl | rfl | rfl | rfl | rfl | rfl | rfl
 ·rfl
 ·exact pG ls
 ·exact hc
 ·rfl
 ·exact h
 ·rfl
 ·rfl
 ·rfl
 ·rfl
 ·rfl
def Dh (ls:List aL):Bool:=decide ((cC 40 ls (jz (fO ls))).1=0)
theorem lO:∀(l:List Int) (i:Nat) (g:Int),fI i (l++[g])=fI i l++[⟨g,(i+l.length:Nat),0,0,0,0⟩]
 | [],i,g=>rfl
 | x::l,i,g=>by
  rw [Kr,fI,lO l (i+1) g,fI,Kr,List.length_cons,show i+1+l.length=i+(l.length+1) by omega]
theorem mF:∀(l:List Int) (i:Nat),(fI i l).length=l.length
 | [],_=>rfl
 | x::l,i=>by rw [fI,List.length_cons,mF l,List.length_cons]
theorem Ar (l:List Int) (hl:l.length≤1000000):bU Tryz.prog 29 [.imm 1 (aW l)] (.imm 6 ((fh l).map bO)):=by
 refine aN Tryz.func29 rfl Tryz.ntmps29 rfl fun B=>?_
 have hil:=bb l
 repeat' (first|refine L3 ?_|refine ak ?_|refine KG a4 HY ?_|refine rE (d:=5) a4 fun _=>?_|fail)
 refine aR [0] (α:=Nat×Option (Nat×Nat)) (fun s=>[(4,aF s.1),(3,.vec s.2 6 ((fh (l.take s.1)).map bO))]) (fun s=>s.1≤l.length) (fun s=>tok s.2 67 6 s.1) (fun s=>l.length - s.1) (0,some (_,0)) rfl ⟨rfl,rfl,trivial⟩ (Nat.zero_le _) (fun _ _ h=>h) ?_
 rintro ⟨i,q⟩ hi
 dsimp only at hi ⊢
 try dsimp only [Kr,Kq,Kp,Lv]
 repeat' (first|refine L3 ?_|refine KG a4 HY ?_)
 refine aw rfl (fun h1=>?_) (fun h1=>?_)
 ·have hi2:i < l.length:=by have:=Ky h1;omega
  obtain ⟨g,hg⟩:∃z,l[i]?=some z:=⟨_,Kz hi2⟩
  have hgg:=bP hg
  have hml:((fh (l.take i)).map bO).length=i:=by unfold fh;rw [Ku,mF,List.length_take];omega
  have hsn:(fh (l.take i)).map bO++[bO ⟨g,(i:Nat),0,0,0,0⟩]=(fh (l.take (i+1))).map bO:=by
   rw [List.take_add_one,hg]
   unfold fh
   show _=(fI 0 (l.take i++[g])).map bO
   rw [lO,List.map_append,List.length_take,Nat.min_eq_left (by omega),Nat.zero_add]
   rfl
  generalize (fh (l.take i)).map bO=A0 at *
  clear h1
  repeat' (first|refine L3 ?_|refine ak ?_|refine KG a4 HY ?_|(apply aQ;first|refine aO a4 ?_|refine aG a4 ?_)|refine bW a4 ?_|fail)
  refine bV a4 [] rfl rfl rfl rfl (by rw [hml,List.append_nil]) (by rw [hml];simp;omega) (by rw [hml];simp;omega) rfl fun q'=>?_
  repeat' (first|refine L3 ?_|refine KG a4 HY ?_|(apply aU;refine aT ?_)|fail)
  refine aD (i+1,q') rfl ⟨by rw [Kv];rfl,by dsimp only;rw [←hsn];rfl,trivial⟩ hi2 (by dsimp only;omega) (fun _ _ h=>?_)
  rw [List.length_append,hml,List.append_nil] at h
  exact h
 ·have hi2:i=l.length:=by have:=Kx h1;omega
  subst hi2
  rw [List.take_length]
  clear h1
  repeat' (first|refine L3 ?_|refine KG a4 HY ?_)
  refine bj (bS (t:=2) (c':= .imm 6 ((fh l).map bO)) rfl fun σ v h=>VR.im h) ?_
  refine dH (List.nil_sublist _) ?_
  exact KQ KA
theorem xu (run:List aJ) (l:List Int) (hl:l.length≤1000000):bU Tryz.prog 30 [.imm 6 (run.map bO),.imm 1 (aW l)] (d6 (decide (run.map aJ.Glyph=l))):=by
 refine aN Tryz.func30 rfl Tryz.ntmps30 rfl fun B=>?_
 have hil:=bb l
 have hrl:(run.map bO).length=run.length:=Ku ..
 repeat' (first|refine L3 ?_|refine KG a4 HY ?_)
 refine aw rfl (fun h1=>?_) (fun h1=>?_)
 ·have hne:¬run.length=l.length:=by have:=Ky h1;omega
  rw [decide_eq_false (fun e=>hne (by rw [←e,Ku]))]
  repeat' (first|refine L3 ?_|refine KG a4 HY ?_)
  exact KQ KA
 ·have heq:run.length=l.length:=by have:=Kx h1;omega
  clear h1
  repeat' (first|refine L3 ?_|refine ak ?_|refine KG a4 HY ?_)
  refine aR [0,1] (α:=Nat) (fun i=>[(5,aF i)]) (fun i=>i≤l.length∧(run.map aJ.Glyph).take i=l.take i) (fun _=>[]) (fun i=>l.length - i) 0 rfl ⟨rfl,trivial⟩ ⟨Nat.zero_le _,rfl⟩ (fun _ _ h=>h) ?_
  rintro i ⟨hi,hti⟩
  try dsimp only [Kr,Kq,Kp,Lv]
  repeat' (first|refine L3 ?_|refine KG a4 HY ?_)
  refine aw rfl (fun h1=>?_) (fun h1=>?_)
  ·have hi2:i < l.length:=by have:=Ky h1;omega
   obtain ⟨g,hg⟩:∃z,l[i]?=some z:=⟨_,Kz hi2⟩
   obtain ⟨x,hx⟩:∃z,run[i]?=some z:=⟨_,Kz (by omega)⟩
   have hgg:=bP hg
   have hxg:(run.map bO)[i]?=some (bO x):=by simp [hx]
   have hmg:(run.map aJ.Glyph)[i]?=some x.Glyph:=by simp [hx]
   clear h1
   repeat' (first|refine L3 ?_|refine ak ?_)
   refine bn 9 [(0,.v),(1,.v),(2,.v),(3,.v),(4,.v),(5,.v),(6,.v),(7,.v),(8,.v)] none ?_ trivial rfl (by kernel_rfl) (by kernel_rfl) (by kernel_rfl) bI (by kernel_rfl) rfl
   repeat' (first|refine aB ?_|refine aX a4 ?_|(apply cm;refine cA a4 ?_)|fail)
   refine KU [0,1,5,21,25] HY ?_
   repeat' (first|refine L3 ?_|refine a7 ?_|refine KG a4 HY ?_)
   refine aw rfl (fun h1=>?_) (fun h1=>?_)
   ·have hne:x.Glyph≠g:=Ky h1
    rw [decide_eq_false (fun e=>hne (by rw [e,hg] at hmg;cases hmg;rfl))]
    repeat' (first|refine L3 ?_|refine KG a4 HY ?_)
    exact KQ KA
   ·have heg:x.Glyph=g:=by have h1':¬x.Glyph≠g:=Kx h1;exact Classical.not_not.1 h1'
    repeat' (first|refine L3 ?_|refine KG a4 HY ?_|(apply aU;refine aT ?_)|fail)
    exact aD (i+1) rfl ⟨by rw [Kv];rfl,trivial⟩ ⟨hi2,by rw [List.take_add_one,List.take_add_one,hti,hg,hmg,heg]⟩ (by omega) (fun _ _ h=>h)
  ·have hi2:i=l.length:=by have:=Kx h1;omega
   subst hi2
   rw [List.take_length,List.take_of_length_le (by rw [Ku];omega)] at hti
   rw [decide_eq_true hti]
   repeat' (first|refine L3 ?_|refine KG a4 HY ?_)
   exact KQ KA
theorem Ae {f:aZ} (hr:(nB f).1=0) (ha:lq f.Glyphs.length (prt f)):AC Tryz.prog 25 [df f] [] fun c _=>∃n:Int,c=cD (0,n):=
 AC.mono (Fs f fun _=>ha) fun c L hc=>⟨(nB f).2,by rw [hc,←hr]⟩
def E8 (N:Nat) (s:List Int):Bool:=decide (s.Pairwise (· < ·)) && s.all fun g=>decide (0≤g) && decide (g < (N:Int))
def E2 (N:Nat) (r:bh):Bool:=r.Back.all (E8 N) && (r.In.all (E8 N) && (r.Ahead.all (E8 N) && (decide (r.Back.length≤200) && (decide (r.In.length+r.Ahead.length≤200) && (decide (r.Out.length≤1000000) && (decide (r.Calls.length≤1000000) && r.Calls.all fun c=>decide (0≤c.At) && decide (c.At≤1000000)))))))
def yV (N:Nat) (l:aL):Bool:=decide (l.Rules.length≤6) && l.Rules.all (E2 N)
theorem uz {N:Nat} {s:List Int} (h:E8 N s=true):gL s∧∀g∈s,0≤g∧g < (N:Int):=by
 unfold E8 at h
 simp only [Bool.and_eq_true,decide_eq_true_eq,List.all_eq_true] at h
 exact h
structure BJ (N:Nat) (r:bh):Prop where
 b:uI N r
 out:r.Out.length≤1000000
 calls:r.Calls.length≤1000000
 at_:∀c∈r.Calls,0≤c.At∧c.At≤1000000
theorem E3 {N:Nat} {r:bh} (h:E2 N r=true):BJ N r:=by
 unfold E2 at h
 simp only [Bool.and_eq_true,decide_eq_true_eq,List.all_eq_true] at h
 obtain ⟨h1,h2,h3,h4,h5,h6,h7,h8⟩:=h
 exact ⟨⟨fun s hs=>uz (h1 s hs),fun s hs=>uz (h2 s hs),fun s hs=>uz (h3 s hs),h4,h5⟩,h6,h7,h8⟩
structure iz (f:aZ):Prop where
 glyphs:0 < f.Glyphs.length∧f.Glyphs.length≤65536
 lookups:f.Lookups.length≤1000000
 few:∀l∈f.Lookups,l.Rules.length≤6
 rule:∀l∈f.Lookups,∀r∈l.Rules,BJ f.Glyphs.length r
theorem iz.new {f:aZ} (h:iz f):Gp f:=by
 refine ⟨h.glyphs,h.lookups,fun l hl=>⟨h.few l hl,fun r hr=>(h.rule l hl r hr).b⟩,fun l hl r hr=>?_⟩
 have hb:=h.rule l hl r hr
 have hg:=h.glyphs.2
 exact ⟨⟨by have:=hb.b.long;omega,fun s hs=>by have:=fD (gm (hb.b.in_ s hs).1) (hb.b.in_ s hs).2;omega⟩,hb.out,hb.calls⟩
theorem iz.eng {f:aZ} (h:iz f) {E:pZ} (hE:I4 f E):mD E:=⟨hE.auto,fun e he r hr hin=>by
 have hl:e.l∈f.Lookups:=by rw [←hE.ls];exact List.mem_map.2 ⟨e,he,rfl⟩
 have hb:=h.rule e.l hl r hr
 exact ⟨hin,hb.out,hb.calls,hb.at_⟩⟩
theorem DF {f:aZ} (h:iz f) (hr:(nB f).1=0) (ha:lq f.Glyphs.length (prt f)):AC Tryz.prog 15 [df f] [] fun c _=>∃E,mD E∧E.ls=f.Lookups∧E.ms=f.Glyphs.map bD.Mark∧c= .tup [.iptr (eC E),aF 0]:=
 AC.mono (HJ f h.new (Ae hr ha)) fun c L ⟨E,hE,hc⟩=>⟨E,h.eng hE,hE.ls,hE.ms,hc⟩
theorem HN {ls:List aL} (h:ls.all (yV 5)=true) (hl:ls.length≤1000000):iz (fO ls):=by
 rw [List.all_eq_true] at h
 have hh:∀l∈ls,l.Rules.length≤6∧∀r∈l.Rules,BJ 5 r:=fun l hl=>by
  have:=h l hl
  unfold yV at this
  simp only [Bool.and_eq_true,decide_eq_true_eq,List.all_eq_true] at this
  exact ⟨this.1,fun r hr=>E3 (this.2 r hr)⟩
 exact ⟨⟨Nat.succ_pos _,by show (5:Nat)≤65536;omega⟩,hl,fun l hl=>(hh l hl).1,fun l hl=>(hh l hl).2⟩
theorem AU {ls:List aL} (h:ls.all (yV 5)=true) (hl:ls.length≤1000000) (hr:(nB (fO ls)).1=0):AC Tryz.prog 15 [df (fO ls)] [] fun c _=>∃E,mD E∧E.ls=ls∧E.ms=kV∧c= .tup [.iptr (eC E),aF 0]:=
 AC.mono (DF (HN h hl) hr (rN ls)) fun c L ⟨E,h1,h2,h3,h4⟩=>⟨E,h1,h2,h3,h4⟩
theorem AS (ls:List aL):bU Tryz.prog 28 [.imm 3 (ls.map bw)] (df (fO ls)):=by
 refine aN Tryz.func28 rfl Tryz.ntmps28 rfl fun B=>?_
 repeat' (first|refine L3 ?_|refine KG a4 HY ?_|(apply aM;first|refine KH a4 0 KE ?_|refine KH a4 1 KE ?_|refine KH a4 2 KE ?_|refine KH a4 3 KE ?_|fail)|refine bq a4 fun _=>?_|refine bW a4 ?_|fail)
 refine bj (bG 0 (cs':=cJ (fO ls)) rfl fun σ vs h=>mE.vrs ?_ h) (yx a4 0 rfl rfl rfl rfl rfl rfl)
 repeat' first | exact da.refl _ | exact da.nil _ | exact True.intro | refine da.agg ?_ | refine da.imm ?_ | refine And.intro ?_ ?_
end Go.Proofs.YtpmdfoaadejmkaaGreatDoor
