/-
  The program: how deep glyphs are, and how many points they have.
-/
import Derived.Test.YtpmdfoaadejmkaaGreatDoorM24
import Derived.Test.YtpmdfoaadejmkaaGreatDoorM21
namespace Go.Proofs.YtpmdfoaadejmkaaGreatDoor
open Go.RowKit
attribute [local irreducible] AT bK AX AO Av Kt bh dw DA cK
def dF (D:Int→Int) (ps:List dM):Int:=ps.foldl (fun a p=>max a (D p.Glyph+1)) 0
def pF (P:Int→Int) (ps:List dM) (k:Int):Int:=ps.foldl (fun a p=>min (a+P p.Glyph) 1001) k
def eu (n:Nat) (D:Int→Int):List AV:=(cG n).map fun z=>aF (D z)
def il (D:Int→Int) (z v:Int):Int→Int:=fun q=>if q=z then v else D q
theorem lP {D:Int→Int} {z v:Int}:il D z v z=v:=by simp [il]
theorem kv {D:Int→Int} {z v q:Int} (h:q≠z):il D z v q=D q:=by simp [il,h]
theorem sW (D:Int→Int) (z v w:Int):il (il D z v) z w=il D z w:=by
 funext q
 unfold il
 by_cases e:q=z
 ·rw [if_pos e,if_pos e]
 ·rw [if_neg e,if_neg e,if_neg e]
theorem jX (n:Nat) (D:Int→Int):(eu n D).length=n:=by simp [eu,cG]
theorem jW {n:Nat} {D:Int→Int} {z:Int} (h0:0≤z) (h1:z < n):(eu n D)[0+z.toNat * 1]?=some (aF (D z)):=by
 rw [Nat.zero_add,Nat.mul_one]
 unfold eu
 rw [List.getElem?_map,jM (by omega),Option.map_some,show ((z.toNat:Nat):Int)=z by omega]
theorem mf {n:Nat} {D:Int→Int} {z v:Int} (h0:0≤z) (h1:z < n):(eu n D).set (0+z.toNat * 1) (aF v)=eu n (il D z v):=by
 rw [Nat.zero_add,Nat.mul_one]
 apply List.ext_getElem?
 intro i
 rw [List.getElem?_set,jX]
 unfold eu il
 by_cases hi:z.toNat=i
 ·subst hi
  rw [if_pos rfl,if_pos (by omega),List.getElem?_map,jM (by omega),Option.map_some,if_pos (by omega)]
 ·rw [if_neg hi,List.getElem?_map,List.getElem?_map]
  by_cases hn:i < n
  ·rw [jM hn,Option.map_some,Option.map_some,if_neg (by omega)]
  ·rw [List.getElem?_eq_none (by rw [eP];omega)];rfl
theorem oG (n:Nat):(List.replicate n [aF 0]).flatten=eu n fun _=>0:=by
 rw [xW (cG n) n (eP n).symm]
 unfold fM eu
 rw [List.take_zero,Js,Nat.sub_zero,eP,List.map_replicate]
 apply List.ext_getElem?
 intro i
 rw [List.getElem?_replicate,List.getElem?_map]
 by_cases h:i < n
 ·rw [if_pos h,jM h];rfl
 ·rw [if_neg h,List.getElem?_eq_none (by rw [eP];omega)];rfl
theorem E7 {D:Int→Int} {ps:List dM} {j:Nat} {p:dM} (h:ps[j]?=some p):dF D (ps.take (j+1))=max (dF D (ps.take j)) (D p.Glyph+1):=by
 unfold dF
 rw [List.take_add_one,h,Option.toList_some,List.foldl_append]
 rfl
theorem ES {P:Int→Int} {ps:List dM} {k:Int} {j:Nat} {p:dM} (h:ps[j]?=some p):pF P (ps.take (j+1)) k=min (pF P (ps.take j) k+P p.Glyph) 1001:=by
 unfold pF
 rw [List.take_add_one,h,Option.toList_some,List.foldl_append]
 rfl
theorem ml {α β:Type} {F G:α→β→α}:∀(l:List β) (a:α),(∀b∈l,∀a,F a b=G a b)→l.foldl F a=l.foldl G a
 | [],_,_=>rfl
 | b::l,a,h=>by rw [List.foldl_cons,List.foldl_cons,h b (List.mem_cons_self ..)];exact ml l _ fun c hc=>h c (Ju _ hc)
theorem uB {D D':Int→Int} {ps:List dM} (h:∀p∈ps,D p.Glyph=D' p.Glyph):dF D ps=dF D' ps:=ml ps 0 fun p hp a=>by rw [h p hp]
theorem vi {P P':Int→Int} {ps:List dM} {k:Int} (h:∀p∈ps,P p.Glyph=P' p.Glyph):pF P ps k=pF P' ps k:=ml ps k fun p hp a=>by rw [h p hp]
theorem HE {D:Int→Int} {m:Int} (h:∀z,0≤D z∧D z≤m):∀(ps:List dM),0≤dF D ps∧dF D ps≤m+1:=by
 intro ps
 have hm:0≤m:=by have:=h 0;omega
 have:∀(ps:List dM) (a:Int),0≤a→a≤m+1→0≤ps.foldl (fun a p=>max a (D p.Glyph+1)) a∧ps.foldl (fun a p=>max a (D p.Glyph+1)) a≤m+1:=by
  intro ps
  induction ps with
  | nil=>intro a h0 h1;exact ⟨h0,h1⟩
  | cons p ps ih=>intro a h0 h1;have:=h p.Glyph;exact ih (max a (D p.Glyph+1)) (by omega) (by omega)
 exact this ps 0 (by omega) (by omega)
theorem FR {P:Int→Int} {k:Int} (h:∀z,0≤P z∧P z≤1000000) (hk:0≤k∧k≤1000000) (ps:List dM):0≤pF P ps k∧pF P ps k≤1000000:=by
 unfold pF
 induction ps generalizing k with
 | nil=>exact hk
 | cons p ps ih=>have:=h p.Glyph;exact ih (k:=min (k+P p.Glyph) 1001) (by omega)
def jN (f:b7) (D P:Int→Int):Prop:=∀z:Int,0≤z→z < f.Glyphs.length→∀gl,f.Glyphs[z.toNat]?=some gl→D z=dF D gl.Parts∧P z=pF P gl.Parts gl.Points.length
structure vN (f:b7):Prop extends Few f where
 points:∀gl∈f.Glyphs,gl.Points.length≤1000000
 there:∀gl∈f.Glyphs,∀p∈gl.Parts,la f p.Glyph=true
theorem tQ {f:b7} (hf:vN f) {z:Int} {gl:bz} (h:f.Glyphs[z.toNat]?=some gl):prt f z=gl.Parts.map dM.Glyph:=by
 unfold prt
 rw [h]
 refine List.filter_eq_self.2 fun y hy=>?_
 obtain ⟨p,hp,rfl⟩:=List.mem_map.1 hy
 exact hf.there gl (Jx h) p hp
def qa (_:Nat) (levels:Int):Int:=dX (decide (levels > 4)) 34
def qJ (_:Nat) (all:Int):Int:=dX (decide (all≥1001)) 2
theorem wk (i:Nat) (n:Int):bJ Tryz.prog 129 [aF i,aF n] (aF (qa i n)):=by
 refine aN Tryz.func129 rfl Tryz.ntmps129 rfl fun B=>?_
 repeat' (first|refine JU ?_|refine JG a5 JA ?_|(apply bw;refine bn ?_)|fail)
 exact JN JB
theorem wl (i:Nat) (n:Int):bJ Tryz.prog 131 [aF i,aF n] (aF (qJ i n)):=by
 refine aN Tryz.func131 rfl Tryz.ntmps131 rfl fun B=>?_
 repeat' (first|refine JU ?_|refine JG a5 JA ?_|(apply bw;refine bn ?_)|fail)
 exact JN JB
theorem z6 (l:List Int):bJ Tryz.prog 127 [.iptr [.imm 1 (aW l)]] (cu (d5 l qa)):=by
 refine aN Tryz.func127 rfl Tryz.ntmps127 rfl fun B=>?_
 repeat' (first|refine JU ?_|refine JG a5 JA ?_)
 refine b9 [] [] (mS (u:= .sc (.func (.func 129) #[] #[])) (g:=129) (caps:=[]) rfl l _ (fun _ _=>True) [] trivial (da (fun i x _=>wk i x))) rfl rfl (Jp _) rfl fun c L1 hc=>?_
 have hc:c=cu (d5 l qa):=hc
 subst hc
 unfold cu
 repeat' (first|refine JU ?_|refine JG a5 JA ?_)
 exact JT JC
theorem z7 (l:List Int):bJ Tryz.prog 130 [.iptr [.imm 1 (aW l)]] (cu (d5 l qJ)):=by
 refine aN Tryz.func130 rfl Tryz.ntmps130 rfl fun B=>?_
 repeat' (first|refine JU ?_|refine JG a5 JA ?_)
 refine b9 [] [] (mS (u:= .sc (.func (.func 131) #[] #[])) (g:=131) (caps:=[]) rfl l _ (fun _ _=>True) [] trivial (da (fun i x _=>wl i x))) rfl rfl (Jp _) rfl fun c L1 hc=>?_
 have hc:c=cu (d5 l qJ):=hc
 subst hc
 unfold cu
 repeat' (first|refine JU ?_|refine JG a5 JA ?_)
 exact JT JC
structure vL (f:b7) (T:List Int) (i:Nat) (D P:Int→Int):Prop where
 deep:∀z,0≤D z∧D z≤i
 many:∀z,0≤P z∧P z≤1000000
 done:∀(j:Nat) (z:Int),j < i→T[j]?=some z→∀gl,f.Glyphs[z.toNat]?=some gl→D z=dF D gl.Parts∧P z=pF P gl.Parts gl.Points.length
 rest:∀z,z∉T.take i→D z=0
theorem vL.start {f:b7} {T:List Int}:vL f T 0 (fun _=>0) (fun _=>0):=⟨fun _=>by simp,fun _=>by simp,fun j _ h=>absurd h (Nat.not_lt_zero _),fun _ _=>rfl⟩
theorem vL.next {f:b7} {T:List Int} (hf:vN f) (hT:iX f.Glyphs.length (prt f) T) {i:Nat} {D P:Int→Int} (h:vL f T i D P) {x:Int} {gl:bz} (hx:T[i]?=some x) (hgl:f.Glyphs[x.toNat]?=some gl):vL f T (i+1) (il D x (dF D gl.Parts)) (il P x (pF P gl.Parts gl.Points.length)):=by
 have hgm:=Jx hgl
 have hnot:∀(j:Nat) (z:Int),j≤i→T[j]?=some z→∀g,f.Glyphs[z.toNat]?=some g→∀p∈g.Parts,p.Glyph≠x:=by
  intro j z hj hz g hg p hp e
  have h1:=hT.topo j z hz p.Glyph (by rw [tQ hf hg];exact List.mem_map_of_mem hp)
  rw [e] at h1
  obtain ⟨k,hk⟩:=List.mem_iff_getElem?.1 h1
  rw [List.getElem?_take] at hk
  split at hk
  ·rename_i hlt
   obtain ⟨k1,k2⟩:=Jq hk
   obtain ⟨i1,i2⟩:=Jq hx
   have e1:=hT.nodup.idxOf_getElem k k1
   have e2:=hT.nodup.idxOf_getElem i i1
   rw [k2] at e1
   rw [i2] at e2
   omega
  ·cases hk
 have hd:=HE h.deep gl.Parts
 have hp:=FR (k:=(gl.Points.length:Int)) h.many (by have:=hf.points gl hgm;omega) gl.Parts
 refine ⟨fun z=>?_,fun z=>?_,fun j z hj hz g hg=>?_,fun z hz=>?_⟩
 ·unfold il
  split
  ·omega
  ·have:=h.deep z;omega
 ·unfold il
  split
  ·exact hp
  ·exact h.many z
 ·rw [uB (D:=il D x (dF D gl.Parts)) (D':=D) fun p hp=>kv (hnot j z (by omega) hz g hg p hp),vi (P:=il P x (pF P gl.Parts gl.Points.length)) (P':=P) fun p hp=>kv (hnot j z (by omega) hz g hg p hp)]
  by_cases e:z=x
  ·subst e
   rw [hgl] at hg
   cases hg
   rw [lP,lP]
   exact ⟨rfl,rfl⟩
  ·rw [kv e,kv e]
   have hji:j < i:=by
    rcases Nat.lt_or_ge j i with h1 | h1
    ·exact h1
    ·have:j=i:=by omega
     subst this
     rw [hx] at hz
     cases hz
     exact absurd rfl e
   exact h.done j z hji hz g hg
 ·rw [List.take_add_one,hx,Option.toList_some,List.mem_append,List.mem_singleton] at hz
  rw [kv (fun e=>hz (.inr e))]
  exact h.rest z fun hm=>hz (.inl hm)
def mQ (n:Nat) (D P:Int→Int):Int×Int:=gG [d5 ((cG n).map D) qa,d5 ((cG n).map P) qJ]
set_option maxHeartbeats 8000000 in
theorem uA (f:b7) (hf:vN f) (hr:kK f.Glyphs.length (prt f)∨AC Tryz.prog 211 [bZ f] [] fun c _=>∃z:Int,c=aF z):AC Tryz.prog 56 [bZ f] [] fun c _=>(∃D P,jN f D P∧kK f.Glyphs.length (prt f)∧c=cu (mQ f.Glyphs.length D P))∨(¬kK f.Glyphs.length (prt f)∧∃z:Int,c=cu (33,z)):=by
 refine aN Tryz.func56 rfl Tryz.ntmps56 rfl fun B=>?_
 have hn:=hf.n
 have hml:(f.Glyphs.map bR).length=f.Glyphs.length:=Jv ..
 repeat' (first|refine JU ?_|refine JG a5 JA ?_|refine bf ?_|fail)
 refine b9 [] [] (CP f hf.toFew hr) rfl rfl (Jp _) rfl fun c L1 hc=>?_
 refine aJ (bA (List.nil_sublist _)) ?_
 rcases hc with ⟨T,hc,hT,hTl⟩ | ⟨hna,z,hc⟩
 rotate_left
 ·subst hc
  repeat' (first|refine JU ?_|refine JG a5 JA ?_|refine bD rfl ?_)
  exact JR JB (.inr ⟨hna,z,rfl⟩)
 subst hc
 have hall:=hT.all_of_len hTl
 have hacy:=hT.acyc hall
 have hTi:=aZ T
 repeat' (first|refine JU ?_|refine JG a5 JA ?_|refine bC rfl ?_)
 rw [hml]
 refine li a5 f.Glyphs.length rfl rfl rfl rfl rfl rfl rfl (by omega) (by omega) rfl fun bd=>?_
 rw [show (List.replicate f.Glyphs.length (List.map AV.sc [Value.int .i64 0])).flatten=eu f.Glyphs.length fun _=>0 from oG _]
 repeat' (first|refine JU ?_|refine JG a5 JA ?_|(apply aM;first|refine JI 7 a5 0 JF ?_|refine JI 7 a5 1 JF ?_|refine JI 7 a5 2 JF ?_|refine JI 8 a5 0 JF ?_|refine JI 8 a5 1 JF ?_|refine JI 8 a5 2 JF ?_|refine JI 12 a5 0 JF ?_|refine JI 12 a5 1 JF ?_|refine JI 12 a5 2 JF ?_|refine JH a5 0 JE ?_|refine JH a5 1 JE ?_|refine JH a5 2 JE ?_|refine JH a5 3 JE ?_|fail)|refine bj a5 fun _=>?_|fail)
 rw [hml]
 refine li a5 f.Glyphs.length rfl rfl rfl rfl rfl rfl rfl (by omega) (by omega) rfl fun bp=>?_
 rw [show (List.replicate f.Glyphs.length (List.map AV.sc [Value.int .i64 0])).flatten=eu f.Glyphs.length fun _=>0 from oG _]
 repeat' (first|refine JU ?_|refine am ?_|refine JG a5 JA ?_|(apply aM;first|refine JI 7 a5 0 JF ?_|refine JI 7 a5 1 JF ?_|refine JI 7 a5 2 JF ?_|refine JI 8 a5 0 JF ?_|refine JI 8 a5 1 JF ?_|refine JI 8 a5 2 JF ?_|refine JI 12 a5 0 JF ?_|refine JI 12 a5 1 JF ?_|refine JI 12 a5 2 JF ?_|refine JH a5 0 JE ?_|refine JH a5 1 JE ?_|refine JH a5 2 JE ?_|refine JH a5 3 JE ?_|fail)|refine bj a5 fun _=>?_|fail)
 refine aP [1,7,8,31,32] (α:=Nat×(Int→Int)×(Int→Int)) (fun x=>[(33,aF x.1)]) (fun x=>x.1≤f.Glyphs.length∧vL f T x.1 x.2.1 x.2.2) (fun x=>[(bp,.box (eu f.Glyphs.length x.2.2) 3),(bd,.box (eu f.Glyphs.length x.2.1) 3)]) (fun x=>f.Glyphs.length - x.1) (0,(fun _=>0),(fun _=>0)) rfl ⟨rfl,trivial⟩ ⟨Nat.zero_le _,vL.start⟩ (fun _ _ h=>h) ?_
 rintro ⟨i,D,P⟩ ⟨hi,hC⟩
 dsimp only at hi hC ⊢
 try dsimp only [Jt,Js,Jr,Kz]
 repeat' (first|refine JU ?_|refine JG a5 JA ?_)
 refine ar rfl (fun h=>?_) (fun h=>?_)
 ·have hil:i < T.length:=by have:=Jz h;rw [hTi] at this;omega
  obtain ⟨x,hx⟩:∃x,T[i]?=some x:=⟨_,Hb hil⟩
  have hxi:=bO hx
  have hxr:=hT.dom x (Jx hx)
  obtain ⟨gl,hgl⟩:∃z,f.Glyphs[x.toNat]?=some z:=⟨_,Hb (by omega)⟩
  have hgm:=Jx hgl
  have hgg:=bH (c:=bR) hgl
  have hpm:(gl.Points.map dA).length=gl.Points.length:=Jv ..
  have hpl:=hf.points gl hgm
  clear h
  repeat' (first|refine JU ?_|refine am ?_|refine JG a5 JA ?_|(apply aL;first|refine aK a5 ?_|refine aG a5 ?_)|fail)
  refine br 10 [(0,.v),(1,.v),(2,.v),(3,.v),(4,.v),(5,.v),(6,.v),(7,.v),(8,.v),(9,.v)] none ?_ trivial rfl (by kernel_rfl) (by kernel_rfl) (by kernel_rfl) bQ (by kernel_rfl) rfl
  repeat' (first|refine aD ?_|refine b8 a5 ?_|(apply bW;refine ci a5 ?_)|fail)
  refine JQ [1,7,8,10,31,32,33,37,38,46] JA ?_
  repeat' (first|(apply aL;first|refine aK a5 ?_|refine aG a5 ?_)|fail)
  refine aa a5 0 rfl rfl rfl rfl rfl rfl (by rw [Nat.ble_eq,jX];show _+1≤_;omega) ?_
  rw [iP,mf hxr.1 hxr.2,hpm]
  repeat' (first|refine JU ?_|refine am ?_|refine JG a5 JA ?_|(apply aL;first|refine aK a5 ?_|refine aG a5 ?_)|fail)
  have hTx:x∉T.take i:=fun hm=>by
   obtain ⟨k,hk⟩:=List.mem_iff_getElem?.1 hm
   rw [List.getElem?_take] at hk
   split at hk
   ·obtain ⟨k1,k2⟩:=Jq hk
    obtain ⟨i1,i2⟩:=Jq hx
    have e1:=hT.nodup.idxOf_getElem k k1
    have e2:=hT.nodup.idxOf_getElem i i1
    rw [k2] at e1
    rw [i2] at e2
    omega
   ·cases hk
  have hD0:il D x 0=D:=by
   funext q
   unfold il
   split
   ·rename_i e;rw [e,hC.rest x hTx]
   ·rfl
  have hql:(gl.Parts.map eD).length=gl.Parts.length:=Jv ..
  have hqn:=hf.parts gl hgm
  refine aP [1,7,8,10,31,32,33,53,54] (α:=Nat) (fun j=>[(55,aF j)]) (fun j=>j≤gl.Parts.length) (fun j=>[(bp,.box (eu f.Glyphs.length (il P x (pF P (gl.Parts.take j) gl.Points.length))) 3),(bd,.box (eu f.Glyphs.length (il D x (dF D (gl.Parts.take j)))) 3)]) (fun j=>gl.Parts.length - j) 0 rfl ⟨rfl,trivial⟩ (Nat.zero_le _) (fun _ _ h=>by rw [List.take_zero,show dF D []=0 from rfl,hD0];exact h) fun j hj=>?_
  try dsimp only [Jt,Js,Jr,Kz]
  repeat' (first|refine JU ?_|refine JG a5 JA ?_)
  refine ar rfl (fun h=>?_) (fun h=>?_)
  ·have hjl:j < gl.Parts.length:=by have:=Jz h;omega
   obtain ⟨q,hq⟩:∃q,gl.Parts[j]?=some q:=⟨_,Hb hjl⟩
   have hqg:=bH (c:=eD) hq
   have hqr:=py.1 (hf.there gl hgm q (Jx hq))
   have hne:q.Glyph≠x:=fun e=>by
    have h1:=hT.topo i x hx q.Glyph (by rw [tQ hf hgl];exact List.mem_map_of_mem (Jx hq))
    rw [e] at h1
    exact hTx h1
   have hc1:(eu f.Glyphs.length (il D x (dF D (gl.Parts.take j))))[0+x.toNat * 1]?=some (aF (dF D (gl.Parts.take j))):=by rw [jW hxr.1 hxr.2,lP]
   have hc2:(eu f.Glyphs.length (il D x (dF D (gl.Parts.take j))))[0+q.Glyph.toNat * 1]?=some (aF (D q.Glyph)):=by rw [jW hqr.1 hqr.2,kv hne]
   have hc3:(eu f.Glyphs.length (il P x (pF P (gl.Parts.take j) gl.Points.length)))[0+x.toNat * 1]?=some (aF (pF P (gl.Parts.take j) gl.Points.length)):=by rw [jW hxr.1 hxr.2,lP]
   have hc4:(eu f.Glyphs.length (il P x (pF P (gl.Parts.take j) gl.Points.length)))[0+q.Glyph.toNat * 1]?=some (aF (P q.Glyph)):=by rw [jW hqr.1 hqr.2,kv hne]
   have hDq:=hC.deep q.Glyph
   have hPq:=hC.many q.Glyph
   have hPj:=FR (k:=(gl.Points.length:Int)) hC.many (by omega) (gl.Parts.take j)
   clear h
   repeat' (first|refine JU ?_|refine am ?_|refine JG a5 JA ?_|(apply aL;first|refine aK a5 ?_|refine aG a5 ?_)|(apply aM;first|refine JI 7 a5 0 JF ?_|refine JI 7 a5 1 JF ?_|refine JI 7 a5 2 JF ?_|refine JI 8 a5 0 JF ?_|refine JI 8 a5 1 JF ?_|refine JI 8 a5 2 JF ?_|refine JI 12 a5 0 JF ?_|refine JI 12 a5 1 JF ?_|refine JI 12 a5 2 JF ?_|refine JH a5 0 JE ?_|refine JH a5 1 JE ?_|refine JH a5 2 JE ?_|refine JH a5 3 JE ?_|fail)|refine bj a5 fun _=>?_|fail)
   refine br 13 [(0,.v),(1,.v),(2,.v),(3,.v),(4,.v),(5,.l),(6,.v),(7,.v),(8,.v),(9,.v),(10,.l),(11,.v),(12,.v)] none ?_ trivial rfl (by kernel_rfl) (by kernel_rfl) (by kernel_rfl) bQ (by kernel_rfl) rfl
   repeat' (first|refine aD ?_|refine b8 a5 ?_|fail)
   refine dk a5 rfl rfl rfl hxr trivial ?_
   repeat' (first|refine aD ?_|fail)
   refine ce a5 1 rfl rfl rfl hc1 trivial ?_
   repeat' (first|refine aD ?_|refine b8 a5 ?_|fail)
   refine dk a5 rfl rfl rfl hqr trivial ?_
   repeat' (first|refine aD ?_|fail)
   refine ce a5 1 rfl rfl rfl hc2 trivial ?_
   repeat' (first|refine aD ?_|refine b8 a5 ?_|(apply ea;refine fA ?_)|fail)
   refine JQ [1,7,8,10,12,31,32,33,53,54,55,59,60,71] JA ?_
   repeat' (first|(apply aL;first|refine aK a5 ?_|refine aG a5 ?_)|fail)
   refine aa a5 1 rfl rfl rfl rfl rfl rfl (by rw [Nat.ble_eq,jX];show _+1≤_;omega) ?_
   rw [iP,mf hxr.1 hxr.2,sW,←E7 hq]
   repeat' (first|refine JU ?_|fail)
   refine br 13 [(0,.v),(1,.v),(2,.v),(3,.v),(4,.v),(5,.l),(6,.v),(7,.v),(8,.v),(9,.v),(10,.l),(11,.v),(12,.v)] none ?_ trivial rfl (by kernel_rfl) (by kernel_rfl) (by kernel_rfl) bQ (by kernel_rfl) rfl
   repeat' (first|refine aD ?_|refine b8 a5 ?_|fail)
   refine dk a5 rfl rfl rfl hxr trivial ?_
   repeat' (first|refine aD ?_|fail)
   refine ce a5 0 rfl rfl rfl hc3 trivial ?_
   repeat' (first|refine aD ?_|refine b8 a5 ?_|fail)
   refine dk a5 rfl rfl rfl hqr trivial ?_
   repeat' (first|refine aD ?_|fail)
   refine ce a5 0 rfl rfl rfl hc4 trivial ?_
   repeat' (first|refine aD ?_|refine b8 a5 ?_|(apply ea;refine fA ?_)|fail)
   refine JQ [1,7,8,10,31,32,33,53,54,55,73,74,85] JA ?_
   repeat' (first|(apply aL;first|refine aK a5 ?_|refine aG a5 ?_)|fail)
   refine aa a5 0 rfl rfl rfl rfl rfl rfl (by rw [Nat.ble_eq,jX];show _+1≤_;omega) ?_
   rw [iP,mf hxr.1 hxr.2,sW,←ES hq]
   repeat' (first|refine JU ?_|refine JG a5 JA ?_|(apply aS;refine aQ ?_)|fail)
   exact aC (j+1) rfl ⟨by rw [Jw];rfl,trivial⟩ (by omega) (by omega) (fun _ _ h=>h)
  ·have hjl:j=gl.Parts.length:=by have:=Jy h;omega
   subst hjl
   rw [List.take_length]
   repeat' (first|refine JU ?_|refine JG a5 JA ?_|(apply aS;refine aQ ?_)|fail)
   exact aC (i+1,_,_) rfl ⟨by rw [Jw];rfl,trivial⟩ ⟨by dsimp only;omega,hC.next hf hT hx hgl⟩ (by dsimp only;omega) (fun _ _ h=>h)
 ·have hil:i=f.Glyphs.length:=by have:=Jy h;rw [hTi] at this;omega
  subst hil
  clear h
  have hdeep:jN f D P:=by
   intro z h0 h1 gl hgl
   obtain ⟨j,hj⟩:=List.mem_iff_getElem?.1 (hall z h0 h1)
   exact hC.done j z (by have:=(Jq hj).1;omega) hj gl hgl
  have hcd:∀F:Int→Int,eu f.Glyphs.length F=(aW ((cG f.Glyphs.length).map F)).flatten:=fun F=>by rw [sm];unfold eu;rw [List.map_map];rfl
  have hcl:∀F:Int→Int,(aW ((cG f.Glyphs.length).map F)).length=f.Glyphs.length:=fun F=>by rw [aZ,Jv,eP]
  refine bS (sT (t:=7) (sz:=1) (l:=aW ((cG f.Glyphs.length).map D)) 1 rfl rfl (hcd D) (by simp [aW]) (hcl D) (by omega)) ?_
  refine bS (sT (t:=8) (sz:=1) (l:=aW ((cG f.Glyphs.length).map P)) 1 rfl rfl (hcd P) (by simp [aW]) (hcl P) (by omega)) ?_
  repeat' (first|refine JU ?_|refine JG a5 JA ?_|refine bN a5 ?_|fail)
  refine b9 [] _ (jt [⟨127,[.iptr [.imm 1 (aW ((cG f.Glyphs.length).map D))]],[],(d5 ((cG f.Glyphs.length).map D) qa).1,(d5 ((cG f.Glyphs.length).map D) qa).2⟩,⟨130,[.iptr [.imm 1 (aW ((cG f.Glyphs.length).map P))]],[],(d5 ((cG f.Glyphs.length).map P) qJ).1,(d5 ((cG f.Glyphs.length).map P) qJ).2⟩] ⟨⟨inferInstance,z6 _⟩,fun _=>⟨⟨inferInstance,z7 _⟩,fun _=>trivial⟩⟩) rfl rfl (Jp _) rfl fun c L1 hc=>?_
  rw [ki] at hc
  have hc:c=cu (mQ f.Glyphs.length D P):=hc
  subst hc
  unfold cu
  repeat' (first|refine JU ?_|refine JG a5 JA ?_)
  exact JR JB (.inl ⟨D,P,hdeep,hacy,rfl⟩)
theorem kA {err:Nat→Int}:∀(k i:Nat),(d9 err k i).1=0↔∀j,i≤j→j < i+k→err j=0
 | 0,i=>by simp only [d9,true_iff];intro j h1 h2;omega
 | k+1,i=>by
  simp only [d9]
  by_cases h:err i=0
  ·rw [if_pos h,kA k (i+1)]
   constructor
   ·intro hh j h1 h2
    by_cases e:j=i
    ·subst e;exact h
    ·exact hh j (by omega) (by omega)
   ·intro hh j h1 h2;exact hh j (by omega) (by omega)
  ·rw [if_neg h]
   constructor
   ·intro hh;exact absurd hh h
   ·intro hh;exact hh i (Nat.le_refl _) (by omega)
theorem qg {α:Type} {l:List α} {w:Nat→α→Int}:(d5 l w).1=0↔∀i x,l[i]?=some x→w i x=0:=by
 unfold d5 dc
 rw [kA]
 constructor
 ·intro h i x hx
  have:=h i (Nat.zero_le _) (by have:=(Jq hx).1;omega)
  rwa [iq hx] at this
 ·intro h j _ hj
  obtain ⟨x,hx⟩:∃x,l[j]?=some x:=⟨_,Hb (by omega)⟩
  rw [iq hx]
  exact h j x hx
theorem iR {α:Type} {most:Int} {l:List α} {w:Nat→α→Int}:(ct most l w).1=0↔(l.length:Int)≤most∧∀i x,l[i]?=some x→w i x=0:=by
 have h:=qg (l:=l) (w:=w)
 unfold d5 at h
 unfold ct d6
 by_cases hm:(l.length:Int) > most
 ·rw [if_pos hm]
  constructor
  ·intro hh;cases hh
  ·intro hh;omega
 ·rw [if_neg hm,h]
  exact ⟨fun hh=>⟨by omega,hh⟩,fun hh=>hh.2⟩
theorem dC:∀{l:List (Int×Int)},(gG l).1=0↔∀x∈l,x.1=0
 | []=>by simp [gG]
 | x::r=>by
  unfold gG
  by_cases h:x.1=0
  ·rw [if_pos h,dC]
   constructor
   ·intro hh y hy
    rcases List.mem_cons.1 hy with rfl | hy
    ·exact h
    ·exact hh y hy
   ·intro hh y hy;exact hh y (Ju _ hy)
  ·rw [if_neg h]
   constructor
   ·intro hh;exact absurd hh h
   ·intro hh;exact hh x (List.mem_cons_self ..)
theorem je {f:b7} (h:(ct 400 f.Glyphs (ek f)).1=0):vN f:=by
 obtain ⟨h1,h2⟩:=iR.1 h
 have hg:∀gl∈f.Glyphs,∃name,o8 f gl name=0:=fun gl hgl=>by
  obtain ⟨i,hi⟩:=List.mem_iff_getElem?.1 hgl
  exact ⟨_,h2 i gl hi⟩
 have hgl:∀gl∈f.Glyphs,iQ gl=0∧(ct 8 gl.Parts (lZ f)).1=0:=fun gl hm=>by
  obtain ⟨name,hn⟩:=hg gl hm
  unfold o8 at hn
  rw [dC] at hn
  exact ⟨hn (iQ gl,0) (by simp),hn (ct 8 gl.Parts (lZ f)) (by simp)⟩
 refine ⟨⟨by omega,fun gl hm=>?_⟩,fun gl hm=>?_,fun gl hm p hp=>?_⟩
 ·have:=(iR.1 (hgl gl hm).2).1;omega
 ·have h3:=(hgl gl hm).1
  unfold iQ at h3
  split at h3
  ·cases h3
  ·split at h3
   ·cases h3
   ·omega
 ·obtain ⟨i,hi⟩:=List.mem_iff_getElem?.1 hp
  have h3:=(iR.1 (hgl gl hm).2).2 i p hi
  unfold lZ at h3
  split at h3
  ·cases h3
  ·rename_i hh
   simpa using hh
theorem zg {f:b7} (hf:vN f) (ha:kK f.Glyphs.length (prt f)) {D P D' P':Int→Int} (h:jN f D P) (h':jN f D' P'):∀z:Int,0≤z→z < f.Glyphs.length→D z=D' z∧P z=P' z:=by
 obtain ⟨r,hr⟩:=ha
 have:∀(k:Nat) (z:Int),r z < k→0≤z→z < f.Glyphs.length→D z=D' z∧P z=P' z:=by
  intro k
  induction k with
  | zero=>intro z hk;exact absurd hk (Nat.not_lt_zero _)
  | succ k ih=>
   intro z hk h0 h1
   obtain ⟨gl,hgl⟩:∃g,f.Glyphs[z.toNat]?=some g:=⟨_,Hb (by omega)⟩
   have hsm:∀p∈gl.Parts,D p.Glyph=D' p.Glyph∧P p.Glyph=P' p.Glyph:=fun p hp=>by
    have hin:=py.1 (hf.there gl (Jx hgl) p hp)
    have:=hr z h0 h1 p.Glyph (by rw [tQ hf hgl];exact List.mem_map_of_mem hp)
    exact ih p.Glyph (by omega) hin.1 hin.2
   obtain ⟨h2,h3⟩:=h z h0 h1 gl hgl
   obtain ⟨h4,h5⟩:=h' z h0 h1 gl hgl
   rw [h2,h3,h4,h5]
   exact ⟨uB fun p hp=>(hsm p hp).1,vi fun p hp=>(hsm p hp).2⟩
 intro z h0 h1
 exact this (r z+1) z (by omega) h0 h1
theorem wm {n:Nat} {D P D' P':Int→Int} (h:∀z:Int,0≤z→z < n→D z=D' z∧P z=P' z):mQ n D P=mQ n D' P':=by
 unfold mQ
 rw [List.map_congr_left (f:=D) (g:=D') fun z hz=>(h z (fh.1 hz).1 (fh.1 hz).2).1,List.map_congr_left (f:=P) (g:=P') fun z hz=>(h z (fh.1 hz).1 (fh.1 hz).2).2]
open Classical in
noncomputable def mR (f:b7):Int×Int:=if h:∃q:(Int→Int)×(Int→Int),jN f q.1 q.2 then mQ f.Glyphs.length h.choose.1 h.choose.2 else (33,0)
theorem pY {f:b7} (hf:vN f) (ha:kK f.Glyphs.length (prt f)) {D P:Int→Int} (h:jN f D P):mR f=mQ f.Glyphs.length D P:=by
 unfold mR
 have hex:∃q:(Int→Int)×(Int→Int),jN f q.1 q.2:=⟨(D,P),h⟩
 rw [dif_pos hex]
 exact wm (zg hf ha hex.choose_spec h)
theorem E6 (f:b7) (hf:vN f) (ha:kK f.Glyphs.length (prt f)):AC Tryz.prog 55 [.iptr (cE f)] [] fun c _=>c=cu ((mR f).1,(mR f).2):=by
 refine aN Tryz.func55 rfl Tryz.ntmps55 rfl fun B=>?_
 repeat' (first|refine JU ?_|refine JG a5 JA ?_)
 refine b9 [] [] (uA f hf (.inl ha)) rfl rfl (Jp _) rfl fun c L1 hc=>?_
 rcases hc with ⟨D,P,h1,h2,hc⟩ | ⟨hna,_⟩
 ·rw [←pY hf ha h1] at hc
  subst hc
  unfold cu
  repeat' (first|refine JU ?_|refine JG a5 JA ?_)
  exact JT JC
 ·exact absurd ha hna
def xY (_:Nat) (l:List g8):Int:=nl l
def ol (f:b7) (_:Nat) (r:List f0):Int:=zY f.Axes.length r
def j7 (f:b7) (_:Nat) (l:aO):Int:=lI f l
noncomputable def BX (f:b7):List (Int×Int):=[(oN f,0),ct 400 f.Glyphs (ek f),mR f,ct 1000 f.Chars (j3 f),ct 40 f.Lookups (j7 f),ct 20 f.Features (k6 f),ct 3 f.Axes (jV f),ct 16 f.Regions (ol f),ct 20 f.Funcs xY,ct 64 f.Cvt BE]
noncomputable def mV (f:b7):Int×Int:=gG (BX f)
noncomputable def xX (f:b7) (m1 m2 m3:Nat):List Lk:=[⟨48,[.iptr (cE f)],[],oN f,0⟩,
 ⟨112,[.iptr [.imm 9 (f.Glyphs.map bR)],.iptr [aF 400],.iptr [.fn 51 [.iptr (cE f),.iptr [.sc (.map (some m1))]]]],[(m1,cX .string (cN (kc f)))],(ct 400 f.Glyphs (ek f)).1,(ct 400 f.Glyphs (ek f)).2⟩,
 ⟨55,[.iptr (cE f)],[],(mR f).1,(mR f).2⟩,
 ⟨132,[.iptr [.imm 2 (f.Chars.map eh)],.iptr [aF 1000],.iptr [.fn 58 [.iptr (cE f)]]],[],(ct 1000 f.Chars (j3 f)).1,(ct 1000 f.Chars (j3 f)).2⟩,
 ⟨134,[.iptr [.imm 3 (f.Lookups.map bi)],.iptr [aF 40],.iptr [.fn 61 [.iptr (cE f)]]],[],(ct 40 f.Lookups (j7 f)).1,(ct 40 f.Lookups (j7 f)).2⟩,
 ⟨142,[.iptr [.imm 2 (f.Features.map co)],.iptr [aF 20],.iptr [.fn 64 [.iptr (cE f),.iptr [.sc (.map (some m2))]]]],[(m2,cX .string (cN (lw f)))],(ct 20 f.Features (k6 f)).1,(ct 20 f.Features (k6 f)).2⟩,
 ⟨145,[.iptr [.imm 4 (f.Axes.map cL)],.iptr [aF 3],.iptr [.fn 68 [.iptr [.sc (.map (some m3))]]]],[(m3,cX .string (cN (iv f)))],(ct 3 f.Axes (jV f)).1,(ct 3 f.Axes (jV f)).2⟩,
 ⟨147,[.iptr [.imm 1 (f.Regions.map bU)],.iptr [aF 16],.iptr [.fn 71 [.iptr (cE f)]]],[],(ct 16 f.Regions (ol f)).1,(ct 16 f.Regions (ol f)).2⟩,
 ⟨151,[.iptr [.imm 1 (f.Funcs.map dD)],.iptr [aF 20],.iptr [.sc (.func (.func 74) #[] #[])]],[],(ct 20 f.Funcs xY).1,(ct 20 f.Funcs xY).2⟩,
 ⟨155,[.iptr [.imm 1 (f.Cvt.map yZ)],.iptr [aF 64],.iptr [.sc (.func (.func 77) #[] #[])]],[],(ct 64 f.Cvt BE).1,(ct 64 f.Cvt BE).2⟩]
theorem wx (f:b7) (m1 m2 m3:Nat) (hA:(ct 400 f.Glyphs (ek f)).1=0→kK f.Glyphs.length (prt f)):wP (xX f m1 m2 m3):=by
 refine ⟨⟨inferInstance,zw f⟩,fun _=>⟨⟨inferInstance,?_⟩,fun h1=>⟨⟨inferInstance,E6 f (je h1) (hA h1)⟩,fun _=>⟨⟨inferInstance,?_⟩,fun _=>⟨⟨inferInstance,?_⟩,fun _=>⟨⟨inferInstance,?_⟩,fun _=>⟨⟨inferInstance,?_⟩,fun _=>⟨⟨inferInstance,?_⟩,fun _=>⟨⟨inferInstance,?_⟩,fun _=>⟨⟨inferInstance,?_⟩,fun _=>trivial⟩⟩⟩⟩⟩⟩⟩⟩⟩⟩
 ·exact F3 (u:= .fn 51 [.iptr (cE f),.iptr [.sc (.map (some m1))]]) rfl f.Glyphs 400 (fU f.Glyphs (ek f)) (fun _ L=>L=[(m1,cX .string (cN (kc f)))]) _ rfl fun _=>ru fun i x _=>wE f i x m1
 ·exact F4 (u:= .fn 58 [.iptr (cE f)]) rfl f.Chars 1000 (fU f.Chars (j3 f)) (fun _ _=>True) [] trivial fun hm=>da fun i x hx=>z4 f i x hx hm
 ·exact F5 (u:= .fn 61 [.iptr (cE f)]) rfl f.Lookups 40 (fU f.Lookups (j7 f)) (fun _ _=>True) [] trivial fun _=>da fun i x _=>to f i x
 ·exact F6 (u:= .fn 64 [.iptr (cE f),.iptr [.sc (.map (some m2))]]) rfl f.Features 20 (fU f.Features (k6 f)) (fun _ L=>L=[(m2,cX .string (cN (lw f)))]) _ rfl fun _=>ru fun i x _=>zm f i x m2
 ·exact F7 (u:= .fn 68 [.iptr [.sc (.map (some m3))]]) rfl f.Axes 3 (fU f.Axes (jV f)) (fun _ L=>L=[(m3,cX .string (cN (iv f)))]) _ rfl fun _=>ru fun i x _=>yS f i x m3
 ·exact F8 (u:= .fn 71 [.iptr (cE f)]) rfl f.Regions 16 (fU f.Regions (ol f)) (fun _ _=>True) [] trivial fun _=>da fun i x _=>vq f i x
 ·exact F9 (u:= .sc (.func (.func 74) #[] #[])) (g:=74) (caps:=[]) rfl f.Funcs 20 (fU f.Funcs xY) (fun _ _=>True) [] trivial fun _=>da fun i x _=>z5 i x
 ·exact Fa (u:= .sc (.func (.func 77) #[] #[])) (g:=77) (caps:=[]) rfl f.Cvt 64 (fU f.Cvt BE) (fun _ _=>True) [] trivial fun _=>da fun i x _=>BC i x
set_option maxHeartbeats 4000000 in
theorem EB (f:b7) (hA:(ct 400 f.Glyphs (ek f)).1=0→kK f.Glyphs.length (prt f)):AC Tryz.prog 25 [bZ f] [] fun c _=>c=cu (mV f):=by
 refine aN Tryz.func25 rfl Tryz.ntmps25 rfl fun B=>?_
 repeat' (first|refine JU ?_|refine JG a5 JA ?_|refine bf ?_|fail)
 refine b9 [] _ (BS f.Glyphs) rfl rfl (Jp _) rfl fun c L1 ⟨m1,hc,hL⟩=>?_
 subst hc;subst hL
 repeat' (first|refine JU ?_|refine JG a5 JA ?_|(apply aM;first|refine JI 4 a5 0 JF ?_|refine JI 4 a5 1 JF ?_|refine JI 4 a5 2 JF ?_|refine JI 5 a5 0 JF ?_|refine JI 5 a5 1 JF ?_|refine JI 5 a5 2 JF ?_|refine JI 6 a5 0 JF ?_|refine JI 6 a5 1 JF ?_|refine JI 6 a5 2 JF ?_|refine JH a5 0 JE ?_|refine JH a5 1 JE ?_|refine JH a5 2 JE ?_|refine JH a5 3 JE ?_|fail)|refine bj a5 fun _=>?_|fail)
 refine b9 [] _ (BT f.Features) rfl rfl (Jp _) rfl fun c L1 ⟨m2,hc,hL⟩=>?_
 subst hc;subst hL
 repeat' (first|refine JU ?_|refine JG a5 JA ?_|(apply aM;first|refine JI 4 a5 0 JF ?_|refine JI 4 a5 1 JF ?_|refine JI 4 a5 2 JF ?_|refine JI 5 a5 0 JF ?_|refine JI 5 a5 1 JF ?_|refine JI 5 a5 2 JF ?_|refine JI 6 a5 0 JF ?_|refine JI 6 a5 1 JF ?_|refine JI 6 a5 2 JF ?_|refine JH a5 0 JE ?_|refine JH a5 1 JE ?_|refine JH a5 2 JE ?_|refine JH a5 3 JE ?_|fail)|refine bj a5 fun _=>?_|fail)
 refine b9 [] _ (BU f.Axes) rfl rfl (Jp _) rfl fun c L1 ⟨m3,hc,hL⟩=>?_
 subst hc;subst hL
 repeat' (first|refine JU ?_|(apply aM;first|refine JI 4 a5 0 JF ?_|refine JI 4 a5 1 JF ?_|refine JI 4 a5 2 JF ?_|refine JI 5 a5 0 JF ?_|refine JI 5 a5 1 JF ?_|refine JI 5 a5 2 JF ?_|refine JI 6 a5 0 JF ?_|refine JI 6 a5 1 JF ?_|refine JI 6 a5 2 JF ?_|refine JH a5 0 JE ?_|refine JH a5 1 JE ?_|refine JH a5 2 JE ?_|refine JH a5 3 JE ?_|fail)|refine bj a5 fun _=>?_|fail)
 refine br 36 [(0,.v),(1,.v),(2,.v),(3,.v),(4,.v),(5,.v),(6,.v),(7,.v),(8,.v),(9,.v),(10,.v),(11,.v),(12,.v),(13,.v),(14,.v),(15,.v),(16,.v),(17,.v),(18,.v),(19,.v),(20,.v),(21,.v),(22,.v),(23,.v),(24,.v),(25,.v),(26,.v),(27,.v),(28,.v),(29,.v),(30,.v),(31,.v),(32,.v),(33,.e),(34,.v),(35,.v)] none ?_ trivial rfl (by kernel_rfl) (by kernel_rfl) (by kernel_rfl) bQ (by kernel_rfl) rfl
 repeat' (first|refine aD ?_|refine b8 a5 ?_|(apply cW;refine du ?_)|fail)
 refine du (hc:=⟨GP f.Cvt 64⟩) ?_
 repeat' (first|refine aD ?_|refine ej a5 ?_|fail)
 refine j4 (L:=[(m3,cX .string (cN (iv f))),(m2,cX .string (cN (lw f))),(m1,cX .string (cN (kc f)))]) _ [] (jt (xX f m1 m2 m3) (wx f m1 m2 m3 hA)) rfl rfl (by rw [List.append_nil];exact (List.reverse_perm _).symm) trivial fun c L1 hc=>?_
 rw [ki] at hc
 have hc:c=cu (mV f):=hc
 subst hc
 unfold cu
 repeat' (first|refine aD ?_|refine b8 a5 ?_|fail)
 refine JQ [50,51] JA ?_
 repeat' (first|refine JU ?_|refine a7 ?_|refine JG a5 JA ?_)
 exact JT JC
end Go.Proofs.YtpmdfoaadejmkaaGreatDoor
namespace Go.Proofs.YtpmdfoaadejmkaaGreatDoor
open Go.RowKit
attribute [local irreducible] AT bK AX AO Av Kt bh dw DA cK
def HZ (c:UInt8) (m:Bool):bz:=⟨⟨#[c]⟩,0,m,[],[],[],[],[],[]⟩
def tO:List bz:=[HZ 97 false,HZ 98 false,HZ 99 false,HZ 100 false,HZ 109 true]
def fD (ls:List aO):b7:=⟨1000,tO,[],ls,[],[],[],[],[]⟩
def Df:List aO:=[⟨3,false,[⟨[],[[0],[1]],[],[2],[],0⟩]⟩,⟨1,false,[⟨[],[[2]],[],[3],[],0⟩]⟩]
theorem qY (ls:List aO):kK (fD ls).Glyphs.length (prt (fD ls)):=by
 refine ⟨fun _=>0,fun g h0 h1 p hp=>?_⟩
 exfalso
 have hg:g.toNat < 5:=by have:g < 5:=h1;omega
 unfold prt at hp
 obtain ⟨x,hx⟩:∃x,(fD ls).Glyphs[g.toNat]?=some x:=⟨_,Hb hg⟩
 have hm:x.Parts=[]:=by
  have:∀y∈tO,y.Parts=[]:=by decide+kernel
  exact this x (Jx hx)
 rw [hx] at hp
 dsimp only at hp
 rw [hm] at hp
 simp at hp
theorem oZ (ls:List aO):(ct 400 tO (ek (fD ls))).1=0:=by
 have h0:(ct 400 tO (ek (fD []))).1=0:=by decide
 exact h0
theorem zT (ls:List aO):jN (fD ls) (fun _=>0) (fun _=>0):=by
 intro z h0 h1 gl hgl
 have h1:z < 5:=h1
 have:z=0∨z=1∨z=2∨z=3∨z=4:=by omega
 rcases this with rfl | rfl | rfl | rfl | rfl <;> (injection hgl with e;subst e;exact ⟨by decide,by decide⟩)
theorem vl {ls:List aO} (h:(ct 40 ls (j7 (fD ls))).1=0):(mV (fD ls)).1=0:=by
 refine dC.2 fun x hx=>?_
 have hc:(mR (fD ls)).1=0:=by
  rw [pY (je (oZ ls)) (qY ls) (zT ls)]
  show (mQ 5 (fun _=>0) (fun _=>0)).1=0
  decide
 simp only [BX,List.mem_cons,List.not_mem_nil,or_false] at hx
 rcases hx with rfl | rfl | rfl | rfl | rfl | rfl | rfl | rfl | rfl | rfl
 ·rfl
 ·exact oZ ls
 ·exact hc
 ·rfl
 ·exact h
 ·rfl
 ·rfl
 ·rfl
 ·rfl
 ·rfl
def Cp (ls:List aO):Bool:=decide ((ct 40 ls (j7 (fD ls))).1=0)
theorem lb:∀(l:List Int) (i:Nat) (g:Int),fw i (l++[g])=fw i l++[⟨g,(i+l.length:Nat),0,0,0,0⟩]
 | [],i,g=>rfl
 | x::l,i,g=>by
  rw [Jt,fw,lb l (i+1) g,fw,Jt,List.length_cons,show i+1+l.length=i+(l.length+1) by omega]
theorem lU:∀(l:List Int) (i:Nat),(fw i l).length=l.length
 | [],_=>rfl
 | x::l,i=>by rw [fw,List.length_cons,lU l,List.length_cons]
theorem zA (l:List Int) (hl:l.length≤1000000):bJ Tryz.prog 29 [.imm 1 (aW l)] (.imm 6 ((eV l).map aY)):=by
 refine aN Tryz.func29 rfl Tryz.ntmps29 rfl fun B=>?_
 have hil:=aZ l
 repeat' (first|refine JU ?_|refine am ?_|refine JG a5 JA ?_|refine iL (d:=5) a5 fun _=>?_|fail)
 refine aP [0] (α:=Nat×Option (Nat×Nat)) (fun s=>[(4,aF s.1),(3,.vec s.2 6 ((eV (l.take s.1)).map aY))]) (fun s=>s.1≤l.length) (fun s=>tok s.2 67 6 s.1) (fun s=>l.length - s.1) (0,some (_,0)) rfl ⟨rfl,rfl,trivial⟩ (Nat.zero_le _) (fun _ _ h=>h) ?_
 rintro ⟨i,q⟩ hi
 dsimp only at hi ⊢
 try dsimp only [Jt,Js,Jr,Kz]
 repeat' (first|refine JU ?_|refine JG a5 JA ?_)
 refine ar rfl (fun h1=>?_) (fun h1=>?_)
 ·have hi2:i < l.length:=by have:=Jz h1;omega
  obtain ⟨g,hg⟩:∃z,l[i]?=some z:=⟨_,Hb hi2⟩
  have hgg:=bO hg
  have hml:((eV (l.take i)).map aY).length=i:=by unfold eV;rw [Jv,lU,List.length_take];omega
  have hsn:(eV (l.take i)).map aY++[aY ⟨g,(i:Nat),0,0,0,0⟩]=(eV (l.take (i+1))).map aY:=by
   rw [List.take_add_one,hg]
   unfold eV
   show _=(fw 0 (l.take i++[g])).map aY
   rw [lb,List.map_append,List.length_take,Nat.min_eq_left (by omega),Nat.zero_add]
   rfl
  generalize (eV (l.take i)).map aY=A0 at *
  clear h1
  repeat' (first|refine JU ?_|refine am ?_|refine JG a5 JA ?_|(apply aL;first|refine aK a5 ?_|refine aG a5 ?_)|refine bN a5 ?_|fail)
  refine bI a5 [] rfl rfl rfl rfl (by rw [hml,List.append_nil]) (by rw [hml];simp;omega) (by rw [hml];simp;omega) rfl fun q'=>?_
  repeat' (first|refine JU ?_|refine JG a5 JA ?_|(apply aS;refine aQ ?_)|fail)
  refine aC (i+1,q') rfl ⟨by rw [Jw];rfl,by dsimp only;rw [←hsn];rfl,trivial⟩ hi2 (by dsimp only;omega) (fun _ _ h=>?_)
  rw [List.length_append,hml,List.append_nil] at h
  exact h
 ·have hi2:i=l.length:=by have:=Jy h1;omega
  subst hi2
  rw [List.take_length]
  clear h1
  repeat' (first|refine JU ?_|refine JG a5 JA ?_)
  refine bk (bL (t:=2) (c':= .imm 6 ((eV l).map aY)) rfl fun σ v h=>VR.im h) ?_
  refine dI (List.nil_sublist _) ?_
  exact JN JB
theorem wF (run:List aI) (l:List Int) (hl:l.length≤1000000):bJ Tryz.prog 30 [.imm 6 (run.map aY),.imm 1 (aW l)] (dY (decide (run.map aI.Glyph=l))):=by
 refine aN Tryz.func30 rfl Tryz.ntmps30 rfl fun B=>?_
 have hil:=aZ l
 have hrl:(run.map aY).length=run.length:=Jv ..
 repeat' (first|refine JU ?_|refine JG a5 JA ?_)
 refine ar rfl (fun h1=>?_) (fun h1=>?_)
 ·have hne:¬run.length=l.length:=by have:=Jz h1;omega
  rw [decide_eq_false (fun e=>hne (by rw [←e,Jv]))]
  repeat' (first|refine JU ?_|refine JG a5 JA ?_)
  exact JN JB
 ·have heq:run.length=l.length:=by have:=Jy h1;omega
  clear h1
  repeat' (first|refine JU ?_|refine am ?_|refine JG a5 JA ?_)
  refine aP [0,1] (α:=Nat) (fun i=>[(5,aF i)]) (fun i=>i≤l.length∧(run.map aI.Glyph).take i=l.take i) (fun _=>[]) (fun i=>l.length - i) 0 rfl ⟨rfl,trivial⟩ ⟨Nat.zero_le _,rfl⟩ (fun _ _ h=>h) ?_
  rintro i ⟨hi,hti⟩
  try dsimp only [Jt,Js,Jr,Kz]
  repeat' (first|refine JU ?_|refine JG a5 JA ?_)
  refine ar rfl (fun h1=>?_) (fun h1=>?_)
  ·have hi2:i < l.length:=by have:=Jz h1;omega
   obtain ⟨g,hg⟩:∃z,l[i]?=some z:=⟨_,Hb hi2⟩
   obtain ⟨x,hx⟩:∃z,run[i]?=some z:=⟨_,Hb (by omega)⟩
   have hgg:=bO hg
   have hxg:(run.map aY)[i]?=some (aY x):=by simp [hx]
   have hmg:(run.map aI.Glyph)[i]?=some x.Glyph:=by simp [hx]
   clear h1
   repeat' (first|refine JU ?_|refine am ?_)
   refine br 9 [(0,.v),(1,.v),(2,.v),(3,.v),(4,.v),(5,.v),(6,.v),(7,.v),(8,.v)] none ?_ trivial rfl (by kernel_rfl) (by kernel_rfl) (by kernel_rfl) bQ (by kernel_rfl) rfl
   repeat' (first|refine aD ?_|refine b8 a5 ?_|(apply bW;refine ci a5 ?_)|fail)
   refine JQ [0,1,5,21,25] JA ?_
   repeat' (first|refine JU ?_|refine a7 ?_|refine JG a5 JA ?_)
   refine ar rfl (fun h1=>?_) (fun h1=>?_)
   ·have hne:x.Glyph≠g:=Jz h1
    rw [decide_eq_false (fun e=>hne (by rw [e,hg] at hmg;cases hmg;rfl))]
    repeat' (first|refine JU ?_|refine JG a5 JA ?_)
    exact JN JB
   ·have heg:x.Glyph=g:=by have h1':¬x.Glyph≠g:=Jy h1;exact Classical.not_not.1 h1'
    repeat' (first|refine JU ?_|refine JG a5 JA ?_|(apply aS;refine aQ ?_)|fail)
    exact aC (i+1) rfl ⟨by rw [Jw];rfl,trivial⟩ ⟨hi2,by rw [List.take_add_one,List.take_add_one,hti,hg,hmg,heg]⟩ (by omega) (fun _ _ h=>h)
  ·have hi2:i=l.length:=by have:=Jy h1;omega
   subst hi2
   rw [List.take_length,List.take_of_length_le (by rw [Jv];omega)] at hti
   rw [decide_eq_true hti]
   repeat' (first|refine JU ?_|refine JG a5 JA ?_)
   exact JN JB
theorem zo {f:b7} (hr:(mV f).1=0) (ha:kK f.Glyphs.length (prt f)):AC Tryz.prog 25 [bZ f] [] fun c _=>∃n:Int,c=cu (0,n):=
 AC.mono (EB f fun _=>ha) fun c L hc=>⟨(mV f).2,by rw [hc,←hr]⟩
def Dc (N:Nat) (s:List Int):Bool:=decide (s.Pairwise (· < ·)) && s.all fun g=>decide (0≤g) && decide (g < (N:Int))
def D3 (N:Nat) (r:bc):Bool:=r.Back.all (Dc N) && (r.In.all (Dc N) && (r.Ahead.all (Dc N) && (decide (r.Back.length≤200) && (decide (r.In.length+r.Ahead.length≤200) && (decide (r.Out.length≤1000000) && (decide (r.Calls.length≤1000000) && r.Calls.all fun c=>decide (0≤c.At) && decide (c.At≤1000000)))))))
def y9 (N:Nat) (l:aO):Bool:=decide (l.Rules.length≤6) && l.Rules.all (D3 N)
theorem tT {N:Nat} {s:List Int} (h:Dc N s=true):kx s∧∀g∈s,0≤g∧g < (N:Int):=by
 unfold Dc at h
 simp only [Bool.and_eq_true,decide_eq_true_eq,List.all_eq_true] at h
 exact h
structure AN (N:Nat) (r:bc):Prop where
 b:u3 N r
 out:r.Out.length≤1000000
 calls:r.Calls.length≤1000000
 at_:∀c∈r.Calls,0≤c.At∧c.At≤1000000
theorem D4 {N:Nat} {r:bc} (h:D3 N r=true):AN N r:=by
 unfold D3 at h
 simp only [Bool.and_eq_true,decide_eq_true_eq,List.all_eq_true] at h
 obtain ⟨h1,h2,h3,h4,h5,h6,h7,h8⟩:=h
 exact ⟨⟨fun s hs=>tT (h1 s hs),fun s hs=>tT (h2 s hs),fun s hs=>tT (h3 s hs),h4,h5⟩,h6,h7,h8⟩
structure iu (f:b7):Prop where
 glyphs:0 < f.Glyphs.length∧f.Glyphs.length≤65536
 lookups:f.Lookups.length≤1000000
 few:∀l∈f.Lookups,l.Rules.length≤6
 rule:∀l∈f.Lookups,∀r∈l.Rules,AN f.Glyphs.length r
theorem iu.new {f:b7} (h:iu f):Fx f:=by
 refine ⟨h.glyphs,h.lookups,fun l hl=>⟨h.few l hl,fun r hr=>(h.rule l hl r hr).b⟩,fun l hl r hr=>?_⟩
 have hb:=h.rule l hl r hr
 have hg:=h.glyphs.2
 exact ⟨⟨by have:=hb.b.long;omega,fun s hs=>by have:=fE (gW (hb.b.in_ s hs).1) (hb.b.in_ s hs).2;omega⟩,hb.out,hb.calls⟩
theorem iu.eng {f:b7} (h:iu f) {E:pk} (hE:Hg f E):lS E:=⟨hE.auto,fun e he r hr hin=>by
 have hl:e.l∈f.Lookups:=by rw [←hE.ls];exact List.mem_map.2 ⟨e,he,rfl⟩
 have hb:=h.rule e.l hl r hr
 exact ⟨hin,hb.out,hb.calls,hb.at_⟩⟩
theorem CK {f:b7} (h:iu f) (hr:(mV f).1=0) (ha:kK f.Glyphs.length (prt f)):AC Tryz.prog 15 [bZ f] [] fun c _=>∃E,lS E∧E.ls=f.Lookups∧E.ms=f.Glyphs.map bz.Mark∧c= .tup [.iptr (ei E),aF 0]:=
 AC.mono (GZ f h.new (zo hr ha)) fun c L ⟨E,hE,hc⟩=>⟨E,h.eng hE,hE.ls,hE.ms,hc⟩
theorem H1 {ls:List aO} (h:ls.all (y9 5)=true) (hl:ls.length≤1000000):iu (fD ls):=by
 rw [List.all_eq_true] at h
 have hh:∀l∈ls,l.Rules.length≤6∧∀r∈l.Rules,AN 5 r:=fun l hl=>by
  have:=h l hl
  unfold y9 at this
  simp only [Bool.and_eq_true,decide_eq_true_eq,List.all_eq_true] at this
  exact ⟨this.1,fun r hr=>D4 (this.2 r hr)⟩
 exact ⟨⟨Nat.succ_pos _,by show (5:Nat)≤65536;omega⟩,hl,fun l hl=>(hh l hl).1,fun l hl=>(hh l hl).2⟩
theorem zV {ls:List aO} (h:ls.all (y9 5)=true) (hl:ls.length≤1000000) (hr:(mV (fD ls)).1=0):AC Tryz.prog 15 [bZ (fD ls)] [] fun c _=>∃E,lS E∧E.ls=ls∧E.ms=km∧c= .tup [.iptr (ei E),aF 0]:=
 AC.mono (CK (H1 h hl) hr (qY ls)) fun c L ⟨E,h1,h2,h3,h4⟩=>⟨E,h1,h2,h3,h4⟩
theorem zU (ls:List aO):bJ Tryz.prog 28 [.imm 3 (ls.map bi)] (bZ (fD ls)):=by
 refine aN Tryz.func28 rfl Tryz.ntmps28 rfl fun B=>?_
 repeat' (first|refine JU ?_|refine JG a5 JA ?_|(apply aM;first|refine JH a5 0 JE ?_|refine JH a5 1 JE ?_|refine JH a5 2 JE ?_|refine JH a5 3 JE ?_|fail)|refine bj a5 fun _=>?_|refine bN a5 ?_|fail)
 refine bk (bE 0 (cs':=cE (fD ls)) rfl fun σ vs h=>mF.vrs ?_ h) (xN a5 0 rfl rfl rfl rfl rfl rfl)
 repeat' first | exact cY.refl _ | exact cY.nil _ | exact True.intro | refine cY.agg ?_ | refine cY.imm ?_ | refine And.intro ?_ ?_
end Go.Proofs.YtpmdfoaadejmkaaGreatDoor
