/-
  The program: how deep glyphs are, and how many points they have.
-/
import Derived.Test.YtpmdfoaadejmkaaGreatDoorM24
import Derived.Test.YtpmdfoaadejmkaaGreatDoorM21
namespace Go.Proofs.YtpmdfoaadejmkaaGreatDoor
open Go.RowKit
attribute [local irreducible] AT bI AX AO Av Kt bi dx DA cK
def dF (D:Int→Int) (ps:List dL):Int:=ps.foldl (fun a p=>max a (D p.Glyph+1)) 0
def pF (P:Int→Int) (ps:List dL) (k:Int):Int:=ps.foldl (fun a p=>min (a+P p.Glyph) 1001) k
def eu (n:Nat) (D:Int→Int):List AV:=(cF n).map fun z=>aF (D z)
def ir (D:Int→Int) (z v:Int):Int→Int:=fun q=>if q=z then v else D q
theorem lR {D:Int→Int} {z v:Int}:ir D z v z=v:=by simp [ir]
theorem kw {D:Int→Int} {z v q:Int} (h:q≠z):ir D z v q=D q:=by simp [ir,h]
theorem sY (D:Int→Int) (z v w:Int):ir (ir D z v) z w=ir D z w:=by
 funext q
 unfold ir
 by_cases e:q=z
 ·rw [if_pos e,if_pos e]
 ·rw [if_neg e,if_neg e,if_neg e]
theorem jX (n:Nat) (D:Int→Int):(eu n D).length=n:=by simp [eu,cF]
theorem jW {n:Nat} {D:Int→Int} {z:Int} (h0:0≤z) (h1:z < n):(eu n D)[0+z.toNat * 1]?=some (aF (D z)):=by
 rw [Nat.zero_add,Nat.mul_one]
 unfold eu
 rw [List.getElem?_map,jM (by omega),Option.map_some,show ((z.toNat:Nat):Int)=z by omega]
theorem mi {n:Nat} {D:Int→Int} {z v:Int} (h0:0≤z) (h1:z < n):(eu n D).set (0+z.toNat * 1) (aF v)=eu n (ir D z v):=by
 rw [Nat.zero_add,Nat.mul_one]
 apply List.ext_getElem?
 intro i
 rw [List.getElem?_set,jX]
 unfold eu ir
 by_cases hi:z.toNat=i
 ·subst hi
  rw [if_pos rfl,if_pos (by omega),List.getElem?_map,jM (by omega),Option.map_some,if_pos (by omega)]
 ·rw [if_neg hi,List.getElem?_map,List.getElem?_map]
  by_cases hn:i < n
  ·rw [jM hn,Option.map_some,Option.map_some,if_neg (by omega)]
  ·rw [List.getElem?_eq_none (by rw [eP];omega)];rfl
theorem oJ (n:Nat):(List.replicate n [aF 0]).flatten=eu n fun _=>0:=by
 rw [xS (cF n) n (eP n).symm]
 unfold fL eu
 rw [List.take_zero,Jr,Nat.sub_zero,eP,List.map_replicate]
 apply List.ext_getElem?
 intro i
 rw [List.getElem?_replicate,List.getElem?_map]
 by_cases h:i < n
 ·rw [if_pos h,jM h];rfl
 ·rw [if_neg h,List.getElem?_eq_none (by rw [eP];omega)];rfl
theorem E1 {D:Int→Int} {ps:List dL} {j:Nat} {p:dL} (h:ps[j]?=some p):dF D (ps.take (j+1))=max (dF D (ps.take j)) (D p.Glyph+1):=by
 unfold dF
 rw [List.take_add_one,h,Option.toList_some,List.foldl_append]
 rfl
theorem EM {P:Int→Int} {ps:List dL} {k:Int} {j:Nat} {p:dL} (h:ps[j]?=some p):pF P (ps.take (j+1)) k=min (pF P (ps.take j) k+P p.Glyph) 1001:=by
 unfold pF
 rw [List.take_add_one,h,Option.toList_some,List.foldl_append]
 rfl
theorem mp {α β:Type} {F G:α→β→α}:∀(l:List β) (a:α),(∀b∈l,∀a,F a b=G a b)→l.foldl F a=l.foldl G a
 | [],_,_=>rfl
 | b::l,a,h=>by rw [List.foldl_cons,List.foldl_cons,h b (List.mem_cons_self ..)];exact mp l _ fun c hc=>h c (Jt _ hc)
theorem uD {D D':Int→Int} {ps:List dL} (h:∀p∈ps,D p.Glyph=D' p.Glyph):dF D ps=dF D' ps:=mp ps 0 fun p hp a=>by rw [h p hp]
theorem vj {P P':Int→Int} {ps:List dL} {k:Int} (h:∀p∈ps,P p.Glyph=P' p.Glyph):pF P ps k=pF P' ps k:=mp ps k fun p hp a=>by rw [h p hp]
theorem Hz {D:Int→Int} {m:Int} (h:∀z,0≤D z∧D z≤m):∀(ps:List dL),0≤dF D ps∧dF D ps≤m+1:=by
 intro ps
 have hm:0≤m:=by have:=h 0;omega
 have:∀(ps:List dL) (a:Int),0≤a→a≤m+1→0≤ps.foldl (fun a p=>max a (D p.Glyph+1)) a∧ps.foldl (fun a p=>max a (D p.Glyph+1)) a≤m+1:=by
  intro ps
  induction ps with
  | nil=>intro a h0 h1;exact ⟨h0,h1⟩
  | cons p ps ih=>intro a h0 h1;have:=h p.Glyph;exact ih (max a (D p.Glyph+1)) (by omega) (by omega)
 exact this ps 0 (by omega) (by omega)
theorem FM {P:Int→Int} {k:Int} (h:∀z,0≤P z∧P z≤1000000) (hk:0≤k∧k≤1000000) (ps:List dL):0≤pF P ps k∧pF P ps k≤1000000:=by
 unfold pF
 induction ps generalizing k with
 | nil=>exact hk
 | cons p ps ih=>have:=h p.Glyph;exact ih (k:=min (k+P p.Glyph) 1001) (by omega)
def jN (f:b6) (D P:Int→Int):Prop:=∀z:Int,0≤z→z < f.Glyphs.length→∀gl,f.Glyphs[z.toNat]?=some gl→D z=dF D gl.Parts∧P z=pF P gl.Parts gl.Points.length
structure vM (f:b6):Prop extends Few f where
 points:∀gl∈f.Glyphs,gl.Points.length≤1000000
 there:∀gl∈f.Glyphs,∀p∈gl.Parts,lb f p.Glyph=true
theorem tS {f:b6} (hf:vM f) {z:Int} {gl:bv} (h:f.Glyphs[z.toNat]?=some gl):prt f z=gl.Parts.map dL.Glyph:=by
 unfold prt
 rw [h]
 refine List.filter_eq_self.2 fun y hy=>?_
 obtain ⟨p,hp,rfl⟩:=List.mem_map.1 hy
 exact hf.there gl (Jw h) p hp
def qd (_:Nat) (levels:Int):Int:=dY (decide (levels > 4)) 34
def qM (_:Nat) (all:Int):Int:=dY (decide (all≥1001)) 2
theorem wk (i:Nat) (n:Int):bJ Tryz.prog 129 [aF i,aF n] (aF (qd i n)):=by
 refine aM Tryz.func129 rfl Tryz.ntmps129 rfl fun B=>?_
 repeat' (first|refine Ji ?_|refine JF a5 H6 ?_|(apply bz;refine bo ?_)|fail)
 exact JM JA
theorem wl (i:Nat) (n:Int):bJ Tryz.prog 131 [aF i,aF n] (aF (qM i n)):=by
 refine aM Tryz.func131 rfl Tryz.ntmps131 rfl fun B=>?_
 repeat' (first|refine Ji ?_|refine JF a5 H6 ?_|(apply bz;refine bo ?_)|fail)
 exact JM JA
theorem z0 (l:List Int):bJ Tryz.prog 127 [.iptr [.imm 1 (aX l)]] (cu (d4 l qd)):=by
 refine aM Tryz.func127 rfl Tryz.ntmps127 rfl fun B=>?_
 repeat' (first|refine Ji ?_|refine JF a5 H6 ?_)
 refine b8 [] [] (mU (u:= .sc (.func (.func 129) #[] #[])) (g:=129) (caps:=[]) rfl l _ (fun _ _=>True) [] trivial (da (fun i x _=>wk i x))) rfl rfl (Jo _) rfl fun c L1 hc=>?_
 have hc:c=cu (d4 l qd):=hc
 subst hc
 unfold cu
 repeat' (first|refine Ji ?_|refine JF a5 H6 ?_)
 exact JS JB
theorem z2 (l:List Int):bJ Tryz.prog 130 [.iptr [.imm 1 (aX l)]] (cu (d4 l qM)):=by
 refine aM Tryz.func130 rfl Tryz.ntmps130 rfl fun B=>?_
 repeat' (first|refine Ji ?_|refine JF a5 H6 ?_)
 refine b8 [] [] (mU (u:= .sc (.func (.func 131) #[] #[])) (g:=131) (caps:=[]) rfl l _ (fun _ _=>True) [] trivial (da (fun i x _=>wl i x))) rfl rfl (Jo _) rfl fun c L1 hc=>?_
 have hc:c=cu (d4 l qM):=hc
 subst hc
 unfold cu
 repeat' (first|refine Ji ?_|refine JF a5 H6 ?_)
 exact JS JB
structure vK (f:b6) (T:List Int) (i:Nat) (D P:Int→Int):Prop where
 deep:∀z,0≤D z∧D z≤i
 many:∀z,0≤P z∧P z≤1000000
 done:∀(j:Nat) (z:Int),j < i→T[j]?=some z→∀gl,f.Glyphs[z.toNat]?=some gl→D z=dF D gl.Parts∧P z=pF P gl.Parts gl.Points.length
 rest:∀z,z∉T.take i→D z=0
theorem vK.start {f:b6} {T:List Int}:vK f T 0 (fun _=>0) (fun _=>0):=⟨fun _=>by simp,fun _=>by simp,fun j _ h=>absurd h (Nat.not_lt_zero _),fun _ _=>rfl⟩
theorem vK.next {f:b6} {T:List Int} (hf:vM f) (hT:j3 f.Glyphs.length (prt f) T) {i:Nat} {D P:Int→Int} (h:vK f T i D P) {x:Int} {gl:bv} (hx:T[i]?=some x) (hgl:f.Glyphs[x.toNat]?=some gl):vK f T (i+1) (ir D x (dF D gl.Parts)) (ir P x (pF P gl.Parts gl.Points.length)):=by
 have hgm:=Jw hgl
 have hnot:∀(j:Nat) (z:Int),j≤i→T[j]?=some z→∀g,f.Glyphs[z.toNat]?=some g→∀p∈g.Parts,p.Glyph≠x:=by
  intro j z hj hz g hg p hp e
  have h1:=hT.topo j z hz p.Glyph (by rw [tS hf hg];exact List.mem_map_of_mem hp)
  rw [e] at h1
  obtain ⟨k,hk⟩:=List.mem_iff_getElem?.1 h1
  rw [List.getElem?_take] at hk
  split at hk
  ·rename_i hlt
   obtain ⟨k1,k2⟩:=Jp hk
   obtain ⟨i1,i2⟩:=Jp hx
   have e1:=hT.nodup.idxOf_getElem k k1
   have e2:=hT.nodup.idxOf_getElem i i1
   rw [k2] at e1
   rw [i2] at e2
   omega
  ·cases hk
 have hd:=Hz h.deep gl.Parts
 have hp:=FM (k:=(gl.Points.length:Int)) h.many (by have:=hf.points gl hgm;omega) gl.Parts
 refine ⟨fun z=>?_,fun z=>?_,fun j z hj hz g hg=>?_,fun z hz=>?_⟩
 ·unfold ir
  split
  ·omega
  ·have:=h.deep z;omega
 ·unfold ir
  split
  ·exact hp
  ·exact h.many z
 ·rw [uD (D:=ir D x (dF D gl.Parts)) (D':=D) fun p hp=>kw (hnot j z (by omega) hz g hg p hp),vj (P:=ir P x (pF P gl.Parts gl.Points.length)) (P':=P) fun p hp=>kw (hnot j z (by omega) hz g hg p hp)]
  by_cases e:z=x
  ·subst e
   rw [hgl] at hg
   cases hg
   rw [lR,lR]
   exact ⟨rfl,rfl⟩
  ·rw [kw e,kw e]
   have hji:j < i:=by
    rcases Nat.lt_or_ge j i with h1 | h1
    ·exact h1
    ·have:j=i:=by omega
     subst this
     rw [hx] at hz
     cases hz
     exact absurd rfl e
   exact h.done j z hji hz g hg
 ·rw [List.take_add_one,hx,Option.toList_some,List.mem_append,List.mem_singleton] at hz
  rw [kw (fun e=>hz (.inr e))]
  exact h.rest z fun hm=>hz (.inl hm)
def mS (n:Nat) (D P:Int→Int):Int×Int:=gF [d4 ((cF n).map D) qd,d4 ((cF n).map P) qM]
set_option maxHeartbeats 8000000 in
theorem uC (f:b6) (hf:vM f) (hr:kL f.Glyphs.length (prt f)∨AC Tryz.prog 211 [bZ f] [] fun c _=>∃z:Int,c=aF z):AC Tryz.prog 56 [bZ f] [] fun c _=>(∃D P,jN f D P∧kL f.Glyphs.length (prt f)∧c=cu (mS f.Glyphs.length D P))∨(¬kL f.Glyphs.length (prt f)∧∃z:Int,c=cu (33,z)):=by
 refine aM Tryz.func56 rfl Tryz.ntmps56 rfl fun B=>?_
 have hn:=hf.n
 have hml:(f.Glyphs.map bO).length=f.Glyphs.length:=Ju ..
 repeat' (first|refine Ji ?_|refine JF a5 H6 ?_|refine bf ?_|fail)
 refine b8 [] [] (CL f hf.toFew hr) rfl rfl (Jo _) rfl fun c L1 hc=>?_
 refine aI (bH (List.nil_sublist _)) ?_
 rcases hc with ⟨T,hc,hT,hTl⟩ | ⟨hna,z,hc⟩
 rotate_left
 ·subst hc
  repeat' (first|refine Ji ?_|refine JF a5 H6 ?_|refine bC rfl ?_)
  exact JP JA (.inr ⟨hna,z,rfl⟩)
 subst hc
 have hall:=hT.all_of_len hTl
 have hacy:=hT.acyc hall
 have hTi:=aZ T
 repeat' (first|refine Ji ?_|refine JF a5 H6 ?_|refine bA rfl ?_)
 rw [hml]
 refine lm a5 f.Glyphs.length rfl rfl rfl rfl rfl rfl rfl (by omega) (by omega) rfl fun bd=>?_
 rw [show (List.replicate f.Glyphs.length (List.map AV.sc [Value.int .i64 0])).flatten=eu f.Glyphs.length fun _=>0 from oJ _]
 repeat' (first|refine Ji ?_|refine JF a5 H6 ?_|(apply aK;first|refine JH 7 a5 0 JE ?_|refine JH 7 a5 1 JE ?_|refine JH 7 a5 2 JE ?_|refine JH 8 a5 0 JE ?_|refine JH 8 a5 1 JE ?_|refine JH 8 a5 2 JE ?_|refine JH 12 a5 0 JE ?_|refine JH 12 a5 1 JE ?_|refine JH 12 a5 2 JE ?_|refine JG a5 0 JD ?_|refine JG a5 1 JD ?_|refine JG a5 2 JD ?_|refine JG a5 3 JD ?_|fail)|refine bj a5 fun _=>?_|fail)
 rw [hml]
 refine lm a5 f.Glyphs.length rfl rfl rfl rfl rfl rfl rfl (by omega) (by omega) rfl fun bp=>?_
 rw [show (List.replicate f.Glyphs.length (List.map AV.sc [Value.int .i64 0])).flatten=eu f.Glyphs.length fun _=>0 from oJ _]
 repeat' (first|refine Ji ?_|refine am ?_|refine JF a5 H6 ?_|(apply aK;first|refine JH 7 a5 0 JE ?_|refine JH 7 a5 1 JE ?_|refine JH 7 a5 2 JE ?_|refine JH 8 a5 0 JE ?_|refine JH 8 a5 1 JE ?_|refine JH 8 a5 2 JE ?_|refine JH 12 a5 0 JE ?_|refine JH 12 a5 1 JE ?_|refine JH 12 a5 2 JE ?_|refine JG a5 0 JD ?_|refine JG a5 1 JD ?_|refine JG a5 2 JD ?_|refine JG a5 3 JD ?_|fail)|refine bj a5 fun _=>?_|fail)
 refine aP [1,7,8,31,32] (α:=Nat×(Int→Int)×(Int→Int)) (fun x=>[(33,aF x.1)]) (fun x=>x.1≤f.Glyphs.length∧vK f T x.1 x.2.1 x.2.2) (fun x=>[(bp,.box (eu f.Glyphs.length x.2.2) 3),(bd,.box (eu f.Glyphs.length x.2.1) 3)]) (fun x=>f.Glyphs.length - x.1) (0,(fun _=>0),(fun _=>0)) rfl ⟨rfl,trivial⟩ ⟨Nat.zero_le _,vK.start⟩ (fun _ _ h=>h) ?_
 rintro ⟨i,D,P⟩ ⟨hi,hC⟩
 dsimp only at hi hC ⊢
 try dsimp only [Js,Jr,Jq,Jl]
 repeat' (first|refine Ji ?_|refine JF a5 H6 ?_)
 refine ar rfl (fun h=>?_) (fun h=>?_)
 ·have hil:i < T.length:=by have:=Jy h;rw [hTi] at this;omega
  obtain ⟨x,hx⟩:∃x,T[i]?=some x:=⟨_,Jz hil⟩
  have hxi:=bP hx
  have hxr:=hT.dom x (Jw hx)
  obtain ⟨gl,hgl⟩:∃z,f.Glyphs[x.toNat]?=some z:=⟨_,Jz (by omega)⟩
  have hgm:=Jw hgl
  have hgg:=bG (c:=bO) hgl
  have hpm:(gl.Points.map dA).length=gl.Points.length:=Ju ..
  have hpl:=hf.points gl hgm
  clear h
  repeat' (first|refine Ji ?_|refine am ?_|refine JF a5 H6 ?_|(apply aO;first|refine aN a5 ?_|refine aG a5 ?_)|fail)
  refine bw 10 [(0,.v),(1,.v),(2,.v),(3,.v),(4,.v),(5,.v),(6,.v),(7,.v),(8,.v),(9,.v)] none ?_ trivial rfl (by kernel_rfl) (by kernel_rfl) (by kernel_rfl) bR (by kernel_rfl) rfl
  repeat' (first|refine aD ?_|refine b7 a5 ?_|(apply bV;refine cn a5 ?_)|fail)
  refine JQ [1,7,8,10,31,32,33,37,38,46] H6 ?_
  repeat' (first|(apply aO;first|refine aN a5 ?_|refine aG a5 ?_)|fail)
  refine aa a5 0 rfl rfl rfl rfl rfl rfl (by rw [Nat.ble_eq,jX];show _+1≤_;omega) ?_
  rw [iR,mi hxr.1 hxr.2,hpm]
  repeat' (first|refine Ji ?_|refine am ?_|refine JF a5 H6 ?_|(apply aO;first|refine aN a5 ?_|refine aG a5 ?_)|fail)
  have hTx:x∉T.take i:=fun hm=>by
   obtain ⟨k,hk⟩:=List.mem_iff_getElem?.1 hm
   rw [List.getElem?_take] at hk
   split at hk
   ·obtain ⟨k1,k2⟩:=Jp hk
    obtain ⟨i1,i2⟩:=Jp hx
    have e1:=hT.nodup.idxOf_getElem k k1
    have e2:=hT.nodup.idxOf_getElem i i1
    rw [k2] at e1
    rw [i2] at e2
    omega
   ·cases hk
  have hD0:ir D x 0=D:=by
   funext q
   unfold ir
   split
   ·rename_i e;rw [e,hC.rest x hTx]
   ·rfl
  have hql:(gl.Parts.map eD).length=gl.Parts.length:=Ju ..
  have hqn:=hf.parts gl hgm
  refine aP [1,7,8,10,31,32,33,53,54] (α:=Nat) (fun j=>[(55,aF j)]) (fun j=>j≤gl.Parts.length) (fun j=>[(bp,.box (eu f.Glyphs.length (ir P x (pF P (gl.Parts.take j) gl.Points.length))) 3),(bd,.box (eu f.Glyphs.length (ir D x (dF D (gl.Parts.take j)))) 3)]) (fun j=>gl.Parts.length - j) 0 rfl ⟨rfl,trivial⟩ (Nat.zero_le _) (fun _ _ h=>by rw [List.take_zero,show dF D []=0 from rfl,hD0];exact h) fun j hj=>?_
  try dsimp only [Js,Jr,Jq,Jl]
  repeat' (first|refine Ji ?_|refine JF a5 H6 ?_)
  refine ar rfl (fun h=>?_) (fun h=>?_)
  ·have hjl:j < gl.Parts.length:=by have:=Jy h;omega
   obtain ⟨q,hq⟩:∃q,gl.Parts[j]?=some q:=⟨_,Jz hjl⟩
   have hqg:=bG (c:=eD) hq
   have hqr:=pB.1 (hf.there gl hgm q (Jw hq))
   have hne:q.Glyph≠x:=fun e=>by
    have h1:=hT.topo i x hx q.Glyph (by rw [tS hf hgl];exact List.mem_map_of_mem (Jw hq))
    rw [e] at h1
    exact hTx h1
   have hc1:(eu f.Glyphs.length (ir D x (dF D (gl.Parts.take j))))[0+x.toNat * 1]?=some (aF (dF D (gl.Parts.take j))):=by rw [jW hxr.1 hxr.2,lR]
   have hc2:(eu f.Glyphs.length (ir D x (dF D (gl.Parts.take j))))[0+q.Glyph.toNat * 1]?=some (aF (D q.Glyph)):=by rw [jW hqr.1 hqr.2,kw hne]
   have hc3:(eu f.Glyphs.length (ir P x (pF P (gl.Parts.take j) gl.Points.length)))[0+x.toNat * 1]?=some (aF (pF P (gl.Parts.take j) gl.Points.length)):=by rw [jW hxr.1 hxr.2,lR]
   have hc4:(eu f.Glyphs.length (ir P x (pF P (gl.Parts.take j) gl.Points.length)))[0+q.Glyph.toNat * 1]?=some (aF (P q.Glyph)):=by rw [jW hqr.1 hqr.2,kw hne]
   have hDq:=hC.deep q.Glyph
   have hPq:=hC.many q.Glyph
   have hPj:=FM (k:=(gl.Points.length:Int)) hC.many (by omega) (gl.Parts.take j)
   clear h
   repeat' (first|refine Ji ?_|refine am ?_|refine JF a5 H6 ?_|(apply aO;first|refine aN a5 ?_|refine aG a5 ?_)|(apply aK;first|refine JH 7 a5 0 JE ?_|refine JH 7 a5 1 JE ?_|refine JH 7 a5 2 JE ?_|refine JH 8 a5 0 JE ?_|refine JH 8 a5 1 JE ?_|refine JH 8 a5 2 JE ?_|refine JH 12 a5 0 JE ?_|refine JH 12 a5 1 JE ?_|refine JH 12 a5 2 JE ?_|refine JG a5 0 JD ?_|refine JG a5 1 JD ?_|refine JG a5 2 JD ?_|refine JG a5 3 JD ?_|fail)|refine bj a5 fun _=>?_|fail)
   refine bw 13 [(0,.v),(1,.v),(2,.v),(3,.v),(4,.v),(5,.l),(6,.v),(7,.v),(8,.v),(9,.v),(10,.l),(11,.v),(12,.v)] none ?_ trivial rfl (by kernel_rfl) (by kernel_rfl) (by kernel_rfl) bR (by kernel_rfl) rfl
   repeat' (first|refine aD ?_|refine b7 a5 ?_|fail)
   refine dl a5 rfl rfl rfl hxr trivial ?_
   repeat' (first|refine aD ?_|fail)
   refine ca a5 1 rfl rfl rfl hc1 trivial ?_
   repeat' (first|refine aD ?_|refine b7 a5 ?_|fail)
   refine dl a5 rfl rfl rfl hqr trivial ?_
   repeat' (first|refine aD ?_|fail)
   refine ca a5 1 rfl rfl rfl hc2 trivial ?_
   repeat' (first|refine aD ?_|refine b7 a5 ?_|(apply ea;refine fz ?_)|fail)
   refine JQ [1,7,8,10,12,31,32,33,53,54,55,59,60,71] H6 ?_
   repeat' (first|(apply aO;first|refine aN a5 ?_|refine aG a5 ?_)|fail)
   refine aa a5 1 rfl rfl rfl rfl rfl rfl (by rw [Nat.ble_eq,jX];show _+1≤_;omega) ?_
   rw [iR,mi hxr.1 hxr.2,sY,←E1 hq]
   repeat' (first|refine Ji ?_|fail)
   refine bw 13 [(0,.v),(1,.v),(2,.v),(3,.v),(4,.v),(5,.l),(6,.v),(7,.v),(8,.v),(9,.v),(10,.l),(11,.v),(12,.v)] none ?_ trivial rfl (by kernel_rfl) (by kernel_rfl) (by kernel_rfl) bR (by kernel_rfl) rfl
   repeat' (first|refine aD ?_|refine b7 a5 ?_|fail)
   refine dl a5 rfl rfl rfl hxr trivial ?_
   repeat' (first|refine aD ?_|fail)
   refine ca a5 0 rfl rfl rfl hc3 trivial ?_
   repeat' (first|refine aD ?_|refine b7 a5 ?_|fail)
   refine dl a5 rfl rfl rfl hqr trivial ?_
   repeat' (first|refine aD ?_|fail)
   refine ca a5 0 rfl rfl rfl hc4 trivial ?_
   repeat' (first|refine aD ?_|refine b7 a5 ?_|(apply ea;refine fz ?_)|fail)
   refine JQ [1,7,8,10,31,32,33,53,54,55,73,74,85] H6 ?_
   repeat' (first|(apply aO;first|refine aN a5 ?_|refine aG a5 ?_)|fail)
   refine aa a5 0 rfl rfl rfl rfl rfl rfl (by rw [Nat.ble_eq,jX];show _+1≤_;omega) ?_
   rw [iR,mi hxr.1 hxr.2,sY,←EM hq]
   repeat' (first|refine Ji ?_|refine JF a5 H6 ?_|(apply aS;refine aR ?_)|fail)
   exact aC (j+1) rfl ⟨by rw [Jv];rfl,trivial⟩ (by omega) (by omega) (fun _ _ h=>h)
  ·have hjl:j=gl.Parts.length:=by have:=Jx h;omega
   subst hjl
   rw [List.take_length]
   repeat' (first|refine Ji ?_|refine JF a5 H6 ?_|(apply aS;refine aR ?_)|fail)
   exact aC (i+1,_,_) rfl ⟨by rw [Jv];rfl,trivial⟩ ⟨by dsimp only;omega,hC.next hf hT hx hgl⟩ (by dsimp only;omega) (fun _ _ h=>h)
 ·have hil:i=f.Glyphs.length:=by have:=Jx h;rw [hTi] at this;omega
  subst hil
  clear h
  have hdeep:jN f D P:=by
   intro z h0 h1 gl hgl
   obtain ⟨j,hj⟩:=List.mem_iff_getElem?.1 (hall z h0 h1)
   exact hC.done j z (by have:=(Jp hj).1;omega) hj gl hgl
  have hcd:∀F:Int→Int,eu f.Glyphs.length F=(aX ((cF f.Glyphs.length).map F)).flatten:=fun F=>by rw [so];unfold eu;rw [List.map_map];rfl
  have hcl:∀F:Int→Int,(aX ((cF f.Glyphs.length).map F)).length=f.Glyphs.length:=fun F=>by rw [aZ,Ju,eP]
  refine c5 (sV (t:=7) (sz:=1) (l:=aX ((cF f.Glyphs.length).map D)) 1 rfl rfl (hcd D) (by simp [aX]) (hcl D) (by omega)) ?_
  refine c5 (sV (t:=8) (sz:=1) (l:=aX ((cF f.Glyphs.length).map P)) 1 rfl rfl (hcd P) (by simp [aX]) (hcl P) (by omega)) ?_
  repeat' (first|refine Ji ?_|refine JF a5 H6 ?_|refine bM a5 ?_|fail)
  refine b8 [] _ (ju [⟨127,[.iptr [.imm 1 (aX ((cF f.Glyphs.length).map D))]],[],(d4 ((cF f.Glyphs.length).map D) qd).1,(d4 ((cF f.Glyphs.length).map D) qd).2⟩,⟨130,[.iptr [.imm 1 (aX ((cF f.Glyphs.length).map P))]],[],(d4 ((cF f.Glyphs.length).map P) qM).1,(d4 ((cF f.Glyphs.length).map P) qM).2⟩] ⟨⟨inferInstance,z0 _⟩,fun _=>⟨⟨inferInstance,z2 _⟩,fun _=>trivial⟩⟩) rfl rfl (Jo _) rfl fun c L1 hc=>?_
  rw [ki] at hc
  have hc:c=cu (mS f.Glyphs.length D P):=hc
  subst hc
  unfold cu
  repeat' (first|refine Ji ?_|refine JF a5 H6 ?_)
  exact JP JA (.inl ⟨D,P,hdeep,hacy,rfl⟩)
theorem kB {err:Nat→Int}:∀(k i:Nat),(d9 err k i).1=0↔∀j,i≤j→j < i+k→err j=0
 | 0,i=>by simp only [d9,true_iff];intro j h1 h2;omega
 | k+1,i=>by
  simp only [d9]
  by_cases h:err i=0
  ·rw [if_pos h,kB k (i+1)]
   constructor
   ·intro hh j h1 h2
    by_cases e:j=i
    ·subst e;exact h
    ·exact hh j (by omega) (by omega)
   ·intro hh j h1 h2;exact hh j (by omega) (by omega)
  ·rw [if_neg h]
   constructor
   ·intro hh;exact absurd hh h
   ·intro hh;exact hh i (Nat.le_refl _) (by omega)
theorem qj {α:Type} {l:List α} {w:Nat→α→Int}:(d4 l w).1=0↔∀i x,l[i]?=some x→w i x=0:=by
 unfold d4 dc
 rw [kB]
 constructor
 ·intro h i x hx
  have:=h i (Nat.zero_le _) (by have:=(Jp hx).1;omega)
  rwa [iv hx] at this
 ·intro h j _ hj
  obtain ⟨x,hx⟩:∃x,l[j]?=some x:=⟨_,Jz (by omega)⟩
  rw [iv hx]
  exact h j x hx
theorem iT {α:Type} {most:Int} {l:List α} {w:Nat→α→Int}:(ct most l w).1=0↔(l.length:Int)≤most∧∀i x,l[i]?=some x→w i x=0:=by
 have h:=qj (l:=l) (w:=w)
 unfold d4 at h
 unfold ct d5
 by_cases hm:(l.length:Int) > most
 ·rw [if_pos hm]
  constructor
  ·intro hh;cases hh
  ·intro hh;omega
 ·rw [if_neg hm,h]
  exact ⟨fun hh=>⟨by omega,hh⟩,fun hh=>hh.2⟩
theorem dC:∀{l:List (Int×Int)},(gF l).1=0↔∀x∈l,x.1=0
 | []=>by simp [gF]
 | x::r=>by
  unfold gF
  by_cases h:x.1=0
  ·rw [if_pos h,dC]
   constructor
   ·intro hh y hy
    rcases List.mem_cons.1 hy with rfl | hy
    ·exact h
    ·exact hh y hy
   ·intro hh y hy;exact hh y (Jt _ hy)
  ·rw [if_neg h]
   constructor
   ·intro hh;exact absurd hh h
   ·intro hh;exact hh x (List.mem_cons_self ..)
theorem ji {f:b6} (h:(ct 400 f.Glyphs (ek f)).1=0):vM f:=by
 obtain ⟨h1,h2⟩:=iT.1 h
 have hg:∀gl∈f.Glyphs,∃name,od f gl name=0:=fun gl hgl=>by
  obtain ⟨i,hi⟩:=List.mem_iff_getElem?.1 hgl
  exact ⟨_,h2 i gl hi⟩
 have hgl:∀gl∈f.Glyphs,iS gl=0∧(ct 8 gl.Parts (m6 f)).1=0:=fun gl hm=>by
  obtain ⟨name,hn⟩:=hg gl hm
  unfold od at hn
  rw [dC] at hn
  exact ⟨hn (iS gl,0) (by simp),hn (ct 8 gl.Parts (m6 f)) (by simp)⟩
 refine ⟨⟨by omega,fun gl hm=>?_⟩,fun gl hm=>?_,fun gl hm p hp=>?_⟩
 ·have:=(iT.1 (hgl gl hm).2).1;omega
 ·have h3:=(hgl gl hm).1
  unfold iS at h3
  split at h3
  ·cases h3
  ·split at h3
   ·cases h3
   ·omega
 ·obtain ⟨i,hi⟩:=List.mem_iff_getElem?.1 hp
  have h3:=(iT.1 (hgl gl hm).2).2 i p hi
  unfold m6 at h3
  split at h3
  ·cases h3
  ·rename_i hh
   simpa using hh
theorem z8 {f:b6} (hf:vM f) (ha:kL f.Glyphs.length (prt f)) {D P D' P':Int→Int} (h:jN f D P) (h':jN f D' P'):∀z:Int,0≤z→z < f.Glyphs.length→D z=D' z∧P z=P' z:=by
 obtain ⟨r,hr⟩:=ha
 have:∀(k:Nat) (z:Int),r z < k→0≤z→z < f.Glyphs.length→D z=D' z∧P z=P' z:=by
  intro k
  induction k with
  | zero=>intro z hk;exact absurd hk (Nat.not_lt_zero _)
  | succ k ih=>
   intro z hk h0 h1
   obtain ⟨gl,hgl⟩:∃g,f.Glyphs[z.toNat]?=some g:=⟨_,Jz (by omega)⟩
   have hsm:∀p∈gl.Parts,D p.Glyph=D' p.Glyph∧P p.Glyph=P' p.Glyph:=fun p hp=>by
    have hin:=pB.1 (hf.there gl (Jw hgl) p hp)
    have:=hr z h0 h1 p.Glyph (by rw [tS hf hgl];exact List.mem_map_of_mem hp)
    exact ih p.Glyph (by omega) hin.1 hin.2
   obtain ⟨h2,h3⟩:=h z h0 h1 gl hgl
   obtain ⟨h4,h5⟩:=h' z h0 h1 gl hgl
   rw [h2,h3,h4,h5]
   exact ⟨uD fun p hp=>(hsm p hp).1,vj fun p hp=>(hsm p hp).2⟩
 intro z h0 h1
 exact this (r z+1) z (by omega) h0 h1
theorem wm {n:Nat} {D P D' P':Int→Int} (h:∀z:Int,0≤z→z < n→D z=D' z∧P z=P' z):mS n D P=mS n D' P':=by
 unfold mS
 rw [List.map_congr_left (f:=D) (g:=D') fun z hz=>(h z (ff.1 hz).1 (ff.1 hz).2).1,List.map_congr_left (f:=P) (g:=P') fun z hz=>(h z (ff.1 hz).1 (ff.1 hz).2).2]
open Classical in
noncomputable def mT (f:b6):Int×Int:=if h:∃q:(Int→Int)×(Int→Int),jN f q.1 q.2 then mS f.Glyphs.length h.choose.1 h.choose.2 else (33,0)
theorem q9 {f:b6} (hf:vM f) (ha:kL f.Glyphs.length (prt f)) {D P:Int→Int} (h:jN f D P):mT f=mS f.Glyphs.length D P:=by
 unfold mT
 have hex:∃q:(Int→Int)×(Int→Int),jN f q.1 q.2:=⟨(D,P),h⟩
 rw [dif_pos hex]
 exact wm (z8 hf ha hex.choose_spec h)
theorem E0 (f:b6) (hf:vM f) (ha:kL f.Glyphs.length (prt f)):AC Tryz.prog 55 [.iptr (cD f)] [] fun c _=>c=cu ((mT f).1,(mT f).2):=by
 refine aM Tryz.func55 rfl Tryz.ntmps55 rfl fun B=>?_
 repeat' (first|refine Ji ?_|refine JF a5 H6 ?_)
 refine b8 [] [] (uC f hf (.inl ha)) rfl rfl (Jo _) rfl fun c L1 hc=>?_
 rcases hc with ⟨D,P,h1,h2,hc⟩ | ⟨hna,_⟩
 ·rw [←q9 hf ha h1] at hc
  subst hc
  unfold cu
  repeat' (first|refine Ji ?_|refine JF a5 H6 ?_)
  exact JS JB
 ·exact absurd ha hna
def xU (_:Nat) (l:List g7):Int:=nq l
def oq (f:b6) (_:Nat) (r:List eZ):Int:=zT f.Axes.length r
def j9 (f:b6) (_:Nat) (l:aL):Int:=lK f l
noncomputable def BS (f:b6):List (Int×Int):=[(oQ f,0),ct 400 f.Glyphs (ek f),mT f,ct 1000 f.Chars (j6 f),ct 40 f.Lookups (j9 f),ct 20 f.Features (k6 f),ct 3 f.Axes (jV f),ct 16 f.Regions (oq f),ct 20 f.Funcs xU,ct 64 f.Cvt Bz]
noncomputable def mX (f:b6):Int×Int:=gF (BS f)
noncomputable def xT (f:b6) (m1 m2 m3:Nat):List Lk:=[⟨48,[.iptr (cD f)],[],oQ f,0⟩,
 ⟨112,[.iptr [.imm 9 (f.Glyphs.map bO)],.iptr [aF 400],.iptr [.fn 51 [.iptr (cD f),.iptr [.sc (.map (some m1))]]]],[(m1,cX .string (cN (kc f)))],(ct 400 f.Glyphs (ek f)).1,(ct 400 f.Glyphs (ek f)).2⟩,
 ⟨55,[.iptr (cD f)],[],(mT f).1,(mT f).2⟩,
 ⟨132,[.iptr [.imm 2 (f.Chars.map eh)],.iptr [aF 1000],.iptr [.fn 58 [.iptr (cD f)]]],[],(ct 1000 f.Chars (j6 f)).1,(ct 1000 f.Chars (j6 f)).2⟩,
 ⟨134,[.iptr [.imm 3 (f.Lookups.map bh)],.iptr [aF 40],.iptr [.fn 61 [.iptr (cD f)]]],[],(ct 40 f.Lookups (j9 f)).1,(ct 40 f.Lookups (j9 f)).2⟩,
 ⟨142,[.iptr [.imm 2 (f.Features.map cm)],.iptr [aF 20],.iptr [.fn 64 [.iptr (cD f),.iptr [.sc (.map (some m2))]]]],[(m2,cX .string (cN (ly f)))],(ct 20 f.Features (k6 f)).1,(ct 20 f.Features (k6 f)).2⟩,
 ⟨145,[.iptr [.imm 4 (f.Axes.map cL)],.iptr [aF 3],.iptr [.fn 68 [.iptr [.sc (.map (some m3))]]]],[(m3,cX .string (cN (iy f)))],(ct 3 f.Axes (jV f)).1,(ct 3 f.Axes (jV f)).2⟩,
 ⟨147,[.iptr [.imm 1 (f.Regions.map bT)],.iptr [aF 16],.iptr [.fn 71 [.iptr (cD f)]]],[],(ct 16 f.Regions (oq f)).1,(ct 16 f.Regions (oq f)).2⟩,
 ⟨151,[.iptr [.imm 1 (f.Funcs.map dD)],.iptr [aF 20],.iptr [.sc (.func (.func 74) #[] #[])]],[],(ct 20 f.Funcs xU).1,(ct 20 f.Funcs xU).2⟩,
 ⟨155,[.iptr [.imm 1 (f.Cvt.map yU)],.iptr [aF 64],.iptr [.sc (.func (.func 77) #[] #[])]],[],(ct 64 f.Cvt Bz).1,(ct 64 f.Cvt Bz).2⟩]
theorem wx (f:b6) (m1 m2 m3:Nat) (hA:(ct 400 f.Glyphs (ek f)).1=0→kL f.Glyphs.length (prt f)):wO (xT f m1 m2 m3):=by
 refine ⟨⟨inferInstance,zp f⟩,fun _=>⟨⟨inferInstance,?_⟩,fun h1=>⟨⟨inferInstance,E0 f (ji h1) (hA h1)⟩,fun _=>⟨⟨inferInstance,?_⟩,fun _=>⟨⟨inferInstance,?_⟩,fun _=>⟨⟨inferInstance,?_⟩,fun _=>⟨⟨inferInstance,?_⟩,fun _=>⟨⟨inferInstance,?_⟩,fun _=>⟨⟨inferInstance,?_⟩,fun _=>⟨⟨inferInstance,?_⟩,fun _=>trivial⟩⟩⟩⟩⟩⟩⟩⟩⟩⟩
 ·exact EY (u:= .fn 51 [.iptr (cD f),.iptr [.sc (.map (some m1))]]) rfl f.Glyphs 400 (fT f.Glyphs (ek f)) (fun _ L=>L=[(m1,cX .string (cN (kc f)))]) _ rfl fun _=>rx fun i x _=>wE f i x m1
 ·exact EZ (u:= .fn 58 [.iptr (cD f)]) rfl f.Chars 1000 (fT f.Chars (j6 f)) (fun _ _=>True) [] trivial fun hm=>da fun i x hx=>yY f i x hx hm
 ·exact F0 (u:= .fn 61 [.iptr (cD f)]) rfl f.Lookups 40 (fT f.Lookups (j9 f)) (fun _ _=>True) [] trivial fun _=>da fun i x _=>tq f i x
 ·exact F1 (u:= .fn 64 [.iptr (cD f),.iptr [.sc (.map (some m2))]]) rfl f.Features 20 (fT f.Features (k6 f)) (fun _ L=>L=[(m2,cX .string (cN (ly f)))]) _ rfl fun _=>rx fun i x _=>zh f i x m2
 ·exact F2 (u:= .fn 68 [.iptr [.sc (.map (some m3))]]) rfl f.Axes 3 (fT f.Axes (jV f)) (fun _ L=>L=[(m3,cX .string (cN (iy f)))]) _ rfl fun _=>rx fun i x _=>yN f i x m3
 ·exact F3 (u:= .fn 71 [.iptr (cD f)]) rfl f.Regions 16 (fT f.Regions (oq f)) (fun _ _=>True) [] trivial fun _=>da fun i x _=>vr f i x
 ·exact F4 (u:= .sc (.func (.func 74) #[] #[])) (g:=74) (caps:=[]) rfl f.Funcs 20 (fT f.Funcs xU) (fun _ _=>True) [] trivial fun _=>da fun i x _=>yZ i x
 ·exact F5 (u:= .sc (.func (.func 77) #[] #[])) (g:=77) (caps:=[]) rfl f.Cvt 64 (fT f.Cvt Bz) (fun _ _=>True) [] trivial fun _=>da fun i x _=>Bx i x
set_option maxHeartbeats 4000000 in
theorem Ev (f:b6) (hA:(ct 400 f.Glyphs (ek f)).1=0→kL f.Glyphs.length (prt f)):AC Tryz.prog 25 [bZ f] [] fun c _=>c=cu (mX f):=by
 refine aM Tryz.func25 rfl Tryz.ntmps25 rfl fun B=>?_
 repeat' (first|refine Ji ?_|refine JF a5 H6 ?_|refine bf ?_|fail)
 refine b8 [] _ (BN f.Glyphs) rfl rfl (Jo _) rfl fun c L1 ⟨m1,hc,hL⟩=>?_
 subst hc;subst hL
 repeat' (first|refine Ji ?_|refine JF a5 H6 ?_|(apply aK;first|refine JH 4 a5 0 JE ?_|refine JH 4 a5 1 JE ?_|refine JH 4 a5 2 JE ?_|refine JH 5 a5 0 JE ?_|refine JH 5 a5 1 JE ?_|refine JH 5 a5 2 JE ?_|refine JH 6 a5 0 JE ?_|refine JH 6 a5 1 JE ?_|refine JH 6 a5 2 JE ?_|refine JG a5 0 JD ?_|refine JG a5 1 JD ?_|refine JG a5 2 JD ?_|refine JG a5 3 JD ?_|fail)|refine bj a5 fun _=>?_|fail)
 refine b8 [] _ (BO f.Features) rfl rfl (Jo _) rfl fun c L1 ⟨m2,hc,hL⟩=>?_
 subst hc;subst hL
 repeat' (first|refine Ji ?_|refine JF a5 H6 ?_|(apply aK;first|refine JH 4 a5 0 JE ?_|refine JH 4 a5 1 JE ?_|refine JH 4 a5 2 JE ?_|refine JH 5 a5 0 JE ?_|refine JH 5 a5 1 JE ?_|refine JH 5 a5 2 JE ?_|refine JH 6 a5 0 JE ?_|refine JH 6 a5 1 JE ?_|refine JH 6 a5 2 JE ?_|refine JG a5 0 JD ?_|refine JG a5 1 JD ?_|refine JG a5 2 JD ?_|refine JG a5 3 JD ?_|fail)|refine bj a5 fun _=>?_|fail)
 refine b8 [] _ (BP f.Axes) rfl rfl (Jo _) rfl fun c L1 ⟨m3,hc,hL⟩=>?_
 subst hc;subst hL
 repeat' (first|refine Ji ?_|(apply aK;first|refine JH 4 a5 0 JE ?_|refine JH 4 a5 1 JE ?_|refine JH 4 a5 2 JE ?_|refine JH 5 a5 0 JE ?_|refine JH 5 a5 1 JE ?_|refine JH 5 a5 2 JE ?_|refine JH 6 a5 0 JE ?_|refine JH 6 a5 1 JE ?_|refine JH 6 a5 2 JE ?_|refine JG a5 0 JD ?_|refine JG a5 1 JD ?_|refine JG a5 2 JD ?_|refine JG a5 3 JD ?_|fail)|refine bj a5 fun _=>?_|fail)
 refine bw 36 [(0,.v),(1,.v),(2,.v),(3,.v),(4,.v),(5,.v),(6,.v),(7,.v),(8,.v),(9,.v),(10,.v),(11,.v),(12,.v),(13,.v),(14,.v),(15,.v),(16,.v),(17,.v),(18,.v),(19,.v),(20,.v),(21,.v),(22,.v),(23,.v),(24,.v),(25,.v),(26,.v),(27,.v),(28,.v),(29,.v),(30,.v),(31,.v),(32,.v),(33,.e),(34,.v),(35,.v)] none ?_ trivial rfl (by kernel_rfl) (by kernel_rfl) (by kernel_rfl) bR (by kernel_rfl) rfl
 repeat' (first|refine aD ?_|refine b7 a5 ?_|(apply cQ;refine dg ?_)|fail)
 refine dg (hc:=⟨GK f.Cvt 64⟩) ?_
 repeat' (first|refine aD ?_|refine ej a5 ?_|fail)
 refine il (L:=[(m3,cX .string (cN (iy f))),(m2,cX .string (cN (ly f))),(m1,cX .string (cN (kc f)))]) _ [] (ju (xT f m1 m2 m3) (wx f m1 m2 m3 hA)) rfl rfl (by rw [List.append_nil];exact (List.reverse_perm _).symm) trivial fun c L1 hc=>?_
 rw [ki] at hc
 have hc:c=cu (mX f):=hc
 subst hc
 unfold cu
 repeat' (first|refine aD ?_|refine b7 a5 ?_|fail)
 refine JQ [50,51] H6 ?_
 repeat' (first|refine Ji ?_|refine a7 ?_|refine JF a5 H6 ?_)
 exact JS JB
end Go.Proofs.YtpmdfoaadejmkaaGreatDoor
namespace Go.Proofs.YtpmdfoaadejmkaaGreatDoor
open Go.RowKit
attribute [local irreducible] AT bI AX AO Av Kt bi dx DA cK
def HU (c:UInt8) (m:Bool):bv:=⟨⟨#[c]⟩,0,m,[],[],[],[],[],[]⟩
def tQ:List bv:=[HU 97 false,HU 98 false,HU 99 false,HU 100 false,HU 109 true]
def fC (ls:List aL):b6:=⟨1000,tQ,[],ls,[],[],[],[],[]⟩
def D9:List aL:=[⟨3,false,[⟨[],[[0],[1]],[],[2],[],0⟩]⟩,⟨1,false,[⟨[],[[2]],[],[3],[],0⟩]⟩]
theorem r5 (ls:List aL):kL (fC ls).Glyphs.length (prt (fC ls)):=by
 refine ⟨fun _=>0,fun g h0 h1 p hp=>?_⟩
 exfalso
 have hg:g.toNat < 5:=by have:g < 5:=h1;omega
 unfold prt at hp
 obtain ⟨x,hx⟩:∃x,(fC ls).Glyphs[g.toNat]?=some x:=⟨_,Jz hg⟩
 have hm:x.Parts=[]:=by
  have:∀y∈tQ,y.Parts=[]:=by decide+kernel
  exact this x (Jw hx)
 rw [hx] at hp
 dsimp only at hp
 rw [hm] at hp
 simp at hp
theorem p8 (ls:List aL):(ct 400 tQ (ek (fC ls))).1=0:=by
 have h0:(ct 400 tQ (ek (fC []))).1=0:=by decide
 exact h0
theorem zO (ls:List aL):jN (fC ls) (fun _=>0) (fun _=>0):=by
 intro z h0 h1 gl hgl
 have h1:z < 5:=h1
 have:z=0∨z=1∨z=2∨z=3∨z=4:=by omega
 rcases this with rfl | rfl | rfl | rfl | rfl <;> (injection hgl with e;subst e;exact ⟨by decide,by decide⟩)
theorem vm {ls:List aL} (h:(ct 40 ls (j9 (fC ls))).1=0):(mX (fC ls)).1=0:=by
 refine dC.2 fun x hx=>?_
 have hc:(mT (fC ls)).1=0:=by
  rw [q9 (ji (p8 ls)) (r5 ls) (zO ls)]
  show (mS 5 (fun _=>0) (fun _=>0)).1=0
  decide
 simp only [BS,List.mem_cons,List.not_mem_nil,or_false] at hx
 rcases hx with rfl | rfl | rfl | rfl | rfl | rfl | rfl | rfl | rfl | rfl
 ·rfl
 ·exact p8 ls
 ·exact hc
 ·rfl
 ·exact h
 ·rfl
 ·rfl
 ·rfl
 ·rfl
 ·rfl
def Cj (ls:List aL):Bool:=decide ((ct 40 ls (j9 (fC ls))).1=0)
theorem lc:∀(l:List Int) (i:Nat) (g:Int),fv i (l++[g])=fv i l++[⟨g,(i+l.length:Nat),0,0,0,0⟩]
 | [],i,g=>rfl
 | x::l,i,g=>by
  rw [Js,fv,lc l (i+1) g,fv,Js,List.length_cons,show i+1+l.length=i+(l.length+1) by omega]
theorem lX:∀(l:List Int) (i:Nat),(fv i l).length=l.length
 | [],_=>rfl
 | x::l,i=>by rw [fv,List.length_cons,lX l,List.length_cons]
theorem zt (l:List Int) (hl:l.length≤1000000):bJ Tryz.prog 29 [.imm 1 (aX l)] (.imm 6 ((eU l).map aY)):=by
 refine aM Tryz.func29 rfl Tryz.ntmps29 rfl fun B=>?_
 have hil:=aZ l
 repeat' (first|refine Ji ?_|refine am ?_|refine JF a5 H6 ?_|refine lj (d:=5) a5 fun _=>?_|fail)
 refine aP [0] (α:=Nat×Option (Nat×Nat)) (fun s=>[(4,aF s.1),(3,.vec s.2 6 ((eU (l.take s.1)).map aY))]) (fun s=>s.1≤l.length) (fun s=>tok s.2 67 6 s.1) (fun s=>l.length - s.1) (0,some (_,0)) rfl ⟨rfl,rfl,trivial⟩ (Nat.zero_le _) (fun _ _ h=>h) ?_
 rintro ⟨i,q⟩ hi
 dsimp only at hi ⊢
 try dsimp only [Js,Jr,Jq,Jl]
 repeat' (first|refine Ji ?_|refine JF a5 H6 ?_)
 refine ar rfl (fun h1=>?_) (fun h1=>?_)
 ·have hi2:i < l.length:=by have:=Jy h1;omega
  obtain ⟨g,hg⟩:∃z,l[i]?=some z:=⟨_,Jz hi2⟩
  have hgg:=bP hg
  have hml:((eU (l.take i)).map aY).length=i:=by unfold eU;rw [Ju,lX,List.length_take];omega
  have hsn:(eU (l.take i)).map aY++[aY ⟨g,(i:Nat),0,0,0,0⟩]=(eU (l.take (i+1))).map aY:=by
   rw [List.take_add_one,hg]
   unfold eU
   show _=(fv 0 (l.take i++[g])).map aY
   rw [lc,List.map_append,List.length_take,Nat.min_eq_left (by omega),Nat.zero_add]
   rfl
  generalize (eU (l.take i)).map aY=A0 at *
  clear h1
  repeat' (first|refine Ji ?_|refine am ?_|refine JF a5 H6 ?_|(apply aO;first|refine aN a5 ?_|refine aG a5 ?_)|refine bM a5 ?_|fail)
  refine bK a5 [] rfl rfl rfl rfl (by rw [hml,List.append_nil]) (by rw [hml];simp;omega) (by rw [hml];simp;omega) rfl fun q'=>?_
  repeat' (first|refine Ji ?_|refine JF a5 H6 ?_|(apply aS;refine aR ?_)|fail)
  refine aC (i+1,q') rfl ⟨by rw [Jv];rfl,by dsimp only;rw [←hsn];rfl,trivial⟩ hi2 (by dsimp only;omega) (fun _ _ h=>?_)
  rw [List.length_append,hml,List.append_nil] at h
  exact h
 ·have hi2:i=l.length:=by have:=Jx h1;omega
  subst hi2
  rw [List.take_length]
  clear h1
  repeat' (first|refine Ji ?_|refine JF a5 H6 ?_)
  refine bk (bQ (t:=2) (c':= .imm 6 ((eU l).map aY)) rfl fun σ v h=>VR.im h) ?_
  refine dT (List.nil_sublist _) ?_
  exact JM JA
theorem wF (run:List aJ) (l:List Int) (hl:l.length≤1000000):bJ Tryz.prog 30 [.imm 6 (run.map aY),.imm 1 (aX l)] (dV (decide (run.map aJ.Glyph=l))):=by
 refine aM Tryz.func30 rfl Tryz.ntmps30 rfl fun B=>?_
 have hil:=aZ l
 have hrl:(run.map aY).length=run.length:=Ju ..
 repeat' (first|refine Ji ?_|refine JF a5 H6 ?_)
 refine ar rfl (fun h1=>?_) (fun h1=>?_)
 ·have hne:¬run.length=l.length:=by have:=Jy h1;omega
  rw [decide_eq_false (fun e=>hne (by rw [←e,Ju]))]
  repeat' (first|refine Ji ?_|refine JF a5 H6 ?_)
  exact JM JA
 ·have heq:run.length=l.length:=by have:=Jx h1;omega
  clear h1
  repeat' (first|refine Ji ?_|refine am ?_|refine JF a5 H6 ?_)
  refine aP [0,1] (α:=Nat) (fun i=>[(5,aF i)]) (fun i=>i≤l.length∧(run.map aJ.Glyph).take i=l.take i) (fun _=>[]) (fun i=>l.length - i) 0 rfl ⟨rfl,trivial⟩ ⟨Nat.zero_le _,rfl⟩ (fun _ _ h=>h) ?_
  rintro i ⟨hi,hti⟩
  try dsimp only [Js,Jr,Jq,Jl]
  repeat' (first|refine Ji ?_|refine JF a5 H6 ?_)
  refine ar rfl (fun h1=>?_) (fun h1=>?_)
  ·have hi2:i < l.length:=by have:=Jy h1;omega
   obtain ⟨g,hg⟩:∃z,l[i]?=some z:=⟨_,Jz hi2⟩
   obtain ⟨x,hx⟩:∃z,run[i]?=some z:=⟨_,Jz (by omega)⟩
   have hgg:=bP hg
   have hxg:(run.map aY)[i]?=some (aY x):=by simp [hx]
   have hmg:(run.map aJ.Glyph)[i]?=some x.Glyph:=by simp [hx]
   clear h1
   repeat' (first|refine Ji ?_|refine am ?_)
   refine bw 9 [(0,.v),(1,.v),(2,.v),(3,.v),(4,.v),(5,.v),(6,.v),(7,.v),(8,.v)] none ?_ trivial rfl (by kernel_rfl) (by kernel_rfl) (by kernel_rfl) bR (by kernel_rfl) rfl
   repeat' (first|refine aD ?_|refine b7 a5 ?_|(apply bV;refine cn a5 ?_)|fail)
   refine JQ [0,1,5,21,25] H6 ?_
   repeat' (first|refine Ji ?_|refine a7 ?_|refine JF a5 H6 ?_)
   refine ar rfl (fun h1=>?_) (fun h1=>?_)
   ·have hne:x.Glyph≠g:=Jy h1
    rw [decide_eq_false (fun e=>hne (by rw [e,hg] at hmg;cases hmg;rfl))]
    repeat' (first|refine Ji ?_|refine JF a5 H6 ?_)
    exact JM JA
   ·have heg:x.Glyph=g:=by have h1':¬x.Glyph≠g:=Jx h1;exact Classical.not_not.1 h1'
    repeat' (first|refine Ji ?_|refine JF a5 H6 ?_|(apply aS;refine aR ?_)|fail)
    exact aC (i+1) rfl ⟨by rw [Jv];rfl,trivial⟩ ⟨hi2,by rw [List.take_add_one,List.take_add_one,hti,hg,hmg,heg]⟩ (by omega) (fun _ _ h=>h)
  ·have hi2:i=l.length:=by have:=Jx h1;omega
   subst hi2
   rw [List.take_length,List.take_of_length_le (by rw [Ju];omega)] at hti
   rw [decide_eq_true hti]
   repeat' (first|refine Ji ?_|refine JF a5 H6 ?_)
   exact JM JA
theorem zj {f:b6} (hr:(mX f).1=0) (ha:kL f.Glyphs.length (prt f)):AC Tryz.prog 25 [bZ f] [] fun c _=>∃n:Int,c=cu (0,n):=
 AC.mono (Ev f fun _=>ha) fun c L hc=>⟨(mX f).2,by rw [hc,←hr]⟩
def D6 (N:Nat) (s:List Int):Bool:=decide (s.Pairwise (· < ·)) && s.all fun g=>decide (0≤g) && decide (g < (N:Int))
def CY (N:Nat) (r:bc):Bool:=r.Back.all (D6 N) && (r.In.all (D6 N) && (r.Ahead.all (D6 N) && (decide (r.Back.length≤200) && (decide (r.In.length+r.Ahead.length≤200) && (decide (r.Out.length≤1000000) && (decide (r.Calls.length≤1000000) && r.Calls.all fun c=>decide (0≤c.At) && decide (c.At≤1000000)))))))
def y5 (N:Nat) (l:aL):Bool:=decide (l.Rules.length≤6) && l.Rules.all (CY N)
theorem tV {N:Nat} {s:List Int} (h:D6 N s=true):ky s∧∀g∈s,0≤g∧g < (N:Int):=by
 unfold D6 at h
 simp only [Bool.and_eq_true,decide_eq_true_eq,List.all_eq_true] at h
 exact h
structure AH (N:Nat) (r:bc):Prop where
 b:u4 N r
 out:r.Out.length≤1000000
 calls:r.Calls.length≤1000000
 at_:∀c∈r.Calls,0≤c.At∧c.At≤1000000
theorem D0 {N:Nat} {r:bc} (h:CY N r=true):AH N r:=by
 unfold CY at h
 simp only [Bool.and_eq_true,decide_eq_true_eq,List.all_eq_true] at h
 obtain ⟨h1,h2,h3,h4,h5,h6,h7,h8⟩:=h
 exact ⟨⟨fun s hs=>tV (h1 s hs),fun s hs=>tV (h2 s hs),fun s hs=>tV (h3 s hs),h4,h5⟩,h6,h7,h8⟩
structure iZ (f:b6):Prop where
 glyphs:0 < f.Glyphs.length∧f.Glyphs.length≤65536
 lookups:f.Lookups.length≤1000000
 few:∀l∈f.Lookups,l.Rules.length≤6
 rule:∀l∈f.Lookups,∀r∈l.Rules,AH f.Glyphs.length r
theorem iZ.new {f:b6} (h:iZ f):Fp f:=by
 refine ⟨h.glyphs,h.lookups,fun l hl=>⟨h.few l hl,fun r hr=>(h.rule l hl r hr).b⟩,fun l hl r hr=>?_⟩
 have hb:=h.rule l hl r hr
 have hg:=h.glyphs.2
 exact ⟨⟨by have:=hb.b.long;omega,fun s hs=>by have:=fD (gX (hb.b.in_ s hs).1) (hb.b.in_ s hs).2;omega⟩,hb.out,hb.calls⟩
theorem iZ.eng {f:b6} (h:iZ f) {E:pp} (hE:Hb f E):lV E:=⟨hE.auto,fun e he r hr hin=>by
 have hl:e.l∈f.Lookups:=by rw [←hE.ls];exact List.mem_map.2 ⟨e,he,rfl⟩
 have hb:=h.rule e.l hl r hr
 exact ⟨hin,hb.out,hb.calls,hb.at_⟩⟩
theorem CF {f:b6} (h:iZ f) (hr:(mX f).1=0) (ha:kL f.Glyphs.length (prt f)):AC Tryz.prog 15 [bZ f] [] fun c _=>∃E,lV E∧E.ls=f.Lookups∧E.ms=f.Glyphs.map bv.Mark∧c= .tup [.iptr (ei E),aF 0]:=
 AC.mono (GU f h.new (zj hr ha)) fun c L ⟨E,hE,hc⟩=>⟨E,h.eng hE,hE.ls,hE.ms,hc⟩
theorem GW {ls:List aL} (h:ls.all (y5 5)=true) (hl:ls.length≤1000000):iZ (fC ls):=by
 rw [List.all_eq_true] at h
 have hh:∀l∈ls,l.Rules.length≤6∧∀r∈l.Rules,AH 5 r:=fun l hl=>by
  have:=h l hl
  unfold y5 at this
  simp only [Bool.and_eq_true,decide_eq_true_eq,List.all_eq_true] at this
  exact ⟨this.1,fun r hr=>D0 (this.2 r hr)⟩
 exact ⟨⟨Nat.succ_pos _,by show (5:Nat)≤65536;omega⟩,hl,fun l hl=>(hh l hl).1,fun l hl=>(hh l hl).2⟩
theorem zQ {ls:List aL} (h:ls.all (y5 5)=true) (hl:ls.length≤1000000) (hr:(mX (fC ls)).1=0):AC Tryz.prog 15 [bZ (fC ls)] [] fun c _=>∃E,lV E∧E.ls=ls∧E.ms=km∧c= .tup [.iptr (ei E),aF 0]:=
 AC.mono (CF (GW h hl) hr (r5 ls)) fun c L ⟨E,h1,h2,h3,h4⟩=>⟨E,h1,h2,h3,h4⟩
theorem zP (ls:List aL):bJ Tryz.prog 28 [.imm 3 (ls.map bh)] (bZ (fC ls)):=by
 refine aM Tryz.func28 rfl Tryz.ntmps28 rfl fun B=>?_
 repeat' (first|refine Ji ?_|refine JF a5 H6 ?_|(apply aK;first|refine JG a5 0 JD ?_|refine JG a5 1 JD ?_|refine JG a5 2 JD ?_|refine JG a5 3 JD ?_|fail)|refine bj a5 fun _=>?_|refine bM a5 ?_|fail)
 refine bk (bD 0 (cs':=cD (fC ls)) rfl fun σ vs h=>mH.vrs ?_ h) (xJ a5 0 rfl rfl rfl rfl rfl rfl)
 repeat' first | exact cU.refl _ | exact cU.nil _ | exact True.intro | refine cU.agg ?_ | refine cU.imm ?_ | refine And.intro ?_ ?_
end Go.Proofs.YtpmdfoaadejmkaaGreatDoor
