/-
  The program: how deep glyphs are, and how many points they have.
-/
import Derived.Test.YtpmdfoaadejmkaaGreatDoorM24
import Derived.Test.YtpmdfoaadejmkaaGreatDoorM20
import Derived.Test.YtpmdfoaadejmkaaGreatDoorM21
namespace Go.Proofs.YtpmdfoaadejmkaaGreatDoor
open Go.RowKit
attribute [local irreducible] AT br AX AO Av Kt bb df DA cC
def dF (D:Int→Int) (ps:List dB):Int:=ps.foldl (fun a p=>max a (D p.Glyph+1)) 0
def pF (P:Int→Int) (ps:List dB) (k:Int):Int:=ps.foldl (fun a p=>min (a+P p.Glyph) 1001) k
def dV (n:Nat) (D:Int→Int):List AV:=(cz n).map fun z=>aF (D z)
def gY (D:Int→Int) (z v:Int):Int→Int:=fun q=>if q=z then v else D q
theorem lg {D:Int→Int} {z v:Int}:gY D z v z=v:=by simp [gY]
theorem jS {D:Int→Int} {z v q:Int} (h:q≠z):gY D z v q=D q:=by simp [gY,h]
theorem rR (D:Int→Int) (z v w:Int):gY (gY D z v) z w=gY D z w:=by
 funext q
 unfold gY
 by_cases e:q=z
 ·rw [if_pos e,if_pos e]
 ·rw [if_neg e,if_neg e,if_neg e]
theorem jw (n:Nat) (D:Int→Int):(dV n D).length=n:=by simp [dV,cz]
theorem jv {n:Nat} {D:Int→Int} {z:Int} (h0:0≤z) (h1:z < n):(dV n D)[0+z.toNat * 1]?=some (aF (D z)):=by
 rw [Nat.zero_add,Nat.mul_one]
 unfold dV
 rw [List.getElem?_map,jk (by omega),Option.map_some,show ((z.toNat:Nat):Int)=z by omega]
theorem lE {n:Nat} {D:Int→Int} {z v:Int} (h0:0≤z) (h1:z < n):(dV n D).set (0+z.toNat * 1) (aF v)=dV n (gY D z v):=by
 rw [Nat.zero_add,Nat.mul_one]
 apply List.ext_getElem?
 intro i
 rw [List.getElem?_set,jw]
 unfold dV gY
 by_cases hi:z.toNat=i
 ·subst hi
  rw [if_pos rfl,if_pos (by omega),List.getElem?_map,jk (by omega),Option.map_some,if_pos (by omega)]
 ·rw [if_neg hi,List.getElem?_map,List.getElem?_map]
  by_cases hn:i < n
  ·rw [jk hn,Option.map_some,Option.map_some,if_neg (by omega)]
  ·rw [List.getElem?_eq_none (by rw [eE];omega)];rfl
theorem nT (n:Nat):(List.replicate n [aF 0]).flatten=dV n fun _=>0:=by
 rw [wI (cz n) n (eE n).symm]
 unfold fH dV
 rw [List.take_zero,Ir,Nat.sub_zero,eE,List.map_replicate]
 apply List.ext_getElem?
 intro i
 rw [List.getElem?_replicate,List.getElem?_map]
 by_cases h:i < n
 ·rw [if_pos h,jk h];rfl
 ·rw [if_neg h,List.getElem?_eq_none (by rw [eE];omega)];rfl
theorem CL {D:Int→Int} {ps:List dB} {j:Nat} {p:dB} (h:ps[j]?=some p):dF D (ps.take (j+1))=max (dF D (ps.take j)) (D p.Glyph+1):=by
 unfold dF
 rw [List.take_add_one,h,Option.toList_some,List.foldl_append]
 rfl
theorem Dt {P:Int→Int} {ps:List dB} {k:Int} {j:Nat} {p:dB} (h:ps[j]?=some p):pF P (ps.take (j+1)) k=min (pF P (ps.take j) k+P p.Glyph) 1001:=by
 unfold pF
 rw [List.take_add_one,h,Option.toList_some,List.foldl_append]
 rfl
theorem lI {α β:Type} {F G:α→β→α}:∀(l:List β) (a:α),(∀b∈l,∀a,F a b=G a b)→l.foldl F a=l.foldl G a
 | [],_,_=>rfl
 | b::l,a,h=>by rw [List.foldl_cons,List.foldl_cons,h b (List.mem_cons_self ..)];exact lI l _ fun c hc=>h c (It _ hc)
theorem tC {D D':Int→Int} {ps:List dB} (h:∀p∈ps,D p.Glyph=D' p.Glyph):dF D ps=dF D' ps:=lI ps 0 fun p hp a=>by rw [h p hp]
theorem uf {P P':Int→Int} {ps:List dB} {k:Int} (h:∀p∈ps,P p.Glyph=P' p.Glyph):pF P ps k=pF P' ps k:=lI ps k fun p hp a=>by rw [h p hp]
theorem Gi {D:Int→Int} {m:Int} (h:∀z,0≤D z∧D z≤m):∀(ps:List dB),0≤dF D ps∧dF D ps≤m+1:=by
 intro ps
 have hm:0≤m:=by have:=h 0;omega
 have:∀(ps:List dB) (a:Int),0≤a→a≤m+1→0≤ps.foldl (fun a p=>max a (D p.Glyph+1)) a∧ps.foldl (fun a p=>max a (D p.Glyph+1)) a≤m+1:=by
  intro ps
  induction ps with
  | nil=>intro a h0 h1;exact ⟨h0,h1⟩
  | cons p ps ih=>intro a h0 h1;have:=h p.Glyph;exact ih (max a (D p.Glyph+1)) (by omega) (by omega)
 exact this ps 0 (by omega) (by omega)
theorem Er {P:Int→Int} {k:Int} (h:∀z,0≤P z∧P z≤1000000) (hk:0≤k∧k≤1000000) (ps:List dB):0≤pF P ps k∧pF P ps k≤1000000:=by
 unfold pF
 induction ps generalizing k with
 | nil=>exact hk
 | cons p ps ih=>have:=h p.Glyph;exact ih (k:=min (k+P p.Glyph) 1001) (by omega)
def jm (f:aY) (D P:Int→Int):Prop:=∀z:Int,0≤z→z < f.Glyphs.length→∀gl,f.Glyphs[z.toNat]?=some gl→D z=dF D gl.Parts∧P z=pF P gl.Parts gl.Points.length
structure uI (f:aY):Prop extends Few f where
 points:∀gl∈f.Glyphs,gl.Points.length≤1000000
 there:∀gl∈f.Glyphs,∀p∈gl.Parts,kF f p.Glyph=true
theorem sJ {f:aY} (hf:uI f) {z:Int} {gl:bj} (h:f.Glyphs[z.toNat]?=some gl):prt f z=gl.Parts.map dB.Glyph:=by
 unfold prt
 rw [h]
 refine List.filter_eq_self.2 fun y hy=>?_
 obtain ⟨p,hp,rfl⟩:=List.mem_map.1 hy
 exact hf.there gl (Iw h) p hp
def pt (_:Nat) (levels:Int):Int:=dK (decide (levels > 4)) 34
def pM (_:Nat) (all:Int):Int:=dK (decide (all≥1001)) 2
theorem vc (i:Nat) (n:Int):bN Tryz.prog 129 [aF i,aF n] (aF (pt i n)):=by
 refine aN Tryz.func129 rfl Tryz.ntmps129 rfl fun B=>?_
 repeat' (first|refine If ?_|refine IF a5 FN ?_|(apply bv;refine bn ?_)|fail)
 exact IM IA
theorem vd (i:Nat) (n:Int):bN Tryz.prog 131 [aF i,aF n] (aF (pM i n)):=by
 refine aN Tryz.func131 rfl Tryz.ntmps131 rfl fun B=>?_
 repeat' (first|refine If ?_|refine IF a5 FN ?_|(apply bv;refine bn ?_)|fail)
 exact IM IA
theorem xN (l:List Int):bN Tryz.prog 127 [.iptr [.imm 1 (aT l)]] (ck (cU l pt)):=by
 refine aN Tryz.func127 rfl Tryz.ntmps127 rfl fun B=>?_
 repeat' (first|refine If ?_|refine IF a5 FN ?_)
 refine b9 [] [] (mf (u:= .sc (.func (.func 129) #[] #[])) (g:=129) (caps:=[]) rfl l _ (fun _ _=>True) [] trivial (d3 (fun i x _=>vc i x))) rfl rfl (Io _) rfl fun c L1 hc=>?_
 have hc:c=ck (cU l pt):=hc
 subst hc
 unfold ck
 repeat' (first|refine If ?_|refine IF a5 FN ?_)
 exact aX rfl rfl rfl rfl
theorem xO (l:List Int):bN Tryz.prog 130 [.iptr [.imm 1 (aT l)]] (ck (cU l pM)):=by
 refine aN Tryz.func130 rfl Tryz.ntmps130 rfl fun B=>?_
 repeat' (first|refine If ?_|refine IF a5 FN ?_)
 refine b9 [] [] (mf (u:= .sc (.func (.func 131) #[] #[])) (g:=131) (caps:=[]) rfl l _ (fun _ _=>True) [] trivial (d3 (fun i x _=>vd i x))) rfl rfl (Io _) rfl fun c L1 hc=>?_
 have hc:c=ck (cU l pM):=hc
 subst hc
 unfold ck
 repeat' (first|refine If ?_|refine IF a5 FN ?_)
 exact aX rfl rfl rfl rfl
structure uG (f:aY) (T:List Int) (i:Nat) (D P:Int→Int):Prop where
 deep:∀z,0≤D z∧D z≤i
 many:∀z,0≤P z∧P z≤1000000
 done:∀(j:Nat) (z:Int),j < i→T[j]?=some z→∀gl,f.Glyphs[z.toNat]?=some gl→D z=dF D gl.Parts∧P z=pF P gl.Parts gl.Points.length
 rest:∀z,z∉T.take i→D z=0
theorem uG.start {f:aY} {T:List Int}:uG f T 0 (fun _=>0) (fun _=>0):=⟨fun _=>by simp,fun _=>by simp,fun j _ h=>absurd h (Nat.not_lt_zero _),fun _ _=>rfl⟩
theorem uG.next {f:aY} {T:List Int} (hf:uI f) (hT:iC f.Glyphs.length (prt f) T) {i:Nat} {D P:Int→Int} (h:uG f T i D P) {x:Int} {gl:bj} (hx:T[i]?=some x) (hgl:f.Glyphs[x.toNat]?=some gl):uG f T (i+1) (gY D x (dF D gl.Parts)) (gY P x (pF P gl.Parts gl.Points.length)):=by
 have hgm:=Iw hgl
 have hnot:∀(j:Nat) (z:Int),j≤i→T[j]?=some z→∀g,f.Glyphs[z.toNat]?=some g→∀p∈g.Parts,p.Glyph≠x:=by
  intro j z hj hz g hg p hp e
  have h1:=hT.topo j z hz p.Glyph (by rw [sJ hf hg];exact List.mem_map_of_mem hp)
  rw [e] at h1
  obtain ⟨k,hk⟩:=List.mem_iff_getElem?.1 h1
  rw [List.getElem?_take] at hk
  split at hk
  ·rename_i hlt
   obtain ⟨k1,k2⟩:=Ip hk
   obtain ⟨i1,i2⟩:=Ip hx
   have e1:=hT.nodup.idxOf_getElem k k1
   have e2:=hT.nodup.idxOf_getElem i i1
   rw [k2] at e1
   rw [i2] at e2
   omega
  ·cases hk
 have hd:=Gi h.deep gl.Parts
 have hp:=Er (k:=(gl.Points.length:Int)) h.many (by have:=hf.points gl hgm;omega) gl.Parts
 refine ⟨fun z=>?_,fun z=>?_,fun j z hj hz g hg=>?_,fun z hz=>?_⟩
 ·unfold gY
  split
  ·omega
  ·have:=h.deep z;omega
 ·unfold gY
  split
  ·exact hp
  ·exact h.many z
 ·rw [tC (D:=gY D x (dF D gl.Parts)) (D':=D) fun p hp=>jS (hnot j z (by omega) hz g hg p hp),uf (P:=gY P x (pF P gl.Parts gl.Points.length)) (P':=P) fun p hp=>jS (hnot j z (by omega) hz g hg p hp)]
  by_cases e:z=x
  ·subst e
   rw [hgl] at hg
   cases hg
   rw [lg,lg]
   exact ⟨rfl,rfl⟩
  ·rw [jS e,jS e]
   have hji:j < i:=by
    rcases Nat.lt_or_ge j i with h1 | h1
    ·exact h1
    ·have:j=i:=by omega
     subst this
     rw [hx] at hz
     cases hz
     exact absurd rfl e
   exact h.done j z hji hz g hg
 ·rw [List.take_add_one,hx,Option.toList_some,List.mem_append,List.mem_singleton] at hz
  rw [jS (fun e=>hz (.inr e))]
  exact h.rest z fun hm=>hz (.inl hm)
def md (n:Nat) (D P:Int→Int):Int×Int:=gt [cU ((cz n).map D) pt,cU ((cz n).map P) pM]
set_option maxHeartbeats 8000000 in
theorem tA (f:aY) (hf:uI f) (hr:k9 f.Glyphs.length (prt f)∨AC Tryz.prog 211 [cQ f] [] fun c _=>∃z:Int,c=aF z):AC Tryz.prog 56 [cQ f] [] fun c _=>(∃D P,jm f D P∧k9 f.Glyphs.length (prt f)∧c=ck (md f.Glyphs.length D P))∨(¬k9 f.Glyphs.length (prt f)∧∃z:Int,c=ck (33,z)):=by
 refine aN Tryz.func56 rfl Tryz.ntmps56 rfl fun B=>?_
 have hn:=hf.n
 have hml:(f.Glyphs.map bL).length=f.Glyphs.length:=Iu ..
 repeat' (first|refine If ?_|refine IF a5 FN ?_|refine bk ?_|fail)
 refine b9 [] [] (By f hf.toFew hr) rfl rfl (Io _) rfl fun c L1 hc=>?_
 refine aJ (bM (List.nil_sublist _)) ?_
 rcases hc with ⟨T,hc,hT,hTl⟩ | ⟨hna,z,hc⟩
 rotate_left
 ·subst hc
  repeat' (first|refine If ?_|refine IF a5 FN ?_|refine bQ rfl ?_)
  exact IS IA (.inr ⟨hna,z,rfl⟩)
 subst hc
 have hall:=hT.all_of_len hTl
 have hacy:=hT.acyc hall
 have hTi:=aZ T
 repeat' (first|refine If ?_|refine IF a5 FN ?_|refine bI rfl ?_)
 rw [hml]
 refine kL a5 f.Glyphs.length rfl rfl rfl rfl rfl rfl rfl (by omega) (by omega) rfl fun bd=>?_
 rw [show (List.replicate f.Glyphs.length (List.map AV.sc [Value.int .i64 0])).flatten=dV f.Glyphs.length fun _=>0 from nT _]
 repeat' (first|refine If ?_|refine IF a5 FN ?_|(apply aM;first|refine IH 7 a5 0 IE ?_|refine IH 7 a5 1 IE ?_|refine IH 7 a5 2 IE ?_|refine IH 8 a5 0 IE ?_|refine IH 8 a5 1 IE ?_|refine IH 8 a5 2 IE ?_|refine IH 12 a5 0 IE ?_|refine IH 12 a5 1 IE ?_|refine IH 12 a5 2 IE ?_|refine IG a5 0 ID ?_|refine IG a5 1 ID ?_|refine IG a5 2 ID ?_|refine IG a5 3 ID ?_|fail)|refine bh a5 fun _=>?_|fail)
 rw [hml]
 refine kL a5 f.Glyphs.length rfl rfl rfl rfl rfl rfl rfl (by omega) (by omega) rfl fun bp=>?_
 rw [show (List.replicate f.Glyphs.length (List.map AV.sc [Value.int .i64 0])).flatten=dV f.Glyphs.length fun _=>0 from nT _]
 repeat' (first|refine If ?_|refine ak ?_|refine IF a5 FN ?_|(apply aM;first|refine IH 7 a5 0 IE ?_|refine IH 7 a5 1 IE ?_|refine IH 7 a5 2 IE ?_|refine IH 8 a5 0 IE ?_|refine IH 8 a5 1 IE ?_|refine IH 8 a5 2 IE ?_|refine IH 12 a5 0 IE ?_|refine IH 12 a5 1 IE ?_|refine IH 12 a5 2 IE ?_|refine IG a5 0 ID ?_|refine IG a5 1 ID ?_|refine IG a5 2 ID ?_|refine IG a5 3 ID ?_|fail)|refine bh a5 fun _=>?_|fail)
 refine aO [1,7,8,31,32] (α:=Nat×(Int→Int)×(Int→Int)) (fun x=>[(33,aF x.1)]) (fun x=>x.1≤f.Glyphs.length∧uG f T x.1 x.2.1 x.2.2) (fun x=>[(bp,.box (dV f.Glyphs.length x.2.2) 3),(bd,.box (dV f.Glyphs.length x.2.1) 3)]) (fun x=>f.Glyphs.length - x.1) (0,(fun _=>0),(fun _=>0)) rfl ⟨rfl,trivial⟩ ⟨Nat.zero_le _,uG.start⟩ (fun _ _ h=>h) ?_
 rintro ⟨i,D,P⟩ ⟨hi,hC⟩
 dsimp only at hi hC ⊢
 try dsimp only [Is,Ir,Iq,Ik]
 repeat' (first|refine If ?_|refine IF a5 FN ?_)
 refine aq rfl (fun h=>?_) (fun h=>?_)
 ·have hil:i < T.length:=by have:=Iy h;rw [hTi] at this;omega
  obtain ⟨x,hx⟩:∃x,T[i]?=some x:=⟨_,Iz hil⟩
  have hxi:=bR hx
  have hxr:=hT.dom x (Iw hx)
  obtain ⟨gl,hgl⟩:∃z,f.Glyphs[x.toNat]?=some z:=⟨_,Iz (by omega)⟩
  have hgm:=Iw hgl
  have hgg:=cw (c:=bL) hgl
  have hpm:(gl.Points.map dm).length=gl.Points.length:=Iu ..
  have hpl:=hf.points gl hgm
  clear h
  repeat' (first|refine If ?_|refine ak ?_|refine IF a5 FN ?_|(apply aS;first|refine aR a5 ?_|refine aH a5 ?_)|fail)
  refine bz 10 [(0,.v),(1,.v),(2,.v),(3,.v),(4,.v),(5,.v),(6,.v),(7,.v),(8,.v),(9,.v)] none ?_ trivial rfl (by kernel_rfl) (by kernel_rfl) (by kernel_rfl) bT (by kernel_rfl) rfl
  repeat' (first|refine aC ?_|refine b6 a5 ?_|(apply cB;refine cS a5 ?_)|fail)
  refine IQ [1,7,8,10,31,32,33,37,38,46] FN ?_
  repeat' (first|(apply aS;first|refine aR a5 ?_|refine aH a5 ?_)|fail)
  refine aa a5 0 rfl rfl rfl rfl rfl rfl (by rw [Nat.ble_eq,jw];show _+1≤_;omega) ?_
  rw [iw,lE hxr.1 hxr.2,hpm]
  repeat' (first|refine If ?_|refine ak ?_|refine IF a5 FN ?_|(apply aS;first|refine aR a5 ?_|refine aH a5 ?_)|fail)
  have hTx:x∉T.take i:=fun hm=>by
   obtain ⟨k,hk⟩:=List.mem_iff_getElem?.1 hm
   rw [List.getElem?_take] at hk
   split at hk
   ·obtain ⟨k1,k2⟩:=Ip hk
    obtain ⟨i1,i2⟩:=Ip hx
    have e1:=hT.nodup.idxOf_getElem k k1
    have e2:=hT.nodup.idxOf_getElem i i1
    rw [k2] at e1
    rw [i2] at e2
    omega
   ·cases hk
  have hD0:gY D x 0=D:=by
   funext q
   unfold gY
   split
   ·rename_i e;rw [e,hC.rest x hTx]
   ·rfl
  have hql:(gl.Parts.map eo).length=gl.Parts.length:=Iu ..
  have hqn:=hf.parts gl hgm
  refine aO [1,7,8,10,31,32,33,53,54] (α:=Nat) (fun j=>[(55,aF j)]) (fun j=>j≤gl.Parts.length) (fun j=>[(bp,.box (dV f.Glyphs.length (gY P x (pF P (gl.Parts.take j) gl.Points.length))) 3),(bd,.box (dV f.Glyphs.length (gY D x (dF D (gl.Parts.take j)))) 3)]) (fun j=>gl.Parts.length - j) 0 rfl ⟨rfl,trivial⟩ (Nat.zero_le _) (fun _ _ h=>by rw [List.take_zero,show dF D []=0 from rfl,hD0];exact h) fun j hj=>?_
  try dsimp only [Is,Ir,Iq,Ik]
  repeat' (first|refine If ?_|refine IF a5 FN ?_)
  refine aq rfl (fun h=>?_) (fun h=>?_)
  ·have hjl:j < gl.Parts.length:=by have:=Iy h;omega
   obtain ⟨q,hq⟩:∃q,gl.Parts[j]?=some q:=⟨_,Iz hjl⟩
   have hqg:=cw (c:=eo) hq
   have hqr:=oO.1 (hf.there gl hgm q (Iw hq))
   have hne:q.Glyph≠x:=fun e=>by
    have h1:=hT.topo i x hx q.Glyph (by rw [sJ hf hgl];exact List.mem_map_of_mem (Iw hq))
    rw [e] at h1
    exact hTx h1
   have hc1:(dV f.Glyphs.length (gY D x (dF D (gl.Parts.take j))))[0+x.toNat * 1]?=some (aF (dF D (gl.Parts.take j))):=by rw [jv hxr.1 hxr.2,lg]
   have hc2:(dV f.Glyphs.length (gY D x (dF D (gl.Parts.take j))))[0+q.Glyph.toNat * 1]?=some (aF (D q.Glyph)):=by rw [jv hqr.1 hqr.2,jS hne]
   have hc3:(dV f.Glyphs.length (gY P x (pF P (gl.Parts.take j) gl.Points.length)))[0+x.toNat * 1]?=some (aF (pF P (gl.Parts.take j) gl.Points.length)):=by rw [jv hxr.1 hxr.2,lg]
   have hc4:(dV f.Glyphs.length (gY P x (pF P (gl.Parts.take j) gl.Points.length)))[0+q.Glyph.toNat * 1]?=some (aF (P q.Glyph)):=by rw [jv hqr.1 hqr.2,jS hne]
   have hDq:=hC.deep q.Glyph
   have hPq:=hC.many q.Glyph
   have hPj:=Er (k:=(gl.Points.length:Int)) hC.many (by omega) (gl.Parts.take j)
   clear h
   repeat' (first|refine If ?_|refine ak ?_|refine IF a5 FN ?_|(apply aS;first|refine aR a5 ?_|refine aH a5 ?_)|(apply aM;first|refine IH 7 a5 0 IE ?_|refine IH 7 a5 1 IE ?_|refine IH 7 a5 2 IE ?_|refine IH 8 a5 0 IE ?_|refine IH 8 a5 1 IE ?_|refine IH 8 a5 2 IE ?_|refine IH 12 a5 0 IE ?_|refine IH 12 a5 1 IE ?_|refine IH 12 a5 2 IE ?_|refine IG a5 0 ID ?_|refine IG a5 1 ID ?_|refine IG a5 2 ID ?_|refine IG a5 3 ID ?_|fail)|refine bh a5 fun _=>?_|fail)
   refine bz 13 [(0,.v),(1,.v),(2,.v),(3,.v),(4,.v),(5,.l),(6,.v),(7,.v),(8,.v),(9,.v),(10,.l),(11,.v),(12,.v)] none ?_ trivial rfl (by kernel_rfl) (by kernel_rfl) (by kernel_rfl) bT (by kernel_rfl) rfl
   repeat' (first|refine aC ?_|refine b6 a5 ?_|fail)
   refine d8 a5 rfl rfl rfl hxr trivial ?_
   repeat' (first|refine aC ?_|fail)
   refine bZ a5 1 rfl rfl rfl hc1 trivial ?_
   repeat' (first|refine aC ?_|refine b6 a5 ?_|fail)
   refine d8 a5 rfl rfl rfl hqr trivial ?_
   repeat' (first|refine aC ?_|fail)
   refine bZ a5 1 rfl rfl rfl hc2 trivial ?_
   repeat' (first|refine aC ?_|refine b6 a5 ?_|(apply dW;refine fz ?_)|fail)
   refine IQ [1,7,8,10,12,31,32,33,53,54,55,59,60,71] FN ?_
   repeat' (first|(apply aS;first|refine aR a5 ?_|refine aH a5 ?_)|fail)
   refine aa a5 1 rfl rfl rfl rfl rfl rfl (by rw [Nat.ble_eq,jw];show _+1≤_;omega) ?_
   rw [iw,lE hxr.1 hxr.2,rR,←CL hq]
   repeat' (first|refine If ?_|fail)
   refine bz 13 [(0,.v),(1,.v),(2,.v),(3,.v),(4,.v),(5,.l),(6,.v),(7,.v),(8,.v),(9,.v),(10,.l),(11,.v),(12,.v)] none ?_ trivial rfl (by kernel_rfl) (by kernel_rfl) (by kernel_rfl) bT (by kernel_rfl) rfl
   repeat' (first|refine aC ?_|refine b6 a5 ?_|fail)
   refine d8 a5 rfl rfl rfl hxr trivial ?_
   repeat' (first|refine aC ?_|fail)
   refine bZ a5 0 rfl rfl rfl hc3 trivial ?_
   repeat' (first|refine aC ?_|refine b6 a5 ?_|fail)
   refine d8 a5 rfl rfl rfl hqr trivial ?_
   repeat' (first|refine aC ?_|fail)
   refine bZ a5 0 rfl rfl rfl hc4 trivial ?_
   repeat' (first|refine aC ?_|refine b6 a5 ?_|(apply dW;refine fz ?_)|fail)
   refine IQ [1,7,8,10,31,32,33,53,54,55,73,74,85] FN ?_
   repeat' (first|(apply aS;first|refine aR a5 ?_|refine aH a5 ?_)|fail)
   refine aa a5 0 rfl rfl rfl rfl rfl rfl (by rw [Nat.ble_eq,jw];show _+1≤_;omega) ?_
   rw [iw,lE hxr.1 hxr.2,rR,←Dt hq]
   repeat' (first|refine If ?_|refine IF a5 FN ?_|(apply aV;refine aU ?_)|fail)
   exact aD (j+1) rfl ⟨by rw [Iv];rfl,trivial⟩ (by omega) (by omega) (fun _ _ h=>h)
  ·have hjl:j=gl.Parts.length:=by have:=Ix h;omega
   subst hjl
   rw [List.take_length]
   repeat' (first|refine If ?_|refine IF a5 FN ?_|(apply aV;refine aU ?_)|fail)
   exact aD (i+1,_,_) rfl ⟨by rw [Iv];rfl,trivial⟩ ⟨by dsimp only;omega,hC.next hf hT hx hgl⟩ (by dsimp only;omega) (fun _ _ h=>h)
 ·have hil:i=f.Glyphs.length:=by have:=Ix h;rw [hTi] at this;omega
  subst hil
  clear h
  have hdeep:jm f D P:=by
   intro z h0 h1 gl hgl
   obtain ⟨j,hj⟩:=List.mem_iff_getElem?.1 (hall z h0 h1)
   exact hC.done j z (by have:=(Ip hj).1;omega) hj gl hgl
  have hcd:∀F:Int→Int,dV f.Glyphs.length F=(aT ((cz f.Glyphs.length).map F)).flatten:=fun F=>by rw [rl];unfold dV;rw [List.map_map];rfl
  have hcl:∀F:Int→Int,(aT ((cz f.Glyphs.length).map F)).length=f.Glyphs.length:=fun F=>by rw [aZ,Iu,eE]
  refine bP (rO (t:=7) (sz:=1) (l:=aT ((cz f.Glyphs.length).map D)) 1 rfl rfl (hcd D) (by simp [aT]) (hcl D) (by omega)) ?_
  refine bP (rO (t:=8) (sz:=1) (l:=aT ((cz f.Glyphs.length).map P)) 1 rfl rfl (hcd P) (by simp [aT]) (hcl P) (by omega)) ?_
  repeat' (first|refine If ?_|refine IF a5 FN ?_|refine bG a5 ?_|fail)
  refine b9 [] _ (j3 [⟨127,[.iptr [.imm 1 (aT ((cz f.Glyphs.length).map D))]],[],(cU ((cz f.Glyphs.length).map D) pt).1,(cU ((cz f.Glyphs.length).map D) pt).2⟩,⟨130,[.iptr [.imm 1 (aT ((cz f.Glyphs.length).map P))]],[],(cU ((cz f.Glyphs.length).map P) pM).1,(cU ((cz f.Glyphs.length).map P) pM).2⟩] ⟨⟨inferInstance,xN _⟩,fun _=>⟨⟨inferInstance,xO _⟩,fun _=>trivial⟩⟩) rfl rfl (Io _) rfl fun c L1 hc=>?_
  rw [jJ] at hc
  have hc:c=ck (md f.Glyphs.length D P):=hc
  subst hc
  unfold ck
  repeat' (first|refine If ?_|refine IF a5 FN ?_)
  exact IS IA (.inl ⟨D,P,hdeep,hacy,rfl⟩)
theorem jX {err:Nat→Int}:∀(k i:Nat),(cY err k i).1=0↔∀j,i≤j→j < i+k→err j=0
 | 0,i=>by simp only [cY,true_iff];intro j h1 h2;omega
 | k+1,i=>by
  simp only [cY]
  by_cases h:err i=0
  ·rw [if_pos h,jX k (i+1)]
   constructor
   ·intro hh j h1 h2
    by_cases e:j=i
    ·subst e;exact h
    ·exact hh j (by omega) (by omega)
   ·intro hh j h1 h2;exact hh j (by omega) (by omega)
  ·rw [if_neg h]
   constructor
   ·intro hh;exact absurd hh h
   ·intro hh;exact hh i (Nat.le_refl _) (by omega)
theorem px {α:Type} {l:List α} {w:Nat→α→Int}:(cU l w).1=0↔∀i x,l[i]?=some x→w i x=0:=by
 unfold cU d4
 rw [jX]
 constructor
 ·intro h i x hx
  have:=h i (Nat.zero_le _) (by have:=(Ip hx).1;omega)
  rwa [hQ hx] at this
 ·intro h j _ hj
  obtain ⟨x,hx⟩:∃x,l[j]?=some x:=⟨_,Iz (by omega)⟩
  rw [hQ hx]
  exact h j x hx
theorem iy {α:Type} {most:Int} {l:List α} {w:Nat→α→Int}:(ci most l w).1=0↔(l.length:Int)≤most∧∀i x,l[i]?=some x→w i x=0:=by
 have h:=px (l:=l) (w:=w)
 unfold cU at h
 unfold ci cV
 by_cases hm:(l.length:Int) > most
 ·rw [if_pos hm]
  constructor
  ·intro hh;cases hh
  ·intro hh;omega
 ·rw [if_neg hm,h]
  exact ⟨fun hh=>⟨by omega,hh⟩,fun hh=>hh.2⟩
theorem dq:∀{l:List (Int×Int)},(gt l).1=0↔∀x∈l,x.1=0
 | []=>by simp [gt]
 | x::r=>by
  unfold gt
  by_cases h:x.1=0
  ·rw [if_pos h,dq]
   constructor
   ·intro hh y hy
    rcases List.mem_cons.1 hy with rfl | hy
    ·exact h
    ·exact hh y hy
   ·intro hh y hy;exact hh y (It _ hy)
  ·rw [if_neg h]
   constructor
   ·intro hh;exact absurd hh h
   ·intro hh;exact hh x (List.mem_cons_self ..)
theorem iO {f:aY} (h:(ci 400 f.Glyphs (dT f)).1=0):uI f:=by
 obtain ⟨h1,h2⟩:=iy.1 h
 have hg:∀gl∈f.Glyphs,∃name,nr f gl name=0:=fun gl hgl=>by
  obtain ⟨i,hi⟩:=List.mem_iff_getElem?.1 hgl
  exact ⟨_,h2 i gl hi⟩
 have hgl:∀gl∈f.Glyphs,ix gl=0∧(ci 8 gl.Parts (lr f)).1=0:=fun gl hm=>by
  obtain ⟨name,hn⟩:=hg gl hm
  unfold nr at hn
  rw [dq] at hn
  exact ⟨hn (ix gl,0) (by simp),hn (ci 8 gl.Parts (lr f)) (by simp)⟩
 refine ⟨⟨by omega,fun gl hm=>?_⟩,fun gl hm=>?_,fun gl hm p hp=>?_⟩
 ·have:=(iy.1 (hgl gl hm).2).1;omega
 ·have h3:=(hgl gl hm).1
  unfold ix at h3
  split at h3
  ·cases h3
  ·split at h3
   ·cases h3
   ·omega
 ·obtain ⟨i,hi⟩:=List.mem_iff_getElem?.1 hp
  have h3:=(iy.1 (hgl gl hm).2).2 i p hi
  unfold lr at h3
  split at h3
  ·cases h3
  ·rename_i hh
   simpa using hh
theorem xU {f:aY} (hf:uI f) (ha:k9 f.Glyphs.length (prt f)) {D P D' P':Int→Int} (h:jm f D P) (h':jm f D' P'):∀z:Int,0≤z→z < f.Glyphs.length→D z=D' z∧P z=P' z:=by
 obtain ⟨r,hr⟩:=ha
 have:∀(k:Nat) (z:Int),r z < k→0≤z→z < f.Glyphs.length→D z=D' z∧P z=P' z:=by
  intro k
  induction k with
  | zero=>intro z hk;exact absurd hk (Nat.not_lt_zero _)
  | succ k ih=>
   intro z hk h0 h1
   obtain ⟨gl,hgl⟩:∃g,f.Glyphs[z.toNat]?=some g:=⟨_,Iz (by omega)⟩
   have hsm:∀p∈gl.Parts,D p.Glyph=D' p.Glyph∧P p.Glyph=P' p.Glyph:=fun p hp=>by
    have hin:=oO.1 (hf.there gl (Iw hgl) p hp)
    have:=hr z h0 h1 p.Glyph (by rw [sJ hf hgl];exact List.mem_map_of_mem hp)
    exact ih p.Glyph (by omega) hin.1 hin.2
   obtain ⟨h2,h3⟩:=h z h0 h1 gl hgl
   obtain ⟨h4,h5⟩:=h' z h0 h1 gl hgl
   rw [h2,h3,h4,h5]
   exact ⟨tC fun p hp=>(hsm p hp).1,uf fun p hp=>(hsm p hp).2⟩
 intro z h0 h1
 exact this (r z+1) z (by omega) h0 h1
theorem ve {n:Nat} {D P D' P':Int→Int} (h:∀z:Int,0≤z→z < n→D z=D' z∧P z=P' z):md n D P=md n D' P':=by
 unfold md
 rw [List.map_congr_left (f:=D) (g:=D') fun z hz=>(h z (f0.1 hz).1 (f0.1 hz).2).1,List.map_congr_left (f:=P) (g:=P') fun z hz=>(h z (f0.1 hz).1 (f0.1 hz).2).2]
open Classical in
noncomputable def me (f:aY):Int×Int:=if h:∃q:(Int→Int)×(Int→Int),jm f q.1 q.2 then md f.Glyphs.length h.choose.1 h.choose.2 else (33,0)
theorem pn {f:aY} (hf:uI f) (ha:k9 f.Glyphs.length (prt f)) {D P:Int→Int} (h:jm f D P):me f=md f.Glyphs.length D P:=by
 unfold me
 have hex:∃q:(Int→Int)×(Int→Int),jm f q.1 q.2:=⟨(D,P),h⟩
 rw [dif_pos hex]
 exact ve (xU hf ha hex.choose_spec h)
theorem CK (f:aY) (hf:uI f) (ha:k9 f.Glyphs.length (prt f)):AC Tryz.prog 55 [.iptr (cx f)] [] fun c _=>c=ck ((me f).1,(me f).2):=by
 refine aN Tryz.func55 rfl Tryz.ntmps55 rfl fun B=>?_
 repeat' (first|refine If ?_|refine IF a5 FN ?_)
 refine b9 [] [] (tA f hf (.inl ha)) rfl rfl (Io _) rfl fun c L1 hc=>?_
 rcases hc with ⟨D,P,h1,h2,hc⟩ | ⟨hna,_⟩
 ·rw [←pn hf ha h1] at hc
  subst hc
  unfold ck
  repeat' (first|refine If ?_|refine IF a5 FN ?_)
  exact aX rfl rfl rfl rfl
 ·exact absurd ha hna
def wK (_:Nat) (l:List fS):Int:=mF l
def nE (f:aY) (_:Nat) (r:List eO):Int:=yB f.Axes.length r
def iJ (f:aY) (_:Nat) (l:aL):Int:=l7 f l
noncomputable def Ar (f:aY):List (Int×Int):=[(nZ f,0),ci 400 f.Glyphs (dT f),me f,ci 1000 f.Chars (iF f),ci 40 f.Lookups (iJ f),ci 20 f.Features (jB f),ci 3 f.Axes (ju f),ci 16 f.Regions (nE f),ci 20 f.Funcs wK,ci 64 f.Cvt A4]
noncomputable def mi (f:aY):Int×Int:=gt (Ar f)
noncomputable def wJ (f:aY) (m1 m2 m3:Nat):List Lk:=[⟨48,[.iptr (cx f)],[],nZ f,0⟩,
 ⟨112,[.iptr [.imm 9 (f.Glyphs.map bL)],.iptr [aF 400],.iptr [.fn 51 [.iptr (cx f),.iptr [.sc (.map (some m1))]]]],[(m1,cN .string (cG (jG f)))],(ci 400 f.Glyphs (dT f)).1,(ci 400 f.Glyphs (dT f)).2⟩,
 ⟨55,[.iptr (cx f)],[],(me f).1,(me f).2⟩,
 ⟨132,[.iptr [.imm 2 (f.Chars.map dQ)],.iptr [aF 1000],.iptr [.fn 58 [.iptr (cx f)]]],[],(ci 1000 f.Chars (iF f)).1,(ci 1000 f.Chars (iF f)).2⟩,
 ⟨134,[.iptr [.imm 3 (f.Lookups.map bC)],.iptr [aF 40],.iptr [.fn 61 [.iptr (cx f)]]],[],(ci 40 f.Lookups (iJ f)).1,(ci 40 f.Lookups (iJ f)).2⟩,
 ⟨142,[.iptr [.imm 2 (f.Features.map ce)],.iptr [aF 20],.iptr [.fn 64 [.iptr (cx f),.iptr [.sc (.map (some m2))]]]],[(m2,cN .string (cG (kR f)))],(ci 20 f.Features (jB f)).1,(ci 20 f.Features (jB f)).2⟩,
 ⟨145,[.iptr [.imm 4 (f.Axes.map cE)],.iptr [aF 3],.iptr [.fn 68 [.iptr [.sc (.map (some m3))]]]],[(m3,cN .string (cG (i4 f)))],(ci 3 f.Axes (ju f)).1,(ci 3 f.Axes (ju f)).2⟩,
 ⟨147,[.iptr [.imm 1 (f.Regions.map bH)],.iptr [aF 16],.iptr [.fn 71 [.iptr (cx f)]]],[],(ci 16 f.Regions (nE f)).1,(ci 16 f.Regions (nE f)).2⟩,
 ⟨151,[.iptr [.imm 1 (f.Funcs.map du)],.iptr [aF 20],.iptr [.sc (.func (.func 74) #[] #[])]],[],(ci 20 f.Funcs wK).1,(ci 20 f.Funcs wK).2⟩,
 ⟨155,[.iptr [.imm 1 (f.Cvt.map xI)],.iptr [aF 64],.iptr [.sc (.func (.func 77) #[] #[])]],[],(ci 64 f.Cvt A4).1,(ci 64 f.Cvt A4).2⟩]
theorem vo (f:aY) (m1 m2 m3:Nat) (hA:(ci 400 f.Glyphs (dT f)).1=0→k9 f.Glyphs.length (prt f)):vG (wJ f m1 m2 m3):=by
 refine ⟨⟨inferInstance,ya f⟩,fun _=>⟨⟨inferInstance,?_⟩,fun h1=>⟨⟨inferInstance,CK f (iO h1) (hA h1)⟩,fun _=>⟨⟨inferInstance,?_⟩,fun _=>⟨⟨inferInstance,?_⟩,fun _=>⟨⟨inferInstance,?_⟩,fun _=>⟨⟨inferInstance,?_⟩,fun _=>⟨⟨inferInstance,?_⟩,fun _=>⟨⟨inferInstance,?_⟩,fun _=>⟨⟨inferInstance,?_⟩,fun _=>trivial⟩⟩⟩⟩⟩⟩⟩⟩⟩⟩
 ·exact DG (u:= .fn 51 [.iptr (cx f),.iptr [.sc (.map (some m1))]]) rfl f.Glyphs 400 (fM f.Glyphs (dT f)) (fun _ L=>L=[(m1,cN .string (cG (jG f)))]) _ rfl fun _=>qu fun i x _=>vw f i x m1
 ·exact DH (u:= .fn 58 [.iptr (cx f)]) rfl f.Chars 1000 (fM f.Chars (iF f)) (fun _ _=>True) [] trivial fun hm=>d3 fun i x hx=>xL f i x hx hm
 ·exact DI (u:= .fn 61 [.iptr (cx f)]) rfl f.Lookups 40 (fM f.Lookups (iJ f)) (fun _ _=>True) [] trivial fun _=>d3 fun i x _=>sj f i x
 ·exact DJ (u:= .fn 64 [.iptr (cx f),.iptr [.sc (.map (some m2))]]) rfl f.Features 20 (fM f.Features (jB f)) (fun _ L=>L=[(m2,cN .string (cG (kR f)))]) _ rfl fun _=>qu fun i x _=>y0 f i x m2
 ·exact DK (u:= .fn 68 [.iptr [.sc (.map (some m3))]]) rfl f.Axes 3 (fM f.Axes (ju f)) (fun _ L=>L=[(m3,cN .string (cG (i4 f)))]) _ rfl fun _=>qu fun i x _=>xA f i x m3
 ·exact DL (u:= .fn 71 [.iptr (cx f)]) rfl f.Regions 16 (fM f.Regions (nE f)) (fun _ _=>True) [] trivial fun _=>d3 fun i x _=>un f i x
 ·exact DN (u:= .sc (.func (.func 74) #[] #[])) (g:=74) (caps:=[]) rfl f.Funcs 20 (fM f.Funcs wK) (fun _ _=>True) [] trivial fun _=>d3 fun i x _=>xM i x
 ·exact DO (u:= .sc (.func (.func 77) #[] #[])) (g:=77) (caps:=[]) rfl f.Cvt 64 (fM f.Cvt A4) (fun _ _=>True) [] trivial fun _=>d3 fun i x _=>zZ i x
set_option maxHeartbeats 4000000 in
theorem De (f:aY) (hA:(ci 400 f.Glyphs (dT f)).1=0→k9 f.Glyphs.length (prt f)):AC Tryz.prog 25 [cQ f] [] fun c _=>c=ck (mi f):=by
 refine aN Tryz.func25 rfl Tryz.ntmps25 rfl fun B=>?_
 repeat' (first|refine If ?_|refine IF a5 FN ?_|refine bk ?_|fail)
 refine b9 [] _ (Am f.Glyphs) rfl rfl (Io _) rfl fun c L1 ⟨m1,hc,hL⟩=>?_
 subst hc;subst hL
 repeat' (first|refine If ?_|refine IF a5 FN ?_|(apply aM;first|refine IH 4 a5 0 IE ?_|refine IH 4 a5 1 IE ?_|refine IH 4 a5 2 IE ?_|refine IH 5 a5 0 IE ?_|refine IH 5 a5 1 IE ?_|refine IH 5 a5 2 IE ?_|refine IH 6 a5 0 IE ?_|refine IH 6 a5 1 IE ?_|refine IH 6 a5 2 IE ?_|refine IG a5 0 ID ?_|refine IG a5 1 ID ?_|refine IG a5 2 ID ?_|refine IG a5 3 ID ?_|fail)|refine bh a5 fun _=>?_|fail)
 refine b9 [] _ (An f.Features) rfl rfl (Io _) rfl fun c L1 ⟨m2,hc,hL⟩=>?_
 subst hc;subst hL
 repeat' (first|refine If ?_|refine IF a5 FN ?_|(apply aM;first|refine IH 4 a5 0 IE ?_|refine IH 4 a5 1 IE ?_|refine IH 4 a5 2 IE ?_|refine IH 5 a5 0 IE ?_|refine IH 5 a5 1 IE ?_|refine IH 5 a5 2 IE ?_|refine IH 6 a5 0 IE ?_|refine IH 6 a5 1 IE ?_|refine IH 6 a5 2 IE ?_|refine IG a5 0 ID ?_|refine IG a5 1 ID ?_|refine IG a5 2 ID ?_|refine IG a5 3 ID ?_|fail)|refine bh a5 fun _=>?_|fail)
 refine b9 [] _ (Ao f.Axes) rfl rfl (Io _) rfl fun c L1 ⟨m3,hc,hL⟩=>?_
 subst hc;subst hL
 repeat' (first|refine If ?_|(apply aM;first|refine IH 4 a5 0 IE ?_|refine IH 4 a5 1 IE ?_|refine IH 4 a5 2 IE ?_|refine IH 5 a5 0 IE ?_|refine IH 5 a5 1 IE ?_|refine IH 5 a5 2 IE ?_|refine IH 6 a5 0 IE ?_|refine IH 6 a5 1 IE ?_|refine IH 6 a5 2 IE ?_|refine IG a5 0 ID ?_|refine IG a5 1 ID ?_|refine IG a5 2 ID ?_|refine IG a5 3 ID ?_|fail)|refine bh a5 fun _=>?_|fail)
 refine bz 36 [(0,.v),(1,.v),(2,.v),(3,.v),(4,.v),(5,.v),(6,.v),(7,.v),(8,.v),(9,.v),(10,.v),(11,.v),(12,.v),(13,.v),(14,.v),(15,.v),(16,.v),(17,.v),(18,.v),(19,.v),(20,.v),(21,.v),(22,.v),(23,.v),(24,.v),(25,.v),(26,.v),(27,.v),(28,.v),(29,.v),(30,.v),(31,.v),(32,.v),(33,.e),(34,.v),(35,.v)] none ?_ trivial rfl (by kernel_rfl) (by kernel_rfl) (by kernel_rfl) bT (by kernel_rfl) rfl
 repeat' (first|refine aC ?_|refine b6 a5 ?_|(apply dy;refine eh ?_)|fail)
 refine eh (hc:=⟨Fl f.Cvt 64⟩) ?_
 repeat' (first|refine aC ?_|refine dS a5 ?_|fail)
 refine jx (L:=[(m3,cN .string (cG (i4 f))),(m2,cN .string (cG (kR f))),(m1,cN .string (cG (jG f)))]) _ [] (j3 (wJ f m1 m2 m3) (vo f m1 m2 m3 hA)) rfl rfl (by rw [List.append_nil];exact (List.reverse_perm _).symm) trivial fun c L1 hc=>?_
 rw [jJ] at hc
 have hc:c=ck (mi f):=hc
 subst hc
 unfold ck
 repeat' (first|refine aC ?_|refine b6 a5 ?_|fail)
 refine IQ [50,51] FN ?_
 repeat' (first|refine If ?_|refine a7 ?_|refine IF a5 FN ?_)
 exact aX rfl rfl rfl rfl
end Go.Proofs.YtpmdfoaadejmkaaGreatDoor
namespace Go.Proofs.YtpmdfoaadejmkaaGreatDoor
open Go.RowKit
attribute [local irreducible] AT br AX AO Av Kt bb df DA cC
def GB (c:UInt8) (m:Bool):bj:=⟨⟨#[c]⟩,0,m,[],[],[],[],[],[]⟩
def sH:List bj:=[GB 97 false,GB 98 false,GB 99 false,GB 100 false,GB 109 true]
def fy (ls:List aL):aY:=⟨1000,sH,[],ls,[],[],[],[],[]⟩
def BW:List aL:=[⟨3,false,[⟨[],[[0],[1]],[],[2],[],0⟩]⟩,⟨1,false,[⟨[],[[2]],[],[3],[],0⟩]⟩]
theorem pZ (ls:List aL):k9 (fy ls).Glyphs.length (prt (fy ls)):=by
 refine ⟨fun _=>0,fun g h0 h1 p hp=>?_⟩
 exfalso
 have hg:g.toNat < 5:=by have:g < 5:=h1;omega
 unfold prt at hp
 obtain ⟨x,hx⟩:∃x,(fy ls).Glyphs[g.toNat]?=some x:=⟨_,Iz hg⟩
 have hm:x.Parts=[]:=by
  have:∀y∈sH,y.Parts=[]:=by decide+kernel
  exact this x (Iw hx)
 rw [hx] at hp
 dsimp only at hp
 rw [hm] at hp
 simp at hp
theorem og (ls:List aL):(ci 400 sH (dT (fy ls))).1=0:=by
 have h0:(ci 400 sH (dT (fy []))).1=0:=by decide
 exact h0
theorem yw (ls:List aL):jm (fy ls) (fun _=>0) (fun _=>0):=by
 intro z h0 h1 gl hgl
 have h1:z < 5:=h1
 have:z=0∨z=1∨z=2∨z=3∨z=4:=by omega
 rcases this with rfl | rfl | rfl | rfl | rfl <;> (injection hgl with e;subst e;exact ⟨by decide,by decide⟩)
theorem ui {ls:List aL} (h:(ci 40 ls (iJ (fy ls))).1=0):(mi (fy ls)).1=0:=by
 refine dq.2 fun x hx=>?_
 have hc:(me (fy ls)).1=0:=by
  rw [pn (iO (og ls)) (pZ ls) (yw ls)]
  show (md 5 (fun _=>0) (fun _=>0)).1=0
  decide
 simp only [Ar,List.mem_cons,List.not_mem_nil,or_false] at hx
 rcases hx with rfl | rfl | rfl | rfl | rfl | rfl | rfl | rfl | rfl | rfl
 ·rfl
 ·exact og ls
 ·exact hc
 ·rfl
 ·exact h
 ·rfl
 ·rfl
 ·rfl
 ·rfl
 ·rfl
def B5 (ls:List aL):Bool:=decide ((ci 40 ls (iJ (fy ls))).1=0)
theorem kG:∀(l:List Int) (i:Nat) (g:Int),ff i (l++[g])=ff i l++[⟨g,(i+l.length:Nat),0,0,0,0⟩]
 | [],i,g=>rfl
 | x::l,i,g=>by
  rw [Is,ff,kG l (i+1) g,ff,Is,List.length_cons,show i+1+l.length=i+(l.length+1) by omega]
theorem lj:∀(l:List Int) (i:Nat),(ff i l).length=l.length
 | [],_=>rfl
 | x::l,i=>by rw [ff,List.length_cons,lj l,List.length_cons]
theorem yc (l:List Int) (hl:l.length≤1000000):bN Tryz.prog 29 [.imm 1 (aT l)] (.imm 6 ((eJ l).map bU)):=by
 refine aN Tryz.func29 rfl Tryz.ntmps29 rfl fun B=>?_
 have hil:=aZ l
 repeat' (first|refine If ?_|refine ak ?_|refine IF a5 FN ?_|refine ru (d:=5) a5 fun _=>?_|fail)
 refine aO [0] (α:=Nat×Option (Nat×Nat)) (fun s=>[(4,aF s.1),(3,.vec s.2 6 ((eJ (l.take s.1)).map bU))]) (fun s=>s.1≤l.length) (fun s=>tok s.2 67 6 s.1) (fun s=>l.length - s.1) (0,some (_,0)) rfl ⟨rfl,rfl,trivial⟩ (Nat.zero_le _) (fun _ _ h=>h) ?_
 rintro ⟨i,q⟩ hi
 dsimp only at hi ⊢
 try dsimp only [Is,Ir,Iq,Ik]
 repeat' (first|refine If ?_|refine IF a5 FN ?_)
 refine aq rfl (fun h1=>?_) (fun h1=>?_)
 ·have hi2:i < l.length:=by have:=Iy h1;omega
  obtain ⟨g,hg⟩:∃z,l[i]?=some z:=⟨_,Iz hi2⟩
  have hgg:=bR hg
  have hml:((eJ (l.take i)).map bU).length=i:=by unfold eJ;rw [Iu,lj,List.length_take];omega
  have hsn:(eJ (l.take i)).map bU++[bU ⟨g,(i:Nat),0,0,0,0⟩]=(eJ (l.take (i+1))).map bU:=by
   rw [List.take_add_one,hg]
   unfold eJ
   show _=(ff 0 (l.take i++[g])).map bU
   rw [kG,List.map_append,List.length_take,Nat.min_eq_left (by omega),Nat.zero_add]
   rfl
  generalize (eJ (l.take i)).map bU=A0 at *
  clear h1
  repeat' (first|refine If ?_|refine ak ?_|refine IF a5 FN ?_|(apply aS;first|refine aR a5 ?_|refine aH a5 ?_)|refine bG a5 ?_|fail)
  refine bJ a5 [] rfl rfl rfl rfl (by rw [hml,List.append_nil]) (by rw [hml];simp;omega) (by rw [hml];simp;omega) rfl fun q'=>?_
  repeat' (first|refine If ?_|refine IF a5 FN ?_|(apply aV;refine aU ?_)|fail)
  refine aD (i+1,q') rfl ⟨by rw [Iv];rfl,by dsimp only;rw [←hsn];rfl,trivial⟩ hi2 (by dsimp only;omega) (fun _ _ h=>?_)
  rw [List.length_append,hml,List.append_nil] at h
  exact h
 ·have hi2:i=l.length:=by have:=Ix h1;omega
  subst hi2
  rw [List.take_length]
  clear h1
  repeat' (first|refine If ?_|refine IF a5 FN ?_)
  refine bf (bO (t:=2) (c':= .imm 6 ((eJ l).map bU)) rfl fun σ v h=>VR.im h) ?_
  refine fb (List.nil_sublist _) ?_
  exact IM IA
theorem vy (run:List aK) (l:List Int) (hl:l.length≤1000000):bN Tryz.prog 30 [.imm 6 (run.map bU),.imm 1 (aT l)] (ej (decide (run.map aK.Glyph=l))):=by
 refine aN Tryz.func30 rfl Tryz.ntmps30 rfl fun B=>?_
 have hil:=aZ l
 have hrl:(run.map bU).length=run.length:=Iu ..
 repeat' (first|refine If ?_|refine IF a5 FN ?_)
 refine aq rfl (fun h1=>?_) (fun h1=>?_)
 ·have hne:¬run.length=l.length:=by have:=Iy h1;omega
  rw [decide_eq_false (fun e=>hne (by rw [←e,Iu]))]
  repeat' (first|refine If ?_|refine IF a5 FN ?_)
  exact IM IA
 ·have heq:run.length=l.length:=by have:=Ix h1;omega
  clear h1
  repeat' (first|refine If ?_|refine ak ?_|refine IF a5 FN ?_)
  refine aO [0,1] (α:=Nat) (fun i=>[(5,aF i)]) (fun i=>i≤l.length∧(run.map aK.Glyph).take i=l.take i) (fun _=>[]) (fun i=>l.length - i) 0 rfl ⟨rfl,trivial⟩ ⟨Nat.zero_le _,rfl⟩ (fun _ _ h=>h) ?_
  rintro i ⟨hi,hti⟩
  try dsimp only [Is,Ir,Iq,Ik]
  repeat' (first|refine If ?_|refine IF a5 FN ?_)
  refine aq rfl (fun h1=>?_) (fun h1=>?_)
  ·have hi2:i < l.length:=by have:=Iy h1;omega
   obtain ⟨g,hg⟩:∃z,l[i]?=some z:=⟨_,Iz hi2⟩
   obtain ⟨x,hx⟩:∃z,run[i]?=some z:=⟨_,Iz (by omega)⟩
   have hgg:=bR hg
   have hxg:(run.map bU)[i]?=some (bU x):=by simp [hx]
   have hmg:(run.map aK.Glyph)[i]?=some x.Glyph:=by simp [hx]
   clear h1
   repeat' (first|refine If ?_|refine ak ?_)
   refine bz 9 [(0,.v),(1,.v),(2,.v),(3,.v),(4,.v),(5,.v),(6,.v),(7,.v),(8,.v)] none ?_ trivial rfl (by kernel_rfl) (by kernel_rfl) (by kernel_rfl) bT (by kernel_rfl) rfl
   repeat' (first|refine aC ?_|refine b6 a5 ?_|(apply cB;refine cS a5 ?_)|fail)
   refine IQ [0,1,5,21,25] FN ?_
   repeat' (first|refine If ?_|refine a7 ?_|refine IF a5 FN ?_)
   refine aq rfl (fun h1=>?_) (fun h1=>?_)
   ·have hne:x.Glyph≠g:=Iy h1
    rw [decide_eq_false (fun e=>hne (by rw [e,hg] at hmg;cases hmg;rfl))]
    repeat' (first|refine If ?_|refine IF a5 FN ?_)
    exact IM IA
   ·have heg:x.Glyph=g:=by have h1':¬x.Glyph≠g:=Ix h1;exact Classical.not_not.1 h1'
    repeat' (first|refine If ?_|refine IF a5 FN ?_|(apply aV;refine aU ?_)|fail)
    exact aD (i+1) rfl ⟨by rw [Iv];rfl,trivial⟩ ⟨hi2,by rw [List.take_add_one,List.take_add_one,hti,hg,hmg,heg]⟩ (by omega) (fun _ _ h=>h)
  ·have hi2:i=l.length:=by have:=Ix h1;omega
   subst hi2
   rw [List.take_length,List.take_of_length_le (by rw [Iu];omega)] at hti
   rw [decide_eq_true hti]
   repeat' (first|refine If ?_|refine IF a5 FN ?_)
   exact IM IA
theorem y4 {f:aY} (hr:(mi f).1=0) (ha:k9 f.Glyphs.length (prt f)):AC Tryz.prog 25 [cQ f] [] fun c _=>∃n:Int,c=ck (0,n):=
 AC.mono (De f fun _=>ha) fun c L hc=>⟨(mi f).2,by rw [hc,←hr]⟩
def BT (N:Nat) (s:List Int):Bool:=decide (s.Pairwise (· < ·)) && s.all fun g=>decide (0≤g) && decide (g < (N:Int))
def BL (N:Nat) (r:b8):Bool:=r.Back.all (BT N) && (r.In.all (BT N) && (r.Ahead.all (BT N) && (decide (r.Back.length≤200) && (decide (r.In.length+r.Ahead.length≤200) && (decide (r.Out.length≤1000000) && (decide (r.Calls.length≤1000000) && r.Calls.all fun c=>decide (0≤c.At) && decide (c.At≤1000000)))))))
def wU (N:Nat) (l:aL):Bool:=decide (l.Rules.length≤6) && l.Rules.all (BL N)
theorem sM {N:Nat} {s:List Int} (h:BT N s=true):jU s∧∀g∈s,0≤g∧g < (N:Int):=by
 unfold BT at h
 simp only [Bool.and_eq_true,decide_eq_true_eq,List.all_eq_true] at h
 exact h
structure zg (N:Nat) (r:b8):Prop where
 b:sY N r
 out:r.Out.length≤1000000
 calls:r.Calls.length≤1000000
 at_:∀c∈r.Calls,0≤c.At∧c.At≤1000000
theorem BM {N:Nat} {r:b8} (h:BL N r=true):zg N r:=by
 unfold BL at h
 simp only [Bool.and_eq_true,decide_eq_true_eq,List.all_eq_true] at h
 obtain ⟨h1,h2,h3,h4,h5,h6,h7,h8⟩:=h
 exact ⟨⟨fun s hs=>sM (h1 s hs),fun s hs=>sM (h2 s hs),fun s hs=>sM (h3 s hs),h4,h5⟩,h6,h7,h8⟩
structure oV (f:aY):Prop where
 glyphs:0 < f.Glyphs.length∧f.Glyphs.length≤65536
 lookups:f.Lookups.length≤1000000
 few:∀l∈f.Lookups,l.Rules.length≤6
 rule:∀l∈f.Lookups,∀r∈l.Rules,zg f.Glyphs.length r
theorem oV.new {f:aY} (h:oV f):E8 f:=by
 refine ⟨h.glyphs,h.lookups,fun l hl=>⟨h.few l hl,fun r hr=>(h.rule l hl r hr).b⟩,fun l hl r hr=>?_⟩
 have hb:=h.rule l hl r hr
 have hg:=h.glyphs.2
 exact ⟨⟨by have:=hb.b.long;omega,fun s hs=>by have:=fA (gH (hb.b.in_ s hs).1) (hb.b.in_ s hs).2;omega⟩,hb.out,hb.calls⟩
theorem oV.eng {f:aY} (h:oV f) {E:ow} (hE:FT f E):li E:=⟨hE.auto,fun e he r hr hin=>by
 have hl:e.l∈f.Lookups:=by rw [←hE.ls];exact List.mem_map.2 ⟨e,he,rfl⟩
 have hb:=h.rule e.l hl r hr
 exact ⟨hin,hb.out,hb.calls,hb.at_⟩⟩
theorem Bq {f:aY} (h:oV f) (hr:(mi f).1=0) (ha:k9 f.Glyphs.length (prt f)):AC Tryz.prog 15 [cQ f] [] fun c _=>∃E,li E∧E.ls=f.Lookups∧E.ms=f.Glyphs.map bj.Mark∧c= .tup [.iptr (dR E),aF 0]:=
 AC.mono (Fy f h.new (y4 hr ha)) fun c L ⟨E,hE,hc⟩=>⟨E,h.eng hE,hE.ls,hE.ms,hc⟩
theorem FB {ls:List aL} (h:ls.all (wU 5)=true) (hl:ls.length≤1000000):oV (fy ls):=by
 rw [List.all_eq_true] at h
 have hh:∀l∈ls,l.Rules.length≤6∧∀r∈l.Rules,zg 5 r:=fun l hl=>by
  have:=h l hl
  unfold wU at this
  simp only [Bool.and_eq_true,decide_eq_true_eq,List.all_eq_true] at this
  exact ⟨this.1,fun r hr=>BM (this.2 r hr)⟩
 exact ⟨⟨Nat.succ_pos _,by show (5:Nat)≤65536;omega⟩,hl,fun l hl=>(hh l hl).1,fun l hl=>(hh l hl).2⟩
theorem yz {ls:List aL} (h:ls.all (wU 5)=true) (hl:ls.length≤1000000) (hr:(mi (fy ls)).1=0):AC Tryz.prog 15 [cQ (fy ls)] [] fun c _=>∃E,li E∧E.ls=ls∧E.ms=jL∧c= .tup [.iptr (dR E),aF 0]:=
 AC.mono (Bq (FB h hl) hr (pZ ls)) fun c L ⟨E,h1,h2,h3,h4⟩=>⟨E,h1,h2,h3,h4⟩
theorem yx (ls:List aL):bN Tryz.prog 28 [.imm 3 (ls.map bC)] (cQ (fy ls)):=by
 refine aN Tryz.func28 rfl Tryz.ntmps28 rfl fun B=>?_
 repeat' (first|refine If ?_|refine IF a5 FN ?_|(apply aM;first|refine IG a5 0 ID ?_|refine IG a5 1 ID ?_|refine IG a5 2 ID ?_|refine IG a5 3 ID ?_|fail)|refine bh a5 fun _=>?_|refine bG a5 ?_|fail)
 refine bf (bo 0 (cs':=cx (fy ls)) rfl fun σ vs h=>lX.vrs ?_ h) (wA a5 0 rfl rfl rfl rfl rfl rfl)
 repeat' first | exact cP.refl _ | exact cP.nil _ | exact True.intro | refine cP.agg ?_ | refine cP.imm ?_ | refine And.intro ?_ ?_
end Go.Proofs.YtpmdfoaadejmkaaGreatDoor
