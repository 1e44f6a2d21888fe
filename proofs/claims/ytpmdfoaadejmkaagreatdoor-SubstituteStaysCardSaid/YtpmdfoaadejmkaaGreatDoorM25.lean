/-
  The program: how deep glyphs are, and how many points they have.
-/
import Derived.Test.YtpmdfoaadejmkaaGreatDoorM24
import Derived.Test.YtpmdfoaadejmkaaGreatDoorM21
namespace Go.Proofs.YtpmdfoaadejmkaaGreatDoor
open Go.RowKit
attribute [local irreducible] AT bv AX AO Av Kt b9 dh DA cE
def dF (D:Int→Int) (ps:List dC):Int:=ps.foldl (fun a p=>max a (D p.Glyph+1)) 0
def pF (P:Int→Int) (ps:List dC) (k:Int):Int:=ps.foldl (fun a p=>min (a+P p.Glyph) 1001) k
def dV (n:Nat) (D:Int→Int):List AV:=(cz n).map fun z=>aF (D z)
def gY (D:Int→Int) (z v:Int):Int→Int:=fun q=>if q=z then v else D q
theorem lg {D:Int→Int} {z v:Int}:gY D z v z=v:=by simp [gY]
theorem jU {D:Int→Int} {z v q:Int} (h:q≠z):gY D z v q=D q:=by simp [gY,h]
theorem s5 (D:Int→Int) (z v w:Int):gY (gY D z v) z w=gY D z w:=by
 funext q
 unfold gY
 by_cases e:q=z
 ·rw [if_pos e,if_pos e]
 ·rw [if_neg e,if_neg e,if_neg e]
theorem jx (n:Nat) (D:Int→Int):(dV n D).length=n:=by simp [dV,cz]
theorem jw {n:Nat} {D:Int→Int} {z:Int} (h0:0≤z) (h1:z < n):(dV n D)[0+z.toNat * 1]?=some (aF (D z)):=by
 rw [Nat.zero_add,Nat.mul_one]
 unfold dV
 rw [List.getElem?_map,jl (by omega),Option.map_some,show ((z.toNat:Nat):Int)=z by omega]
theorem lE {n:Nat} {D:Int→Int} {z v:Int} (h0:0≤z) (h1:z < n):(dV n D).set (0+z.toNat * 1) (aF v)=dV n (gY D z v):=by
 rw [Nat.zero_add,Nat.mul_one]
 apply List.ext_getElem?
 intro i
 rw [List.getElem?_set,jx]
 unfold dV gY
 by_cases hi:z.toNat=i
 ·subst hi
  rw [if_pos rfl,if_pos (by omega),List.getElem?_map,jl (by omega),Option.map_some,if_pos (by omega)]
 ·rw [if_neg hi,List.getElem?_map,List.getElem?_map]
  by_cases hn:i < n
  ·rw [jl hn,Option.map_some,Option.map_some,if_neg (by omega)]
  ·rw [List.getElem?_eq_none (by rw [eG];omega)];rfl
theorem nW (n:Nat):(List.replicate n [aF 0]).flatten=dV n fun _=>0:=by
 rw [wT (cz n) n (eG n).symm]
 unfold fC dV
 rw [List.take_zero,Jw,Nat.sub_zero,eG,List.map_replicate]
 apply List.ext_getElem?
 intro i
 rw [List.getElem?_replicate,List.getElem?_map]
 by_cases h:i < n
 ·rw [if_pos h,jl h];rfl
 ·rw [if_neg h,List.getElem?_eq_none (by rw [eG];omega)];rfl
theorem D8 {D:Int→Int} {ps:List dC} {j:Nat} {p:dC} (h:ps[j]?=some p):dF D (ps.take (j+1))=max (dF D (ps.take j)) (D p.Glyph+1):=by
 unfold dF
 rw [List.take_add_one,h,Option.toList_some,List.foldl_append]
 rfl
theorem DT {P:Int→Int} {ps:List dC} {k:Int} {j:Nat} {p:dC} (h:ps[j]?=some p):pF P (ps.take (j+1)) k=min (pF P (ps.take j) k+P p.Glyph) 1001:=by
 unfold pF
 rw [List.take_add_one,h,Option.toList_some,List.foldl_append]
 rfl
theorem lI {α β:Type} {F G:α→β→α}:∀(l:List β) (a:α),(∀b∈l,∀a,F a b=G a b)→l.foldl F a=l.foldl G a
 | [],_,_=>rfl
 | b::l,a,h=>by rw [List.foldl_cons,List.foldl_cons,h b (List.mem_cons_self ..)];exact lI l _ fun c hc=>h c (Jy _ hc)
theorem tL {D D':Int→Int} {ps:List dC} (h:∀p∈ps,D p.Glyph=D' p.Glyph):dF D ps=dF D' ps:=lI ps 0 fun p hp a=>by rw [h p hp]
theorem ut {P P':Int→Int} {ps:List dC} {k:Int} (h:∀p∈ps,P p.Glyph=P' p.Glyph):pF P ps k=pF P' ps k:=lI ps k fun p hp a=>by rw [h p hp]
theorem GF {D:Int→Int} {m:Int} (h:∀z,0≤D z∧D z≤m):∀(ps:List dC),0≤dF D ps∧dF D ps≤m+1:=by
 intro ps
 have hm:0≤m:=by have:=h 0;omega
 have:∀(ps:List dC) (a:Int),0≤a→a≤m+1→0≤ps.foldl (fun a p=>max a (D p.Glyph+1)) a∧ps.foldl (fun a p=>max a (D p.Glyph+1)) a≤m+1:=by
  intro ps
  induction ps with
  | nil=>intro a h0 h1;exact ⟨h0,h1⟩
  | cons p ps ih=>intro a h0 h1;have:=h p.Glyph;exact ih (max a (D p.Glyph+1)) (by omega) (by omega)
 exact this ps 0 (by omega) (by omega)
theorem EM {P:Int→Int} {k:Int} (h:∀z,0≤P z∧P z≤1000000) (hk:0≤k∧k≤1000000) (ps:List dC):0≤pF P ps k∧pF P ps k≤1000000:=by
 unfold pF
 induction ps generalizing k with
 | nil=>exact hk
 | cons p ps ih=>have:=h p.Glyph;exact ih (k:=min (k+P p.Glyph) 1001) (by omega)
def jn (f:aZ) (D P:Int→Int):Prop:=∀z:Int,0≤z→z < f.Glyphs.length→∀gl,f.Glyphs[z.toNat]?=some gl→D z=dF D gl.Parts∧P z=pF P gl.Parts gl.Points.length
structure uW (f:aZ):Prop extends Few f where
 points:∀gl∈f.Glyphs,gl.Points.length≤1000000
 there:∀gl∈f.Glyphs,∀p∈gl.Parts,kG f p.Glyph=true
theorem sV {f:aZ} (hf:uW f) {z:Int} {gl:bn} (h:f.Glyphs[z.toNat]?=some gl):prt f z=gl.Parts.map dC.Glyph:=by
 unfold prt
 rw [h]
 refine List.filter_eq_self.2 fun y hy=>?_
 obtain ⟨p,hp,rfl⟩:=List.mem_map.1 hy
 exact hf.there gl (Iw h) p hp
def pw (_:Nat) (levels:Int):Int:=dK (decide (levels > 4)) 34
def pR (_:Nat) (all:Int):Int:=dK (decide (all≥1001)) 2
theorem vq (i:Nat) (n:Int):bN Tryz.prog 129 [aF i,aF n] (aF (pw i n)):=by
 refine aL Tryz.func129 rfl Tryz.ntmps129 rfl fun B=>?_
 repeat' (first|refine IT ?_|refine IF a5 G9 ?_|(apply bk;refine bf ?_)|fail)
 exact IN IA
theorem vr (i:Nat) (n:Int):bN Tryz.prog 131 [aF i,aF n] (aF (pR i n)):=by
 refine aL Tryz.func131 rfl Tryz.ntmps131 rfl fun B=>?_
 repeat' (first|refine IT ?_|refine IF a5 G9 ?_|(apply bk;refine bf ?_)|fail)
 exact IN IA
theorem y4 (l:List Int):bN Tryz.prog 127 [.iptr [.imm 1 (aT l)]] (ck (cV l pw)):=by
 refine aL Tryz.func127 rfl Tryz.ntmps127 rfl fun B=>?_
 repeat' (first|refine IT ?_|refine IF a5 G9 ?_)
 refine aX [] [] (md (u:= .sc (.func (.func 129) #[] #[])) (g:=129) (caps:=[]) rfl l _ (fun _ _=>True) [] trivial (d4 (fun i x _=>vq i x))) rfl rfl (Jt _) rfl fun c L1 hc=>?_
 have hc:c=ck (cV l pw):=hc
 subst hc
 unfold ck
 repeat' (first|refine IT ?_|refine IF a5 G9 ?_)
 exact aY rfl rfl rfl rfl
theorem y5 (l:List Int):bN Tryz.prog 130 [.iptr [.imm 1 (aT l)]] (ck (cV l pR)):=by
 refine aL Tryz.func130 rfl Tryz.ntmps130 rfl fun B=>?_
 repeat' (first|refine IT ?_|refine IF a5 G9 ?_)
 refine aX [] [] (md (u:= .sc (.func (.func 131) #[] #[])) (g:=131) (caps:=[]) rfl l _ (fun _ _=>True) [] trivial (d4 (fun i x _=>vr i x))) rfl rfl (Jt _) rfl fun c L1 hc=>?_
 have hc:c=ck (cV l pR):=hc
 subst hc
 unfold ck
 repeat' (first|refine IT ?_|refine IF a5 G9 ?_)
 exact aY rfl rfl rfl rfl
structure uU (f:aZ) (T:List Int) (i:Nat) (D P:Int→Int):Prop where
 deep:∀z,0≤D z∧D z≤i
 many:∀z,0≤P z∧P z≤1000000
 done:∀(j:Nat) (z:Int),j < i→T[j]?=some z→∀gl,f.Glyphs[z.toNat]?=some gl→D z=dF D gl.Parts∧P z=pF P gl.Parts gl.Points.length
 rest:∀z,z∉T.take i→D z=0
theorem uU.start {f:aZ} {T:List Int}:uU f T 0 (fun _=>0) (fun _=>0):=⟨fun _=>by simp,fun _=>by simp,fun j _ h=>absurd h (Nat.not_lt_zero _),fun _ _=>rfl⟩
theorem uU.next {f:aZ} {T:List Int} (hf:uW f) (hT:iF f.Glyphs.length (prt f) T) {i:Nat} {D P:Int→Int} (h:uU f T i D P) {x:Int} {gl:bn} (hx:T[i]?=some x) (hgl:f.Glyphs[x.toNat]?=some gl):uU f T (i+1) (gY D x (dF D gl.Parts)) (gY P x (pF P gl.Parts gl.Points.length)):=by
 have hgm:=Iw hgl
 have hnot:∀(j:Nat) (z:Int),j≤i→T[j]?=some z→∀g,f.Glyphs[z.toNat]?=some g→∀p∈g.Parts,p.Glyph≠x:=by
  intro j z hj hz g hg p hp e
  have h1:=hT.topo j z hz p.Glyph (by rw [sV hf hg];exact List.mem_map_of_mem hp)
  rw [e] at h1
  obtain ⟨k,hk⟩:=List.mem_iff_getElem?.1 h1
  rw [List.getElem?_take] at hk
  split at hk
  ·rename_i hlt
   obtain ⟨k1,k2⟩:=Ju hk
   obtain ⟨i1,i2⟩:=Ju hx
   have e1:=hT.nodup.idxOf_getElem k k1
   have e2:=hT.nodup.idxOf_getElem i i1
   rw [k2] at e1
   rw [i2] at e2
   omega
  ·cases hk
 have hd:=GF h.deep gl.Parts
 have hp:=EM (k:=(gl.Points.length:Int)) h.many (by have:=hf.points gl hgm;omega) gl.Parts
 refine ⟨fun z=>?_,fun z=>?_,fun j z hj hz g hg=>?_,fun z hz=>?_⟩
 ·unfold gY
  split
  ·omega
  ·have:=h.deep z;omega
 ·unfold gY
  split
  ·exact hp
  ·exact h.many z
 ·rw [tL (D:=gY D x (dF D gl.Parts)) (D':=D) fun p hp=>jU (hnot j z (by omega) hz g hg p hp),ut (P:=gY P x (pF P gl.Parts gl.Points.length)) (P':=P) fun p hp=>jU (hnot j z (by omega) hz g hg p hp)]
  by_cases e:z=x
  ·subst e
   rw [hgl] at hg
   cases hg
   rw [lg,lg]
   exact ⟨rfl,rfl⟩
  ·rw [jU e,jU e]
   have hji:j < i:=by
    rcases Nat.lt_or_ge j i with h1 | h1
    ·exact h1
    ·have:j=i:=by omega
     subst this
     rw [hx] at hz
     cases hz
     exact absurd rfl e
   exact h.done j z hji hz g hg
 ·rw [List.take_add_one,hx,Option.toList_some,List.mem_append,List.mem_singleton] at hz
  rw [jU (fun e=>hz (.inr e))]
  exact h.rest z fun hm=>hz (.inl hm)
def ma (n:Nat) (D P:Int→Int):Int×Int:=gq [cV ((cz n).map D) pw,cV ((cz n).map P) pR]
set_option maxHeartbeats 8000000 in
theorem tK (f:aZ) (hf:uW f) (hr:kc f.Glyphs.length (prt f)∨AC Tryz.prog 211 [cR f] [] fun c _=>∃z:Int,c=aF z):AC Tryz.prog 56 [cR f] [] fun c _=>(∃D P,jn f D P∧kc f.Glyphs.length (prt f)∧c=ck (ma f.Glyphs.length D P))∨(¬kc f.Glyphs.length (prt f)∧∃z:Int,c=ck (33,z)):=by
 refine aL Tryz.func56 rfl Tryz.ntmps56 rfl fun B=>?_
 have hn:=hf.n
 have hml:(f.Glyphs.map bG).length=f.Glyphs.length:=Jz ..
 repeat' (first|refine IT ?_|refine IF a5 G9 ?_|refine bo ?_|fail)
 refine aX [] [] (BU f hf.toFew hr) rfl rfl (Jt _) rfl fun c L1 hc=>?_
 refine aJ (bO (List.nil_sublist _)) ?_
 rcases hc with ⟨T,hc,hT,hTl⟩ | ⟨hna,z,hc⟩
 rotate_left
 ·subst hc
  repeat' (first|refine IT ?_|refine IF a5 G9 ?_|refine bQ rfl ?_)
  exact IS IA (.inr ⟨hna,z,rfl⟩)
 subst hc
 have hall:=hT.all_of_len hTl
 have hacy:=hT.acyc hall
 have hTi:=b6 T
 repeat' (first|refine IT ?_|refine IF a5 G9 ?_|refine bK rfl ?_)
 rw [hml]
 refine kJ a5 f.Glyphs.length rfl rfl rfl rfl rfl rfl rfl (by omega) (by omega) rfl fun bd=>?_
 rw [show (List.replicate f.Glyphs.length (List.map AV.sc [Value.int .i64 0])).flatten=dV f.Glyphs.length fun _=>0 from nW _]
 repeat' (first|refine IT ?_|refine IF a5 G9 ?_|(apply aK;first|refine IH 7 a5 0 IE ?_|refine IH 7 a5 1 IE ?_|refine IH 7 a5 2 IE ?_|refine IH 8 a5 0 IE ?_|refine IH 8 a5 1 IE ?_|refine IH 8 a5 2 IE ?_|refine IH 12 a5 0 IE ?_|refine IH 12 a5 1 IE ?_|refine IH 12 a5 2 IE ?_|refine IG a5 0 ID ?_|refine IG a5 1 ID ?_|refine IG a5 2 ID ?_|refine IG a5 3 ID ?_|fail)|refine bi a5 fun _=>?_|fail)
 rw [hml]
 refine kJ a5 f.Glyphs.length rfl rfl rfl rfl rfl rfl rfl (by omega) (by omega) rfl fun bp=>?_
 rw [show (List.replicate f.Glyphs.length (List.map AV.sc [Value.int .i64 0])).flatten=dV f.Glyphs.length fun _=>0 from nW _]
 repeat' (first|refine IT ?_|refine am ?_|refine IF a5 G9 ?_|(apply aK;first|refine IH 7 a5 0 IE ?_|refine IH 7 a5 1 IE ?_|refine IH 7 a5 2 IE ?_|refine IH 8 a5 0 IE ?_|refine IH 8 a5 1 IE ?_|refine IH 8 a5 2 IE ?_|refine IH 12 a5 0 IE ?_|refine IH 12 a5 1 IE ?_|refine IH 12 a5 2 IE ?_|refine IG a5 0 ID ?_|refine IG a5 1 ID ?_|refine IG a5 2 ID ?_|refine IG a5 3 ID ?_|fail)|refine bi a5 fun _=>?_|fail)
 refine aO [1,7,8,31,32] (α:=Nat×(Int→Int)×(Int→Int)) (fun x=>[(33,aF x.1)]) (fun x=>x.1≤f.Glyphs.length∧uU f T x.1 x.2.1 x.2.2) (fun x=>[(bp,.box (dV f.Glyphs.length x.2.2) 3),(bd,.box (dV f.Glyphs.length x.2.1) 3)]) (fun x=>f.Glyphs.length - x.1) (0,(fun _=>0),(fun _=>0)) rfl ⟨rfl,trivial⟩ ⟨Nat.zero_le _,uU.start⟩ (fun _ _ h=>h) ?_
 rintro ⟨i,D,P⟩ ⟨hi,hC⟩
 dsimp only at hi hC ⊢
 try dsimp only [Jx,Jw,Jv,Jq]
 repeat' (first|refine IT ?_|refine IF a5 G9 ?_)
 refine ar rfl (fun h=>?_) (fun h=>?_)
 ·have hil:i < T.length:=by have:=Iy h;rw [hTi] at this;omega
  obtain ⟨x,hx⟩:∃x,T[i]?=some x:=⟨_,Iz hil⟩
  have hxi:=bR hx
  have hxr:=hT.dom x (Iw hx)
  obtain ⟨gl,hgl⟩:∃z,f.Glyphs[x.toNat]?=some z:=⟨_,Iz (by omega)⟩
  have hgm:=Iw hgl
  have hgg:=cC (c:=bG) hgl
  have hpm:(gl.Points.map dq).length=gl.Points.length:=Jz ..
  have hpl:=hf.points gl hgm
  clear h
  repeat' (first|refine IT ?_|refine am ?_|refine IF a5 G9 ?_|(apply aS;first|refine aQ a5 ?_|refine aG a5 ?_)|fail)
  refine bA 10 [(0,.v),(1,.v),(2,.v),(3,.v),(4,.v),(5,.v),(6,.v),(7,.v),(8,.v),(9,.v)] none ?_ trivial rfl (by kernel_rfl) (by kernel_rfl) (by kernel_rfl) bU (by kernel_rfl) rfl
  repeat' (first|refine aD ?_|refine b8 a5 ?_|(apply cB;refine cT a5 ?_)|fail)
  refine IQ [1,7,8,10,31,32,33,37,38,46] G9 ?_
  repeat' (first|(apply aS;first|refine aQ a5 ?_|refine aG a5 ?_)|fail)
  refine aa a5 0 rfl rfl rfl rfl rfl rfl (by rw [Nat.ble_eq,jx];show _+1≤_;omega) ?_
  rw [iy,lE hxr.1 hxr.2,hpm]
  repeat' (first|refine IT ?_|refine am ?_|refine IF a5 G9 ?_|(apply aS;first|refine aQ a5 ?_|refine aG a5 ?_)|fail)
  have hTx:x∉T.take i:=fun hm=>by
   obtain ⟨k,hk⟩:=List.mem_iff_getElem?.1 hm
   rw [List.getElem?_take] at hk
   split at hk
   ·obtain ⟨k1,k2⟩:=Ju hk
    obtain ⟨i1,i2⟩:=Ju hx
    have e1:=hT.nodup.idxOf_getElem k k1
    have e2:=hT.nodup.idxOf_getElem i i1
    rw [k2] at e1
    rw [i2] at e2
    omega
   ·cases hk
  have hD0:gY D x 0=D:=by
   funext q
   unfold gY
   split
   ·rename_i e;rw [e,hC.rest x hTx]
   ·rfl
  have hql:(gl.Parts.map ep).length=gl.Parts.length:=Jz ..
  have hqn:=hf.parts gl hgm
  refine aO [1,7,8,10,31,32,33,53,54] (α:=Nat) (fun j=>[(55,aF j)]) (fun j=>j≤gl.Parts.length) (fun j=>[(bp,.box (dV f.Glyphs.length (gY P x (pF P (gl.Parts.take j) gl.Points.length))) 3),(bd,.box (dV f.Glyphs.length (gY D x (dF D (gl.Parts.take j)))) 3)]) (fun j=>gl.Parts.length - j) 0 rfl ⟨rfl,trivial⟩ (Nat.zero_le _) (fun _ _ h=>by rw [List.take_zero,show dF D []=0 from rfl,hD0];exact h) fun j hj=>?_
  try dsimp only [Jx,Jw,Jv,Jq]
  repeat' (first|refine IT ?_|refine IF a5 G9 ?_)
  refine ar rfl (fun h=>?_) (fun h=>?_)
  ·have hjl:j < gl.Parts.length:=by have:=Iy h;omega
   obtain ⟨q,hq⟩:∃q,gl.Parts[j]?=some q:=⟨_,Iz hjl⟩
   have hqg:=cC (c:=ep) hq
   have hqr:=oR.1 (hf.there gl hgm q (Iw hq))
   have hne:q.Glyph≠x:=fun e=>by
    have h1:=hT.topo i x hx q.Glyph (by rw [sV hf hgl];exact List.mem_map_of_mem (Iw hq))
    rw [e] at h1
    exact hTx h1
   have hc1:(dV f.Glyphs.length (gY D x (dF D (gl.Parts.take j))))[0+x.toNat * 1]?=some (aF (dF D (gl.Parts.take j))):=by rw [jw hxr.1 hxr.2,lg]
   have hc2:(dV f.Glyphs.length (gY D x (dF D (gl.Parts.take j))))[0+q.Glyph.toNat * 1]?=some (aF (D q.Glyph)):=by rw [jw hqr.1 hqr.2,jU hne]
   have hc3:(dV f.Glyphs.length (gY P x (pF P (gl.Parts.take j) gl.Points.length)))[0+x.toNat * 1]?=some (aF (pF P (gl.Parts.take j) gl.Points.length)):=by rw [jw hxr.1 hxr.2,lg]
   have hc4:(dV f.Glyphs.length (gY P x (pF P (gl.Parts.take j) gl.Points.length)))[0+q.Glyph.toNat * 1]?=some (aF (P q.Glyph)):=by rw [jw hqr.1 hqr.2,jU hne]
   have hDq:=hC.deep q.Glyph
   have hPq:=hC.many q.Glyph
   have hPj:=EM (k:=(gl.Points.length:Int)) hC.many (by omega) (gl.Parts.take j)
   clear h
   repeat' (first|refine IT ?_|refine am ?_|refine IF a5 G9 ?_|(apply aS;first|refine aQ a5 ?_|refine aG a5 ?_)|(apply aK;first|refine IH 7 a5 0 IE ?_|refine IH 7 a5 1 IE ?_|refine IH 7 a5 2 IE ?_|refine IH 8 a5 0 IE ?_|refine IH 8 a5 1 IE ?_|refine IH 8 a5 2 IE ?_|refine IH 12 a5 0 IE ?_|refine IH 12 a5 1 IE ?_|refine IH 12 a5 2 IE ?_|refine IG a5 0 ID ?_|refine IG a5 1 ID ?_|refine IG a5 2 ID ?_|refine IG a5 3 ID ?_|fail)|refine bi a5 fun _=>?_|fail)
   refine bA 13 [(0,.v),(1,.v),(2,.v),(3,.v),(4,.v),(5,.l),(6,.v),(7,.v),(8,.v),(9,.v),(10,.l),(11,.v),(12,.v)] none ?_ trivial rfl (by kernel_rfl) (by kernel_rfl) (by kernel_rfl) bU (by kernel_rfl) rfl
   repeat' (first|refine aD ?_|refine b8 a5 ?_|fail)
   refine d9 a5 rfl rfl rfl hxr trivial ?_
   repeat' (first|refine aD ?_|fail)
   refine bZ a5 1 rfl rfl rfl hc1 trivial ?_
   repeat' (first|refine aD ?_|refine b8 a5 ?_|fail)
   refine d9 a5 rfl rfl rfl hqr trivial ?_
   repeat' (first|refine aD ?_|fail)
   refine bZ a5 1 rfl rfl rfl hc2 trivial ?_
   repeat' (first|refine aD ?_|refine b8 a5 ?_|(apply ek;refine fH ?_)|fail)
   refine IQ [1,7,8,10,12,31,32,33,53,54,55,59,60,71] G9 ?_
   repeat' (first|(apply aS;first|refine aQ a5 ?_|refine aG a5 ?_)|fail)
   refine aa a5 1 rfl rfl rfl rfl rfl rfl (by rw [Nat.ble_eq,jx];show _+1≤_;omega) ?_
   rw [iy,lE hxr.1 hxr.2,s5,←D8 hq]
   repeat' (first|refine IT ?_|fail)
   refine bA 13 [(0,.v),(1,.v),(2,.v),(3,.v),(4,.v),(5,.l),(6,.v),(7,.v),(8,.v),(9,.v),(10,.l),(11,.v),(12,.v)] none ?_ trivial rfl (by kernel_rfl) (by kernel_rfl) (by kernel_rfl) bU (by kernel_rfl) rfl
   repeat' (first|refine aD ?_|refine b8 a5 ?_|fail)
   refine d9 a5 rfl rfl rfl hxr trivial ?_
   repeat' (first|refine aD ?_|fail)
   refine bZ a5 0 rfl rfl rfl hc3 trivial ?_
   repeat' (first|refine aD ?_|refine b8 a5 ?_|fail)
   refine d9 a5 rfl rfl rfl hqr trivial ?_
   repeat' (first|refine aD ?_|fail)
   refine bZ a5 0 rfl rfl rfl hc4 trivial ?_
   repeat' (first|refine aD ?_|refine b8 a5 ?_|(apply ek;refine fH ?_)|fail)
   refine IQ [1,7,8,10,31,32,33,53,54,55,73,74,85] G9 ?_
   repeat' (first|(apply aS;first|refine aQ a5 ?_|refine aG a5 ?_)|fail)
   refine aa a5 0 rfl rfl rfl rfl rfl rfl (by rw [Nat.ble_eq,jx];show _+1≤_;omega) ?_
   rw [iy,lE hxr.1 hxr.2,s5,←DT hq]
   repeat' (first|refine IT ?_|refine IF a5 G9 ?_|(apply aV;refine aU ?_)|fail)
   exact aC (j+1) rfl ⟨by rw [Iv];rfl,trivial⟩ (by omega) (by omega) (fun _ _ h=>h)
  ·have hjl:j=gl.Parts.length:=by have:=Ix h;omega
   subst hjl
   rw [List.take_length]
   repeat' (first|refine IT ?_|refine IF a5 G9 ?_|(apply aV;refine aU ?_)|fail)
   exact aC (i+1,_,_) rfl ⟨by rw [Iv];rfl,trivial⟩ ⟨by dsimp only;omega,hC.next hf hT hx hgl⟩ (by dsimp only;omega) (fun _ _ h=>h)
 ·have hil:i=f.Glyphs.length:=by have:=Ix h;rw [hTi] at this;omega
  subst hil
  clear h
  have hdeep:jn f D P:=by
   intro z h0 h1 gl hgl
   obtain ⟨j,hj⟩:=List.mem_iff_getElem?.1 (hall z h0 h1)
   exact hC.done j z (by have:=(Ju hj).1;omega) hj gl hgl
  have hcd:∀F:Int→Int,dV f.Glyphs.length F=(aT ((cz f.Glyphs.length).map F)).flatten:=fun F=>by rw [rz];unfold dV;rw [List.map_map];rfl
  have hcl:∀F:Int→Int,(aT ((cz f.Glyphs.length).map F)).length=f.Glyphs.length:=fun F=>by rw [b6,Jz,eG]
  refine bP (s3 (t:=7) (sz:=1) (l:=aT ((cz f.Glyphs.length).map D)) 1 rfl rfl (hcd D) (by simp [aT]) (hcl D) (by omega)) ?_
  refine bP (s3 (t:=8) (sz:=1) (l:=aT ((cz f.Glyphs.length).map P)) 1 rfl rfl (hcd P) (by simp [aT]) (hcl P) (by omega)) ?_
  repeat' (first|refine IT ?_|refine IF a5 G9 ?_|refine bH a5 ?_|fail)
  refine aX [] _ (j4 [⟨127,[.iptr [.imm 1 (aT ((cz f.Glyphs.length).map D))]],[],(cV ((cz f.Glyphs.length).map D) pw).1,(cV ((cz f.Glyphs.length).map D) pw).2⟩,⟨130,[.iptr [.imm 1 (aT ((cz f.Glyphs.length).map P))]],[],(cV ((cz f.Glyphs.length).map P) pR).1,(cV ((cz f.Glyphs.length).map P) pR).2⟩] ⟨⟨inferInstance,y4 _⟩,fun _=>⟨⟨inferInstance,y5 _⟩,fun _=>trivial⟩⟩) rfl rfl (Jt _) rfl fun c L1 hc=>?_
  rw [jK] at hc
  have hc:c=ck (ma f.Glyphs.length D P):=hc
  subst hc
  unfold ck
  repeat' (first|refine IT ?_|refine IF a5 G9 ?_)
  exact IS IA (.inl ⟨D,P,hdeep,hacy,rfl⟩)
theorem jZ {err:Nat→Int}:∀(k i:Nat),(cZ err k i).1=0↔∀j,i≤j→j < i+k→err j=0
 | 0,i=>by simp only [cZ,true_iff];intro j h1 h2;omega
 | k+1,i=>by
  simp only [cZ]
  by_cases h:err i=0
  ·rw [if_pos h,jZ k (i+1)]
   constructor
   ·intro hh j h1 h2
    by_cases e:j=i
    ·subst e;exact h
    ·exact hh j (by omega) (by omega)
   ·intro hh j h1 h2;exact hh j (by omega) (by omega)
  ·rw [if_neg h]
   constructor
   ·intro hh;exact absurd hh h
   ·intro hh;exact hh i (Nat.le_refl _) (by omega)
theorem pA {α:Type} {l:List α} {w:Nat→α→Int}:(cV l w).1=0↔∀i x,l[i]?=some x→w i x=0:=by
 unfold cV d5
 rw [jZ]
 constructor
 ·intro h i x hx
  have:=h i (Nat.zero_le _) (by have:=(Ju hx).1;omega)
  rwa [hQ hx] at this
 ·intro h j _ hj
  obtain ⟨x,hx⟩:∃x,l[j]?=some x:=⟨_,Iz (by omega)⟩
  rw [hQ hx]
  exact h j x hx
theorem iA {α:Type} {most:Int} {l:List α} {w:Nat→α→Int}:(cj most l w).1=0↔(l.length:Int)≤most∧∀i x,l[i]?=some x→w i x=0:=by
 have h:=pA (l:=l) (w:=w)
 unfold cV at h
 unfold cj cW
 by_cases hm:(l.length:Int) > most
 ·rw [if_pos hm]
  constructor
  ·intro hh;cases hh
  ·intro hh;omega
 ·rw [if_neg hm,h]
  exact ⟨fun hh=>⟨by omega,hh⟩,fun hh=>hh.2⟩
theorem du:∀{l:List (Int×Int)},(gq l).1=0↔∀x∈l,x.1=0
 | []=>by simp [gq]
 | x::r=>by
  unfold gq
  by_cases h:x.1=0
  ·rw [if_pos h,du]
   constructor
   ·intro hh y hy
    rcases List.mem_cons.1 hy with rfl | hy
    ·exact h
    ·exact hh y hy
   ·intro hh y hy;exact hh y (Jy _ hy)
  ·rw [if_neg h]
   constructor
   ·intro hh;exact absurd hh h
   ·intro hh;exact hh x (List.mem_cons_self ..)
theorem iP {f:aZ} (h:(cj 400 f.Glyphs (dS f)).1=0):uW f:=by
 obtain ⟨h1,h2⟩:=iA.1 h
 have hg:∀gl∈f.Glyphs,∃name,nv f gl name=0:=fun gl hgl=>by
  obtain ⟨i,hi⟩:=List.mem_iff_getElem?.1 hgl
  exact ⟨_,h2 i gl hi⟩
 have hgl:∀gl∈f.Glyphs,iz gl=0∧(cj 8 gl.Parts (lq f)).1=0:=fun gl hm=>by
  obtain ⟨name,hn⟩:=hg gl hm
  unfold nv at hn
  rw [du] at hn
  exact ⟨hn (iz gl,0) (by simp),hn (cj 8 gl.Parts (lq f)) (by simp)⟩
 refine ⟨⟨by omega,fun gl hm=>?_⟩,fun gl hm=>?_,fun gl hm p hp=>?_⟩
 ·have:=(iA.1 (hgl gl hm).2).1;omega
 ·have h3:=(hgl gl hm).1
  unfold iz at h3
  split at h3
  ·cases h3
  ·split at h3
   ·cases h3
   ·omega
 ·obtain ⟨i,hi⟩:=List.mem_iff_getElem?.1 hp
  have h3:=(iA.1 (hgl gl hm).2).2 i p hi
  unfold lq at h3
  split at h3
  ·cases h3
  ·rename_i hh
   simpa using hh
theorem yb {f:aZ} (hf:uW f) (ha:kc f.Glyphs.length (prt f)) {D P D' P':Int→Int} (h:jn f D P) (h':jn f D' P'):∀z:Int,0≤z→z < f.Glyphs.length→D z=D' z∧P z=P' z:=by
 obtain ⟨r,hr⟩:=ha
 have:∀(k:Nat) (z:Int),r z < k→0≤z→z < f.Glyphs.length→D z=D' z∧P z=P' z:=by
  intro k
  induction k with
  | zero=>intro z hk;exact absurd hk (Nat.not_lt_zero _)
  | succ k ih=>
   intro z hk h0 h1
   obtain ⟨gl,hgl⟩:∃g,f.Glyphs[z.toNat]?=some g:=⟨_,Iz (by omega)⟩
   have hsm:∀p∈gl.Parts,D p.Glyph=D' p.Glyph∧P p.Glyph=P' p.Glyph:=fun p hp=>by
    have hin:=oR.1 (hf.there gl (Iw hgl) p hp)
    have:=hr z h0 h1 p.Glyph (by rw [sV hf hgl];exact List.mem_map_of_mem hp)
    exact ih p.Glyph (by omega) hin.1 hin.2
   obtain ⟨h2,h3⟩:=h z h0 h1 gl hgl
   obtain ⟨h4,h5⟩:=h' z h0 h1 gl hgl
   rw [h2,h3,h4,h5]
   exact ⟨tL fun p hp=>(hsm p hp).1,ut fun p hp=>(hsm p hp).2⟩
 intro z h0 h1
 exact this (r z+1) z (by omega) h0 h1
theorem vt {n:Nat} {D P D' P':Int→Int} (h:∀z:Int,0≤z→z < n→D z=D' z∧P z=P' z):ma n D P=ma n D' P':=by
 unfold ma
 rw [List.map_congr_left (f:=D) (g:=D') fun z hz=>(h z (f0.1 hz).1 (f0.1 hz).2).1,List.map_congr_left (f:=P) (g:=P') fun z hz=>(h z (f0.1 hz).1 (f0.1 hz).2).2]
open Classical in
noncomputable def mc (f:aZ):Int×Int:=if h:∃q:(Int→Int)×(Int→Int),jn f q.1 q.2 then ma f.Glyphs.length h.choose.1 h.choose.2 else (33,0)
theorem pq {f:aZ} (hf:uW f) (ha:kc f.Glyphs.length (prt f)) {D P:Int→Int} (h:jn f D P):mc f=ma f.Glyphs.length D P:=by
 unfold mc
 have hex:∃q:(Int→Int)×(Int→Int),jn f q.1 q.2:=⟨(D,P),h⟩
 rw [dif_pos hex]
 exact vt (yb hf ha hex.choose_spec h)
theorem D7 (f:aZ) (hf:uW f) (ha:kc f.Glyphs.length (prt f)):AC Tryz.prog 55 [.iptr (cw f)] [] fun c _=>c=ck ((mc f).1,(mc f).2):=by
 refine aL Tryz.func55 rfl Tryz.ntmps55 rfl fun B=>?_
 repeat' (first|refine IT ?_|refine IF a5 G9 ?_)
 refine aX [] [] (tK f hf (.inl ha)) rfl rfl (Jt _) rfl fun c L1 hc=>?_
 rcases hc with ⟨D,P,h1,h2,hc⟩ | ⟨hna,_⟩
 ·rw [←pq hf ha h1] at hc
  subst hc
  unfold ck
  repeat' (first|refine IT ?_|refine IF a5 G9 ?_)
  exact aY rfl rfl rfl rfl
 ·exact absurd ha hna
def wV (_:Nat) (l:List fP):Int:=mH l
def nH (f:aZ) (_:Nat) (r:List eO):Int:=yS f.Axes.length r
def iK (f:aZ) (_:Nat) (l:aN):Int:=l7 f l
noncomputable def AU (f:aZ):List (Int×Int):=[(o5 f,0),cj 400 f.Glyphs (dS f),mc f,cj 1000 f.Chars (iI f),cj 40 f.Lookups (iK f),cj 20 f.Features (jC f),cj 3 f.Axes (ju f),cj 16 f.Regions (nH f),cj 20 f.Funcs wV,cj 64 f.Cvt Ar]
noncomputable def mg (f:aZ):Int×Int:=gq (AU f)
noncomputable def wU (f:aZ) (m1 m2 m3:Nat):List Lk:=[⟨48,[.iptr (cw f)],[],o5 f,0⟩,
 ⟨112,[.iptr [.imm 9 (f.Glyphs.map bG)],.iptr [aF 400],.iptr [.fn 51 [.iptr (cw f),.iptr [.sc (.map (some m1))]]]],[(m1,cP .string (cH (jH f)))],(cj 400 f.Glyphs (dS f)).1,(cj 400 f.Glyphs (dS f)).2⟩,
 ⟨55,[.iptr (cw f)],[],(mc f).1,(mc f).2⟩,
 ⟨132,[.iptr [.imm 2 (f.Chars.map dQ)],.iptr [aF 1000],.iptr [.fn 58 [.iptr (cw f)]]],[],(cj 1000 f.Chars (iI f)).1,(cj 1000 f.Chars (iI f)).2⟩,
 ⟨134,[.iptr [.imm 3 (f.Lookups.map bC)],.iptr [aF 40],.iptr [.fn 61 [.iptr (cw f)]]],[],(cj 40 f.Lookups (iK f)).1,(cj 40 f.Lookups (iK f)).2⟩,
 ⟨142,[.iptr [.imm 2 (f.Features.map cf)],.iptr [aF 20],.iptr [.fn 64 [.iptr (cw f),.iptr [.sc (.map (some m2))]]]],[(m2,cP .string (cH (kP f)))],(cj 20 f.Features (jC f)).1,(cj 20 f.Features (jC f)).2⟩,
 ⟨145,[.iptr [.imm 4 (f.Axes.map cF)],.iptr [aF 3],.iptr [.fn 68 [.iptr [.sc (.map (some m3))]]]],[(m3,cP .string (cH (i5 f)))],(cj 3 f.Axes (ju f)).1,(cj 3 f.Axes (ju f)).2⟩,
 ⟨147,[.iptr [.imm 1 (f.Regions.map bJ)],.iptr [aF 16],.iptr [.fn 71 [.iptr (cw f)]]],[],(cj 16 f.Regions (nH f)).1,(cj 16 f.Regions (nH f)).2⟩,
 ⟨151,[.iptr [.imm 1 (f.Funcs.map dv)],.iptr [aF 20],.iptr [.sc (.func (.func 74) #[] #[])]],[],(cj 20 f.Funcs wV).1,(cj 20 f.Funcs wV).2⟩,
 ⟨155,[.iptr [.imm 1 (f.Cvt.map xX)],.iptr [aF 64],.iptr [.sc (.func (.func 77) #[] #[])]],[],(cj 64 f.Cvt Ar).1,(cj 64 f.Cvt Ar).2⟩]
theorem vD (f:aZ) (m1 m2 m3:Nat) (hA:(cj 400 f.Glyphs (dS f)).1=0→kc f.Glyphs.length (prt f)):vU (wU f m1 m2 m3):=by
 refine ⟨⟨inferInstance,yp f⟩,fun _=>⟨⟨inferInstance,?_⟩,fun h1=>⟨⟨inferInstance,D7 f (iP h1) (hA h1)⟩,fun _=>⟨⟨inferInstance,?_⟩,fun _=>⟨⟨inferInstance,?_⟩,fun _=>⟨⟨inferInstance,?_⟩,fun _=>⟨⟨inferInstance,?_⟩,fun _=>⟨⟨inferInstance,?_⟩,fun _=>⟨⟨inferInstance,?_⟩,fun _=>⟨⟨inferInstance,?_⟩,fun _=>trivial⟩⟩⟩⟩⟩⟩⟩⟩⟩⟩
 ·exact E4 (u:= .fn 51 [.iptr (cw f),.iptr [.sc (.map (some m1))]]) rfl f.Glyphs 400 (fI f.Glyphs (dS f)) (fun _ L=>L=[(m1,cP .string (cH (jH f)))]) _ rfl fun _=>qF fun i x _=>vK f i x m1
 ·exact E5 (u:= .fn 58 [.iptr (cw f)]) rfl f.Chars 1000 (fI f.Chars (iI f)) (fun _ _=>True) [] trivial fun hm=>d4 fun i x hx=>y0 f i x hx hm
 ·exact E6 (u:= .fn 61 [.iptr (cw f)]) rfl f.Lookups 40 (fI f.Lookups (iK f)) (fun _ _=>True) [] trivial fun _=>d4 fun i x _=>sy f i x
 ·exact E7 (u:= .fn 64 [.iptr (cw f),.iptr [.sc (.map (some m2))]]) rfl f.Features 20 (fI f.Features (jC f)) (fun _ L=>L=[(m2,cP .string (cH (kP f)))]) _ rfl fun _=>qF fun i x _=>yh f i x m2
 ·exact E8 (u:= .fn 68 [.iptr [.sc (.map (some m3))]]) rfl f.Axes 3 (fI f.Axes (ju f)) (fun _ L=>L=[(m3,cP .string (cH (i5 f)))]) _ rfl fun _=>qF fun i x _=>xQ f i x m3
 ·exact E9 (u:= .fn 71 [.iptr (cw f)]) rfl f.Regions 16 (fI f.Regions (nH f)) (fun _ _=>True) [] trivial fun _=>d4 fun i x _=>uB f i x
 ·exact Ea (u:= .sc (.func (.func 74) #[] #[])) (g:=74) (caps:=[]) rfl f.Funcs 20 (fI f.Funcs wV) (fun _ _=>True) [] trivial fun _=>d4 fun i x _=>y3 i x
 ·exact Eb (u:= .sc (.func (.func 77) #[] #[])) (g:=77) (caps:=[]) rfl f.Cvt 64 (fI f.Cvt Ar) (fun _ _=>True) [] trivial fun _=>d4 fun i x _=>Ap i x
set_option maxHeartbeats 4000000 in
theorem DC (f:aZ) (hA:(cj 400 f.Glyphs (dS f)).1=0→kc f.Glyphs.length (prt f)):AC Tryz.prog 25 [cR f] [] fun c _=>c=ck (mg f):=by
 refine aL Tryz.func25 rfl Tryz.ntmps25 rfl fun B=>?_
 repeat' (first|refine IT ?_|refine IF a5 G9 ?_|refine bo ?_|fail)
 refine aX [] _ (AN f.Glyphs) rfl rfl (Jt _) rfl fun c L1 ⟨m1,hc,hL⟩=>?_
 subst hc;subst hL
 repeat' (first|refine IT ?_|refine IF a5 G9 ?_|(apply aK;first|refine IH 4 a5 0 IE ?_|refine IH 4 a5 1 IE ?_|refine IH 4 a5 2 IE ?_|refine IH 5 a5 0 IE ?_|refine IH 5 a5 1 IE ?_|refine IH 5 a5 2 IE ?_|refine IH 6 a5 0 IE ?_|refine IH 6 a5 1 IE ?_|refine IH 6 a5 2 IE ?_|refine IG a5 0 ID ?_|refine IG a5 1 ID ?_|refine IG a5 2 ID ?_|refine IG a5 3 ID ?_|fail)|refine bi a5 fun _=>?_|fail)
 refine aX [] _ (AP f.Features) rfl rfl (Jt _) rfl fun c L1 ⟨m2,hc,hL⟩=>?_
 subst hc;subst hL
 repeat' (first|refine IT ?_|refine IF a5 G9 ?_|(apply aK;first|refine IH 4 a5 0 IE ?_|refine IH 4 a5 1 IE ?_|refine IH 4 a5 2 IE ?_|refine IH 5 a5 0 IE ?_|refine IH 5 a5 1 IE ?_|refine IH 5 a5 2 IE ?_|refine IH 6 a5 0 IE ?_|refine IH 6 a5 1 IE ?_|refine IH 6 a5 2 IE ?_|refine IG a5 0 ID ?_|refine IG a5 1 ID ?_|refine IG a5 2 ID ?_|refine IG a5 3 ID ?_|fail)|refine bi a5 fun _=>?_|fail)
 refine aX [] _ (AQ f.Axes) rfl rfl (Jt _) rfl fun c L1 ⟨m3,hc,hL⟩=>?_
 subst hc;subst hL
 repeat' (first|refine IT ?_|(apply aK;first|refine IH 4 a5 0 IE ?_|refine IH 4 a5 1 IE ?_|refine IH 4 a5 2 IE ?_|refine IH 5 a5 0 IE ?_|refine IH 5 a5 1 IE ?_|refine IH 5 a5 2 IE ?_|refine IH 6 a5 0 IE ?_|refine IH 6 a5 1 IE ?_|refine IH 6 a5 2 IE ?_|refine IG a5 0 ID ?_|refine IG a5 1 ID ?_|refine IG a5 2 ID ?_|refine IG a5 3 ID ?_|fail)|refine bi a5 fun _=>?_|fail)
 refine bA 36 [(0,.v),(1,.v),(2,.v),(3,.v),(4,.v),(5,.v),(6,.v),(7,.v),(8,.v),(9,.v),(10,.v),(11,.v),(12,.v),(13,.v),(14,.v),(15,.v),(16,.v),(17,.v),(18,.v),(19,.v),(20,.v),(21,.v),(22,.v),(23,.v),(24,.v),(25,.v),(26,.v),(27,.v),(28,.v),(29,.v),(30,.v),(31,.v),(32,.v),(33,.e),(34,.v),(35,.v)] none ?_ trivial rfl (by kernel_rfl) (by kernel_rfl) (by kernel_rfl) bU (by kernel_rfl) rfl
 repeat' (first|refine aD ?_|refine b8 a5 ?_|(apply dy;refine ej ?_)|fail)
 refine ej (hc:=⟨FL f.Cvt 64⟩) ?_
 repeat' (first|refine aD ?_|refine dR a5 ?_|fail)
 refine jy (L:=[(m3,cP .string (cH (i5 f))),(m2,cP .string (cH (kP f))),(m1,cP .string (cH (jH f)))]) _ [] (j4 (wU f m1 m2 m3) (vD f m1 m2 m3 hA)) rfl rfl (by rw [List.append_nil];exact (List.reverse_perm _).symm) trivial fun c L1 hc=>?_
 rw [jK] at hc
 have hc:c=ck (mg f):=hc
 subst hc
 unfold ck
 repeat' (first|refine aD ?_|refine b8 a5 ?_|fail)
 refine IQ [50,51] G9 ?_
 repeat' (first|refine IT ?_|refine a7 ?_|refine IF a5 G9 ?_)
 exact aY rfl rfl rfl rfl
end Go.Proofs.YtpmdfoaadejmkaaGreatDoor
namespace Go.Proofs.YtpmdfoaadejmkaaGreatDoor
open Go.RowKit
attribute [local irreducible] AT bv AX AO Av Kt b9 dh DA cE
def GW (c:UInt8) (m:Bool):bn:=⟨⟨#[c]⟩,0,m,[],[],[],[],[],[]⟩
def sT:List bn:=[GW 97 false,GW 98 false,GW 99 false,GW 100 false,GW 109 true]
def fp (ls:List aN):aZ:=⟨1000,sT,[],ls,[],[],[],[],[]⟩
def Ck:List aN:=[⟨3,false,[⟨[],[[0],[1]],[],[2],[],0⟩]⟩,⟨1,false,[⟨[],[[2]],[],[3],[],0⟩]⟩]
theorem qf (ls:List aN):kc (fp ls).Glyphs.length (prt (fp ls)):=by
 refine ⟨fun _=>0,fun g h0 h1 p hp=>?_⟩
 exfalso
 have hg:g.toNat < 5:=by have:g < 5:=h1;omega
 unfold prt at hp
 obtain ⟨x,hx⟩:∃x,(fp ls).Glyphs[g.toNat]?=some x:=⟨_,Iz hg⟩
 have hm:x.Parts=[]:=by
  have:∀y∈sT,y.Parts=[]:=by decide+kernel
  exact this x (Iw hx)
 rw [hx] at hp
 dsimp only at hp
 rw [hm] at hp
 simp at hp
theorem ol (ls:List aN):(cj 400 sT (dS (fp ls))).1=0:=by
 have h0:(cj 400 sT (dS (fp []))).1=0:=by decide
 exact h0
theorem yO (ls:List aN):jn (fp ls) (fun _=>0) (fun _=>0):=by
 intro z h0 h1 gl hgl
 have h1:z < 5:=h1
 have:z=0∨z=1∨z=2∨z=3∨z=4:=by omega
 rcases this with rfl | rfl | rfl | rfl | rfl <;> (injection hgl with e;subst e;exact ⟨by decide,by decide⟩)
theorem uw {ls:List aN} (h:(cj 40 ls (iK (fp ls))).1=0):(mg (fp ls)).1=0:=by
 refine du.2 fun x hx=>?_
 have hc:(mc (fp ls)).1=0:=by
  rw [pq (iP (ol ls)) (qf ls) (yO ls)]
  show (ma 5 (fun _=>0) (fun _=>0)).1=0
  decide
 simp only [AU,List.mem_cons,List.not_mem_nil,or_false] at hx
 rcases hx with rfl | rfl | rfl | rfl | rfl | rfl | rfl | rfl | rfl | rfl
 ·rfl
 ·exact ol ls
 ·exact hc
 ·rfl
 ·exact h
 ·rfl
 ·rfl
 ·rfl
 ·rfl
 ·rfl
def Br (ls:List aN):Bool:=decide ((cj 40 ls (iK (fp ls))).1=0)
theorem kH:∀(l:List Int) (i:Nat) (g:Int),fc i (l++[g])=fc i l++[⟨g,(i+l.length:Nat),0,0,0,0⟩]
 | [],i,g=>rfl
 | x::l,i,g=>by
  rw [Jx,fc,kH l (i+1) g,fc,Jx,List.length_cons,show i+1+l.length=i+(l.length+1) by omega]
theorem li:∀(l:List Int) (i:Nat),(fc i l).length=l.length
 | [],_=>rfl
 | x::l,i=>by rw [fc,List.length_cons,li l,List.length_cons]
theorem yt (l:List Int) (hl:l.length≤1000000):bN Tryz.prog 29 [.imm 1 (aT l)] (.imm 6 ((eL l).map bz)):=by
 refine aL Tryz.func29 rfl Tryz.ntmps29 rfl fun B=>?_
 have hil:=b6 l
 repeat' (first|refine IT ?_|refine am ?_|refine IF a5 G9 ?_|refine rG (d:=5) a5 fun _=>?_|fail)
 refine aO [0] (α:=Nat×Option (Nat×Nat)) (fun s=>[(4,aF s.1),(3,.vec s.2 6 ((eL (l.take s.1)).map bz))]) (fun s=>s.1≤l.length) (fun s=>tok s.2 67 6 s.1) (fun s=>l.length - s.1) (0,some (_,0)) rfl ⟨rfl,rfl,trivial⟩ (Nat.zero_le _) (fun _ _ h=>h) ?_
 rintro ⟨i,q⟩ hi
 dsimp only at hi ⊢
 try dsimp only [Jx,Jw,Jv,Jq]
 repeat' (first|refine IT ?_|refine IF a5 G9 ?_)
 refine ar rfl (fun h1=>?_) (fun h1=>?_)
 ·have hi2:i < l.length:=by have:=Iy h1;omega
  obtain ⟨g,hg⟩:∃z,l[i]?=some z:=⟨_,Iz hi2⟩
  have hgg:=bR hg
  have hml:((eL (l.take i)).map bz).length=i:=by unfold eL;rw [Jz,li,List.length_take];omega
  have hsn:(eL (l.take i)).map bz++[bz ⟨g,(i:Nat),0,0,0,0⟩]=(eL (l.take (i+1))).map bz:=by
   rw [List.take_add_one,hg]
   unfold eL
   show _=(fc 0 (l.take i++[g])).map bz
   rw [kH,List.map_append,List.length_take,Nat.min_eq_left (by omega),Nat.zero_add]
   rfl
  generalize (eL (l.take i)).map bz=A0 at *
  clear h1
  repeat' (first|refine IT ?_|refine am ?_|refine IF a5 G9 ?_|(apply aS;first|refine aQ a5 ?_|refine aG a5 ?_)|refine bH a5 ?_|fail)
  refine bM a5 [] rfl rfl rfl rfl (by rw [hml,List.append_nil]) (by rw [hml];simp;omega) (by rw [hml];simp;omega) rfl fun q'=>?_
  repeat' (first|refine IT ?_|refine IF a5 G9 ?_|(apply aV;refine aU ?_)|fail)
  refine aC (i+1,q') rfl ⟨by rw [Iv];rfl,by dsimp only;rw [←hsn];rfl,trivial⟩ hi2 (by dsimp only;omega) (fun _ _ h=>?_)
  rw [List.length_append,hml,List.append_nil] at h
  exact h
 ·have hi2:i=l.length:=by have:=Ix h1;omega
  subst hi2
  rw [List.take_length]
  clear h1
  repeat' (first|refine IT ?_|refine IF a5 G9 ?_)
  refine bh (bS (t:=2) (c':= .imm 6 ((eL l).map bz)) rfl fun σ v h=>VR.im h) ?_
  refine eP (List.nil_sublist _) ?_
  exact IN IA
theorem vM (run:List aM) (l:List Int) (hl:l.length≤1000000):bN Tryz.prog 30 [.imm 6 (run.map bz),.imm 1 (aT l)] (ec (decide (run.map aM.Glyph=l))):=by
 refine aL Tryz.func30 rfl Tryz.ntmps30 rfl fun B=>?_
 have hil:=b6 l
 have hrl:(run.map bz).length=run.length:=Jz ..
 repeat' (first|refine IT ?_|refine IF a5 G9 ?_)
 refine ar rfl (fun h1=>?_) (fun h1=>?_)
 ·have hne:¬run.length=l.length:=by have:=Iy h1;omega
  rw [decide_eq_false (fun e=>hne (by rw [←e,Jz]))]
  repeat' (first|refine IT ?_|refine IF a5 G9 ?_)
  exact IN IA
 ·have heq:run.length=l.length:=by have:=Ix h1;omega
  clear h1
  repeat' (first|refine IT ?_|refine am ?_|refine IF a5 G9 ?_)
  refine aO [0,1] (α:=Nat) (fun i=>[(5,aF i)]) (fun i=>i≤l.length∧(run.map aM.Glyph).take i=l.take i) (fun _=>[]) (fun i=>l.length - i) 0 rfl ⟨rfl,trivial⟩ ⟨Nat.zero_le _,rfl⟩ (fun _ _ h=>h) ?_
  rintro i ⟨hi,hti⟩
  try dsimp only [Jx,Jw,Jv,Jq]
  repeat' (first|refine IT ?_|refine IF a5 G9 ?_)
  refine ar rfl (fun h1=>?_) (fun h1=>?_)
  ·have hi2:i < l.length:=by have:=Iy h1;omega
   obtain ⟨g,hg⟩:∃z,l[i]?=some z:=⟨_,Iz hi2⟩
   obtain ⟨x,hx⟩:∃z,run[i]?=some z:=⟨_,Iz (by omega)⟩
   have hgg:=bR hg
   have hxg:(run.map bz)[i]?=some (bz x):=by simp [hx]
   have hmg:(run.map aM.Glyph)[i]?=some x.Glyph:=by simp [hx]
   clear h1
   repeat' (first|refine IT ?_|refine am ?_)
   refine bA 9 [(0,.v),(1,.v),(2,.v),(3,.v),(4,.v),(5,.v),(6,.v),(7,.v),(8,.v)] none ?_ trivial rfl (by kernel_rfl) (by kernel_rfl) (by kernel_rfl) bU (by kernel_rfl) rfl
   repeat' (first|refine aD ?_|refine b8 a5 ?_|(apply cB;refine cT a5 ?_)|fail)
   refine IQ [0,1,5,21,25] G9 ?_
   repeat' (first|refine IT ?_|refine a7 ?_|refine IF a5 G9 ?_)
   refine ar rfl (fun h1=>?_) (fun h1=>?_)
   ·have hne:x.Glyph≠g:=Iy h1
    rw [decide_eq_false (fun e=>hne (by rw [e,hg] at hmg;cases hmg;rfl))]
    repeat' (first|refine IT ?_|refine IF a5 G9 ?_)
    exact IN IA
   ·have heg:x.Glyph=g:=by have h1':¬x.Glyph≠g:=Ix h1;exact Classical.not_not.1 h1'
    repeat' (first|refine IT ?_|refine IF a5 G9 ?_|(apply aV;refine aU ?_)|fail)
    exact aC (i+1) rfl ⟨by rw [Iv];rfl,trivial⟩ ⟨hi2,by rw [List.take_add_one,List.take_add_one,hti,hg,hmg,heg]⟩ (by omega) (fun _ _ h=>h)
  ·have hi2:i=l.length:=by have:=Ix h1;omega
   subst hi2
   rw [List.take_length,List.take_of_length_le (by rw [Jz];omega)] at hti
   rw [decide_eq_true hti]
   repeat' (first|refine IT ?_|refine IF a5 G9 ?_)
   exact IN IA
theorem yj {f:aZ} (hr:(mg f).1=0) (ha:kc f.Glyphs.length (prt f)):AC Tryz.prog 25 [cR f] [] fun c _=>∃n:Int,c=ck (0,n):=
 AC.mono (DC f fun _=>ha) fun c L hc=>⟨(mg f).2,by rw [hc,←hr]⟩
def Cg (N:Nat) (s:List Int):Bool:=decide (s.Pairwise (· < ·)) && s.all fun g=>decide (0≤g) && decide (g < (N:Int))
def C7 (N:Nat) (r:bb):Bool:=r.Back.all (Cg N) && (r.In.all (Cg N) && (r.Ahead.all (Cg N) && (decide (r.Back.length≤200) && (decide (r.In.length+r.Ahead.length≤200) && (decide (r.Out.length≤1000000) && (decide (r.Calls.length≤1000000) && r.Calls.all fun c=>decide (0≤c.At) && decide (c.At≤1000000)))))))
def x6 (N:Nat) (l:aN):Bool:=decide (l.Rules.length≤6) && l.Rules.all (C7 N)
theorem sY {N:Nat} {s:List Int} (h:Cg N s=true):jW s∧∀g∈s,0≤g∧g < (N:Int):=by
 unfold Cg at h
 simp only [Bool.and_eq_true,decide_eq_true_eq,List.all_eq_true] at h
 exact h
structure zC (N:Nat) (r:bb):Prop where
 b:t8 N r
 out:r.Out.length≤1000000
 calls:r.Calls.length≤1000000
 at_:∀c∈r.Calls,0≤c.At∧c.At≤1000000
theorem C8 {N:Nat} {r:bb} (h:C7 N r=true):zC N r:=by
 unfold C7 at h
 simp only [Bool.and_eq_true,decide_eq_true_eq,List.all_eq_true] at h
 obtain ⟨h1,h2,h3,h4,h5,h6,h7,h8⟩:=h
 exact ⟨⟨fun s hs=>sY (h1 s hs),fun s hs=>sY (h2 s hs),fun s hs=>sY (h3 s hs),h4,h5⟩,h6,h7,h8⟩
structure oX (f:aZ):Prop where
 glyphs:0 < f.Glyphs.length∧f.Glyphs.length≤65536
 lookups:f.Lookups.length≤1000000
 few:∀l∈f.Lookups,l.Rules.length≤6
 rule:∀l∈f.Lookups,∀r∈l.Rules,zC f.Glyphs.length r
theorem oX.new {f:aZ} (h:oX f):Ev f:=by
 refine ⟨h.glyphs,h.lookups,fun l hl=>⟨h.few l hl,fun r hr=>(h.rule l hl r hr).b⟩,fun l hl r hr=>?_⟩
 have hb:=h.rule l hl r hr
 have hg:=h.glyphs.2
 exact ⟨⟨by have:=hb.b.long;omega,fun s hs=>by have:=fq (gF (hb.b.in_ s hs).1) (hb.b.in_ s hs).2;omega⟩,hb.out,hb.calls⟩
theorem oX.eng {f:aZ} (h:oX f) {E:oz} (hE:Gf f E):ki E:=⟨hE.auto,fun e he r hr hin=>by
 have hl:e.l∈f.Lookups:=by rw [←hE.ls];exact List.mem_map.2 ⟨e,he,rfl⟩
 have hb:=h.rule e.l hl r hr
 exact ⟨hin,hb.out,hb.calls,hb.at_⟩⟩
theorem BM {f:aZ} (h:oX f) (hr:(mg f).1=0) (ha:kc f.Glyphs.length (prt f)):AC Tryz.prog 15 [cR f] [] fun c _=>∃E,ki E∧E.ls=f.Lookups∧E.ms=f.Glyphs.map bn.Mark∧c= .tup [.iptr (dp E),aF 0]:=
 AC.mono (FV f h.new (yj hr ha)) fun c L ⟨E,hE,hc⟩=>⟨E,h.eng hE,hE.ls,hE.ms,hc⟩
theorem FY {ls:List aN} (h:ls.all (x6 5)=true) (hl:ls.length≤1000000):oX (fp ls):=by
 rw [List.all_eq_true] at h
 have hh:∀l∈ls,l.Rules.length≤6∧∀r∈l.Rules,zC 5 r:=fun l hl=>by
  have:=h l hl
  unfold x6 at this
  simp only [Bool.and_eq_true,decide_eq_true_eq,List.all_eq_true] at this
  exact ⟨this.1,fun r hr=>C8 (this.2 r hr)⟩
 exact ⟨⟨Nat.succ_pos _,by show (5:Nat)≤65536;omega⟩,hl,fun l hl=>(hh l hl).1,fun l hl=>(hh l hl).2⟩
theorem yQ {ls:List aN} (h:ls.all (x6 5)=true) (hl:ls.length≤1000000) (hr:(mg (fp ls)).1=0):AC Tryz.prog 15 [cR (fp ls)] [] fun c _=>∃E,ki E∧E.ls=ls∧E.ms=jM∧c= .tup [.iptr (dp E),aF 0]:=
 AC.mono (BM (FY h hl) hr (qf ls)) fun c L ⟨E,h1,h2,h3,h4⟩=>⟨E,h1,h2,h3,h4⟩
theorem yP (ls:List aN):bN Tryz.prog 28 [.imm 3 (ls.map bC)] (cR (fp ls)):=by
 refine aL Tryz.func28 rfl Tryz.ntmps28 rfl fun B=>?_
 repeat' (first|refine IT ?_|refine IF a5 G9 ?_|(apply aK;first|refine IG a5 0 ID ?_|refine IG a5 1 ID ?_|refine IG a5 2 ID ?_|refine IG a5 3 ID ?_|fail)|refine bi a5 fun _=>?_|refine bH a5 ?_|fail)
 refine bh (bq 0 (cs':=cw (fp ls)) rfl fun σ vs h=>lz.vrs ?_ h) (wL a5 0 rfl rfl rfl rfl rfl rfl)
 repeat' first | exact cx.refl _ | exact cx.nil _ | exact True.intro | refine cx.agg ?_ | refine cx.imm ?_ | refine And.intro ?_ ?_
end Go.Proofs.YtpmdfoaadejmkaaGreatDoor
