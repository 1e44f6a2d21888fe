/-
  The program: how deep glyphs are, and how many points they have.
-/
import Derived.Test.YtamjlkdanllgjaaGreatDoorM29
import Derived.Test.YtamjlkdanllgjaaGreatDoorM25
import Derived.Test.YtamjlkdanllgjaaGreatDoorM24
namespace Go.Proofs.YtamjlkdanllgjaaGreatDoor
open Go.RowKit
attribute [local irreducible] AT bz AX AO Av Kt aZ cY DA cu
set_option maxRecDepth 8000
def dF (D:Int→Int) (ps:List dA):Int:=ps.foldl (fun a p=>max a (D p.Glyph+1)) 0
def pF (P:Int→Int) (ps:List dA) (k:Int):Int:=ps.foldl (fun a p=>min (a+P p.Glyph) 1001) k
def dR (n:Nat) (D:Int→Int):List AV:=(co n).map fun z=>aF (D z)
def gI (D:Int→Int) (z v:Int):Int→Int:=fun q=>if q=z then v else D q
theorem kO {D:Int→Int} {z v:Int}:gI D z v z=v:=by simp [gI]
theorem jq {D:Int→Int} {z v q:Int} (h:q≠z):gI D z v q=D q:=by simp [gI,h]
theorem rU (D:Int→Int) (z v w:Int):gI (gI D z v) z w=gI D z w:=by
 funext q
 unfold gI
 by_cases e:q=z
 ·rw [if_pos e,if_pos e]
 ·rw [if_neg e,if_neg e,if_neg e]
theorem j2 (n:Nat) (D:Int→Int):(dR n D).length=n:=by simp [dR,co]
theorem j1 {n:Nat} {D:Int→Int} {z:Int} (h0:0≤z) (h1:z < n):(dR n D)[0+z.toNat * 1]?=some (aF (D z)):=by
 rw [Nat.zero_add,Nat.mul_one]
 unfold dR
 rw [List.getElem?_map,iU (by omega),Option.map_some,show ((z.toNat:Nat):Int)=z by omega]
theorem lg {n:Nat} {D:Int→Int} {z v:Int} (h0:0≤z) (h1:z < n):(dR n D).set (0+z.toNat * 1) (aF v)=dR n (gI D z v):=by
 rw [Nat.zero_add,Nat.mul_one]
 apply List.ext_getElem?
 intro i
 rw [List.getElem?_set,j2]
 unfold dR gI
 by_cases hi:z.toNat=i
 ·subst hi
  rw [if_pos rfl,if_pos (by omega),List.getElem?_map,iU (by omega),Option.map_some,if_pos (by omega)]
 ·rw [if_neg hi,List.getElem?_map,List.getElem?_map]
  by_cases hn:i < n
  ·rw [iU hn,Option.map_some,Option.map_some,if_neg (by omega)]
  ·rw [List.getElem?_eq_none (by rw [ew];omega)];rfl
theorem nN (n:Nat):(List.replicate n [aF 0]).flatten=dR n fun _=>0:=by
 rw [xh (co n) n (ew n).symm]
 unfold fp dR
 rw [List.take_zero,Ms,Nat.sub_zero,ew,List.map_replicate]
 apply List.ext_getElem?
 intro i
 rw [List.getElem?_replicate,List.getElem?_map]
 by_cases h:i < n
 ·rw [if_pos h,iU h];rfl
 ·rw [if_neg h,List.getElem?_eq_none (by rw [ew];omega)];rfl
theorem E4 {D:Int→Int} {ps:List dA} {j:Nat} {p:dA} (h:ps[j]?=some p):dF D (ps.take (j+1))=max (dF D (ps.take j)) (D p.Glyph+1):=by
 unfold dF
 rw [List.take_add_one,h,Option.toList_some,List.foldl_append]
 rfl
theorem F1 {P:Int→Int} {ps:List dA} {k:Int} {j:Nat} {p:dA} (h:ps[j]?=some p):pF P (ps.take (j+1)) k=min (pF P (ps.take j) k+P p.Glyph) 1001:=by
 unfold pF
 rw [List.take_add_one,h,Option.toList_some,List.foldl_append]
 rfl
theorem lm {α β:Type} {F G:α→β→α}:∀(l:List β) (a:α),(∀b∈l,∀a,F a b=G a b)→l.foldl F a=l.foldl G a
 | [],_,_=>rfl
 | b::l,a,h=>by rw [List.foldl_cons,List.foldl_cons,h b (List.mem_cons_self ..)];exact lm l _ fun c hc=>h c (Mu _ hc)
theorem tR {D D':Int→Int} {ps:List dA} (h:∀p∈ps,D p.Glyph=D' p.Glyph):dF D ps=dF D' ps:=lm ps 0 fun p hp a=>by rw [h p hp]
theorem ut {P P':Int→Int} {ps:List dA} {k:Int} (h:∀p∈ps,P p.Glyph=P' p.Glyph):pF P ps k=pF P' ps k:=lm ps k fun p hp a=>by rw [h p hp]
theorem II {D:Int→Int} {m:Int} (h:∀z,0≤D z∧D z≤m):∀(ps:List dA),0≤dF D ps∧dF D ps≤m+1:=by
 intro ps
 have hm:0≤m:=by have:=h 0;omega
 have:∀(ps:List dA) (a:Int),0≤a→a≤m+1→0≤ps.foldl (fun a p=>max a (D p.Glyph+1)) a∧ps.foldl (fun a p=>max a (D p.Glyph+1)) a≤m+1:=by
  intro ps
  induction ps with
  | nil=>intro a h0 h1;exact ⟨h0,h1⟩
  | cons p ps ih=>intro a h0 h1;have:=h p.Glyph;exact ih (max a (D p.Glyph+1)) (by omega) (by omega)
 exact this ps 0 (by omega) (by omega)
theorem G0 {P:Int→Int} {k:Int} (h:∀z,0≤P z∧P z≤1000000) (hk:0≤k∧k≤1000000) (ps:List dA):0≤pF P ps k∧pF P ps k≤1000000:=by
 unfold pF
 induction ps generalizing k with
 | nil=>exact hk
 | cons p ps ih=>have:=h p.Glyph;exact ih (k:=min (k+P p.Glyph) 1001) (by omega)
def jJ (f:aS) (D P:Int→Int):Prop:=∀z:Int,0≤z→z < f.Glyphs.length→∀gl,f.Glyphs[z.toNat]?=some gl→D z=dF D gl.Parts∧P z=pF P gl.Parts gl.Points.length
structure va (f:aS):Prop extends Few f where
 points:∀gl∈f.Glyphs,gl.Points.length≤1000000
 there:∀gl∈f.Glyphs,∀p∈gl.Parts,kQ f p.Glyph=true
theorem sU {f:aS} (hf:va f) {z:Int} {gl:bn} (h:f.Glyphs[z.toNat]?=some gl):prt f z=gl.Parts.map dA.Glyph:=by
 unfold prt
 rw [h]
 refine List.filter_eq_self.2 fun y hy=>?_
 obtain ⟨p,hp,rfl⟩:=List.mem_map.1 hy
 exact hf.there gl (Mx h) p hp
def qZ (_:Nat) (levels:Int):Int:=dP (decide (levels > 4)) 34
def rB (_:Nat) (all:Int):Int:=dP (decide (all≥1001)) 2
theorem vA (i:Nat) (n:Int):bD Tryz.prog 188 [aF i,aF n] (aF (qZ i n)):=by
 refine aI Tryz.func188 rfl Tryz.ntmps188 rfl fun B=>?_
 repeat' (first|refine ae ?_|refine a6 ?_|refine am ?_|refine a8 ?_|refine aa ?_|refine LR a7 LL ?_|(apply bk;refine b9 ?_)|fail)
 exact LY LM
theorem vB (i:Nat) (n:Int):bD Tryz.prog 190 [aF i,aF n] (aF (rB i n)):=by
 refine aI Tryz.func190 rfl Tryz.ntmps190 rfl fun B=>?_
 repeat' (first|refine ae ?_|refine a6 ?_|refine am ?_|refine a8 ?_|refine aa ?_|refine LR a7 LL ?_|(apply bk;refine b9 ?_)|fail)
 exact LY LM
theorem yp (l:List Int):bD Tryz.prog 186 [.iptr [.imm 1 (aT l)]] (cf (cT l qZ)):=by
 refine aI Tryz.func186 rfl Tryz.ntmps186 rfl fun B=>?_
 repeat' (first|refine ae ?_|refine a6 ?_|refine a8 ?_|refine aa ?_|refine LR a7 LL ?_)
 refine aW [] [] (lY (u:= .sc (.func (.func 188) #[] #[])) (g:=188) (caps:=[]) rfl l _ (fun _ _=>True) [] trivial (cV (fun i x _=>vA i x))) rfl rfl (Mp _) rfl fun c L1 hc=>?_
 have hc:c=cf (cT l qZ):=hc
 subst hc
 unfold cf
 repeat' (first|refine am ?_|refine a8 ?_|refine aa ?_|refine LR a7 LL ?_)
 exact MH LN
theorem yq (l:List Int):bD Tryz.prog 189 [.iptr [.imm 1 (aT l)]] (cf (cT l rB)):=by
 refine aI Tryz.func189 rfl Tryz.ntmps189 rfl fun B=>?_
 repeat' (first|refine ae ?_|refine a6 ?_|refine a8 ?_|refine aa ?_|refine LR a7 LL ?_)
 refine aW [] [] (lY (u:= .sc (.func (.func 190) #[] #[])) (g:=190) (caps:=[]) rfl l _ (fun _ _=>True) [] trivial (cV (fun i x _=>vB i x))) rfl rfl (Mp _) rfl fun c L1 hc=>?_
 have hc:c=cf (cT l rB):=hc
 subst hc
 unfold cf
 repeat' (first|refine am ?_|refine a8 ?_|refine aa ?_|refine LR a7 LL ?_)
 exact MH LN
structure v7 (f:aS) (T:List Int) (i:Nat) (D P:Int→Int):Prop where
 deep:∀z,0≤D z∧D z≤i
 many:∀z,0≤P z∧P z≤1000000
 done:∀(j:Nat) (z:Int),j < i→T[j]?=some z→∀gl,f.Glyphs[z.toNat]?=some gl→D z=dF D gl.Parts∧P z=pF P gl.Parts gl.Points.length
 rest:∀z,z∉T.take i→D z=0
theorem v7.start {f:aS} {T:List Int}:v7 f T 0 (fun _=>0) (fun _=>0):=⟨fun _=>by simp,fun _=>by simp,fun j _ h=>absurd h (Nat.not_lt_zero _),fun _ _=>rfl⟩
theorem v7.next {f:aS} {T:List Int} (hf:va f) (hT:i8 f.Glyphs.length (prt f) T) {i:Nat} {D P:Int→Int} (h:v7 f T i D P) {x:Int} {gl:bn} (hx:T[i]?=some x) (hgl:f.Glyphs[x.toNat]?=some gl):v7 f T (i+1) (gI D x (dF D gl.Parts)) (gI P x (pF P gl.Parts gl.Points.length)):=by
 have hgm:=Mx hgl
 have hnot:∀(j:Nat) (z:Int),j≤i→T[j]?=some z→∀g,f.Glyphs[z.toNat]?=some g→∀p∈g.Parts,p.Glyph≠x:=by
  intro j z hj hz g hg p hp e
  have h1:=hT.topo j z hz p.Glyph (by rw [sU hf hg];exact List.mem_map_of_mem hp)
  rw [e] at h1
  obtain ⟨k,hk⟩:=List.mem_iff_getElem?.1 h1
  rw [List.getElem?_take] at hk
  split at hk
  ·rename_i hlt
   obtain ⟨k1,k2⟩:=Mq hk
   obtain ⟨i1,i2⟩:=Mq hx
   have e1:=hT.nodup.idxOf_getElem k k1
   have e2:=hT.nodup.idxOf_getElem i i1
   rw [k2] at e1
   rw [i2] at e2
   omega
  ·cases hk
 have hd:=II h.deep gl.Parts
 have hp:=G0 (k:=(gl.Points.length:Int)) h.many (by have:=hf.points gl hgm;omega) gl.Parts
 refine ⟨fun z=>?_,fun z=>?_,fun j z hj hz g hg=>?_,fun z hz=>?_⟩
 ·unfold gI
  split
  ·omega
  ·have:=h.deep z;omega
 ·unfold gI
  split
  ·exact hp
  ·exact h.many z
 ·rw [tR (D:=gI D x (dF D gl.Parts)) (D':=D) fun p hp=>jq (hnot j z (by omega) hz g hg p hp),ut (P:=gI P x (pF P gl.Parts gl.Points.length)) (P':=P) fun p hp=>jq (hnot j z (by omega) hz g hg p hp)]
  by_cases e:z=x
  ·subst e
   rw [hgl] at hg
   cases hg
   rw [kO,kO]
   exact ⟨rfl,rfl⟩
  ·rw [jq e,jq e]
   have hji:j < i:=by
    rcases Nat.lt_or_ge j i with h1 | h1
    ·exact h1
    ·have:j=i:=by omega
     subst this
     rw [hx] at hz
     cases hz
     exact absurd rfl e
   exact h.done j z hji hz g hg
 ·rw [List.take_add_one,hx,Option.toList_some,List.mem_append,List.mem_singleton] at hz
  rw [jq (fun e=>hz (.inr e))]
  exact h.rest z fun hm=>hz (.inl hm)
def nQ (n:Nat) (D P:Int→Int):Int×Int:=gQ [cT ((co n).map D) qZ,cT ((co n).map P) rB]
set_option maxHeartbeats 8000000 in
theorem tQ (f:aS) (hf:va f) (hr:jG f.Glyphs.length (prt f)∨AC Tryz.prog 257 [cD f] [] fun c _=>∃z:Int,c=aF z):AC Tryz.prog 113 [cD f] [] fun c _=>(∃D P,jJ f D P∧jG f.Glyphs.length (prt f)∧c=cf (nQ f.Glyphs.length D P))∨(¬jG f.Glyphs.length (prt f)∧∃z:Int,c=cf (33,z)):=by
 refine aI Tryz.func113 rfl Tryz.ntmps113 rfl fun B=>?_
 have hn:=hf.n
 have hml:(f.Glyphs.map bK).length=f.Glyphs.length:=Mv ..
 repeat' (first|refine ae ?_|refine a6 ?_|refine a8 ?_|refine aa ?_|refine LR a7 LL ?_|refine bi ?_|fail)
 refine aW [] [] (Cm f hf.toFew hr) rfl rfl (Mp _) rfl fun c L1 hc=>?_
 refine bq (dE (List.nil_sublist _)) ?_
 rcases hc with ⟨T,hc,hT,hTl⟩ | ⟨hna,z,hc⟩
 rotate_left
 ·subst hc
  repeat' (first|refine ae ?_|refine a6 ?_|refine am ?_|refine a8 ?_|refine az ?_|refine aa ?_|refine LR a7 LL ?_|refine bI rfl ?_)
  exact ME LM (.inr ⟨hna,z,rfl⟩)
 subst hc
 have hall:=hT.all_of_len hTl
 have hacy:=hT.acyc hall
 have hTi:=b7 T
 repeat' (first|refine ae ?_|refine a6 ?_|refine aq ?_|refine a8 ?_|refine aa ?_|refine LR a7 LL ?_|refine bo rfl ?_)
 rw [hml]
 refine dS a7 f.Glyphs.length rfl rfl rfl rfl rfl rfl rfl (by omega) (by omega) rfl fun bd=>?_
 rw [show (List.replicate f.Glyphs.length (List.map AV.sc [Value.int .i64 0])).flatten=dR f.Glyphs.length fun _=>0 from nN _]
 repeat' (first|refine ae ?_|refine a6 ?_|refine a8 ?_|refine aa ?_|refine LR a7 LL ?_|(apply aU;first|refine LT 7 a7 0 LQ ?_|refine LT 7 a7 1 LQ ?_|refine LT 7 a7 2 LQ ?_|refine LT 8 a7 0 LQ ?_|refine LT 8 a7 1 LQ ?_|refine LT 8 a7 2 LQ ?_|refine LT 12 a7 0 LQ ?_|refine LT 12 a7 1 LQ ?_|refine LT 12 a7 2 LQ ?_|refine LU a7 0 LP ?_|refine LU a7 1 LP ?_|refine LU a7 2 LP ?_|refine LU a7 3 LP ?_|fail)|refine bf a7 fun _=>?_|fail)
 rw [hml]
 refine dS a7 f.Glyphs.length rfl rfl rfl rfl rfl rfl rfl (by omega) (by omega) rfl fun bp=>?_
 rw [show (List.replicate f.Glyphs.length (List.map AV.sc [Value.int .i64 0])).flatten=dR f.Glyphs.length fun _=>0 from nN _]
 repeat' (first|refine ae ?_|refine a6 ?_|refine ar ?_|refine a8 ?_|refine aa ?_|refine LR a7 LL ?_|(apply aU;first|refine LT 7 a7 0 LQ ?_|refine LT 7 a7 1 LQ ?_|refine LT 7 a7 2 LQ ?_|refine LT 8 a7 0 LQ ?_|refine LT 8 a7 1 LQ ?_|refine LT 8 a7 2 LQ ?_|refine LT 12 a7 0 LQ ?_|refine LT 12 a7 1 LQ ?_|refine LT 12 a7 2 LQ ?_|refine LU a7 0 LP ?_|refine LU a7 1 LP ?_|refine LU a7 2 LP ?_|refine LU a7 3 LP ?_|fail)|refine bf a7 fun _=>?_|fail)
 refine aN [1,7,8,31,32] (α:=Nat×(Int→Int)×(Int→Int)) (fun x=>[(33,aF x.1)]) (fun x=>x.1≤f.Glyphs.length∧v7 f T x.1 x.2.1 x.2.2) (fun x=>[(bp,.box (dR f.Glyphs.length x.2.2) 3),(bd,.box (dR f.Glyphs.length x.2.1) 3)]) (fun x=>f.Glyphs.length - x.1) (0,(fun _=>0),(fun _=>0)) rfl ⟨rfl,trivial⟩ ⟨Nat.zero_le _,v7.start⟩ (fun _ _ h=>h) ?_
 rintro ⟨i,D,P⟩ ⟨hi,hC⟩
 dsimp only at hi hC ⊢
 try dsimp only [Mt,Ms,Mr,Mn]
 repeat' (first|refine ae ?_|refine a6 ?_|refine a8 ?_|refine aa ?_|refine LR a7 LL ?_)
 refine aB rfl (fun h=>?_) (fun h=>?_)
 ·have hil:i < T.length:=by have:=Mz h;rw [hTi] at this;omega
  obtain ⟨x,hx⟩:∃x,T[i]?=some x:=⟨_,Ia hil⟩
  have hxi:=bH hx
  have hxr:=hT.dom x (Mx hx)
  obtain ⟨gl,hgl⟩:∃z,f.Glyphs[x.toNat]?=some z:=⟨_,Ia (by omega)⟩
  have hgm:=Mx hgl
  have hgg:=c6 (c:=bK) hgl
  have hpm:(gl.Points.map fk).length=gl.Points.length:=Mv ..
  have hpl:=hf.points gl hgm
  clear h
  repeat' (first|refine ae ?_|refine a6 ?_|refine ar ?_|refine aq ?_|refine a8 ?_|refine aa ?_|refine LR a7 LL ?_|(apply aL;first|refine aK a7 ?_|refine aH a7 ?_)|fail)
  refine bB 10 [(0,.v),(1,.v),(2,.v),(3,.v),(4,.v),(5,.v),(6,.v),(7,.v),(8,.v),(9,.v)] none ?_ trivial rfl (by kernel_rfl) (by kernel_rfl) (by kernel_rfl) mixed (by kernel_rfl) rfl
  repeat' (first|refine aJ ?_|refine bw a7 ?_|(apply cq;refine cQ a7 ?_)|fail)
  refine MG [1,7,8,10,31,32,33,37,38,46] LL ?_
  repeat' (first|(apply aL;first|refine aK a7 ?_|refine aH a7 ?_)|fail)
  refine aj a7 0 rfl rfl rfl rfl rfl rfl (by rw [Nat.ble_eq,j2];show _+1≤_;omega) ?_
  rw [f8,lg hxr.1 hxr.2,hpm]
  repeat' (first|refine ae ?_|refine a6 ?_|refine ar ?_|refine a8 ?_|refine aa ?_|refine LR a7 LL ?_|(apply aL;first|refine aK a7 ?_|refine aH a7 ?_)|fail)
  have hTx:x∉T.take i:=fun hm=>by
   obtain ⟨k,hk⟩:=List.mem_iff_getElem?.1 hm
   rw [List.getElem?_take] at hk
   split at hk
   ·obtain ⟨k1,k2⟩:=Mq hk
    obtain ⟨i1,i2⟩:=Mq hx
    have e1:=hT.nodup.idxOf_getElem k k1
    have e2:=hT.nodup.idxOf_getElem i i1
    rw [k2] at e1
    rw [i2] at e2
    omega
   ·cases hk
  have hD0:gI D x 0=D:=by
   funext q
   unfold gI
   split
   ·rename_i e;rw [e,hC.rest x hTx]
   ·rfl
  have hql:(gl.Parts.map fG).length=gl.Parts.length:=Mv ..
  have hqn:=hf.parts gl hgm
  refine aN [1,7,8,10,31,32,33,53,54] (α:=Nat) (fun j=>[(55,aF j)]) (fun j=>j≤gl.Parts.length) (fun j=>[(bp,.box (dR f.Glyphs.length (gI P x (pF P (gl.Parts.take j) gl.Points.length))) 3),(bd,.box (dR f.Glyphs.length (gI D x (dF D (gl.Parts.take j)))) 3)]) (fun j=>gl.Parts.length - j) 0 rfl ⟨rfl,trivial⟩ (Nat.zero_le _) (fun _ _ h=>by rw [List.take_zero,show dF D []=0 from rfl,hD0];exact h) fun j hj=>?_
  try dsimp only [Mt,Ms,Mr,Mn]
  repeat' (first|refine ae ?_|refine a6 ?_|refine a8 ?_|refine aa ?_|refine LR a7 LL ?_)
  refine aB rfl (fun h=>?_) (fun h=>?_)
  ·have hjl:j < gl.Parts.length:=by have:=Mz h;omega
   obtain ⟨q,hq⟩:∃q,gl.Parts[j]?=some q:=⟨_,Ia hjl⟩
   have hqg:=c6 (c:=fG) hq
   have hqr:=oJ.1 (hf.there gl hgm q (Mx hq))
   have hne:q.Glyph≠x:=fun e=>by
    have h1:=hT.topo i x hx q.Glyph (by rw [sU hf hgl];exact List.mem_map_of_mem (Mx hq))
    rw [e] at h1
    exact hTx h1
   have hc1:(dR f.Glyphs.length (gI D x (dF D (gl.Parts.take j))))[0+x.toNat * 1]?=some (aF (dF D (gl.Parts.take j))):=by rw [j1 hxr.1 hxr.2,kO]
   have hc2:(dR f.Glyphs.length (gI D x (dF D (gl.Parts.take j))))[0+q.Glyph.toNat * 1]?=some (aF (D q.Glyph)):=by rw [j1 hqr.1 hqr.2,jq hne]
   have hc3:(dR f.Glyphs.length (gI P x (pF P (gl.Parts.take j) gl.Points.length)))[0+x.toNat * 1]?=some (aF (pF P (gl.Parts.take j) gl.Points.length)):=by rw [j1 hxr.1 hxr.2,kO]
   have hc4:(dR f.Glyphs.length (gI P x (pF P (gl.Parts.take j) gl.Points.length)))[0+q.Glyph.toNat * 1]?=some (aF (P q.Glyph)):=by rw [j1 hqr.1 hqr.2,jq hne]
   have hDq:=hC.deep q.Glyph
   have hPq:=hC.many q.Glyph
   have hPj:=G0 (k:=(gl.Points.length:Int)) hC.many (by omega) (gl.Parts.take j)
   clear h
   repeat' (first|refine ae ?_|refine a6 ?_|refine ar ?_|refine aq ?_|refine a8 ?_|refine aa ?_|refine LR a7 LL ?_|(apply aL;first|refine aK a7 ?_|refine aH a7 ?_)|(apply aU;first|refine LT 7 a7 0 LQ ?_|refine LT 7 a7 1 LQ ?_|refine LT 7 a7 2 LQ ?_|refine LT 8 a7 0 LQ ?_|refine LT 8 a7 1 LQ ?_|refine LT 8 a7 2 LQ ?_|refine LT 12 a7 0 LQ ?_|refine LT 12 a7 1 LQ ?_|refine LT 12 a7 2 LQ ?_|refine LU a7 0 LP ?_|refine LU a7 1 LP ?_|refine LU a7 2 LP ?_|refine LU a7 3 LP ?_|fail)|refine bf a7 fun _=>?_|fail)
   refine bB 13 [(0,.v),(1,.v),(2,.v),(3,.v),(4,.v),(5,.l),(6,.v),(7,.v),(8,.v),(9,.v),(10,.l),(11,.v),(12,.v)] none ?_ trivial rfl (by kernel_rfl) (by kernel_rfl) (by kernel_rfl) mixed (by kernel_rfl) rfl
   repeat' (first|refine aJ ?_|refine bw a7 ?_|fail)
   refine cx a7 rfl rfl rfl hxr trivial ?_
   repeat' (first|refine aJ ?_|fail)
   refine cn a7 1 rfl rfl rfl hc1 trivial ?_
   repeat' (first|refine aJ ?_|refine bw a7 ?_|fail)
   refine cx a7 rfl rfl rfl hqr trivial ?_
   repeat' (first|refine aJ ?_|fail)
   refine cn a7 1 rfl rfl rfl hc2 trivial ?_
   repeat' (first|refine aJ ?_|refine bw a7 ?_|(apply iq;refine kT ?_)|fail)
   refine MG [1,7,8,10,12,31,32,33,53,54,55,59,60,71] LL ?_
   repeat' (first|(apply aL;first|refine aK a7 ?_|refine aH a7 ?_)|fail)
   refine aj a7 1 rfl rfl rfl rfl rfl rfl (by rw [Nat.ble_eq,j2];show _+1≤_;omega) ?_
   rw [f8,lg hxr.1 hxr.2,rU,←E4 hq]
   repeat' (first|refine a8 ?_|refine aa ?_)
   refine bB 13 [(0,.v),(1,.v),(2,.v),(3,.v),(4,.v),(5,.l),(6,.v),(7,.v),(8,.v),(9,.v),(10,.l),(11,.v),(12,.v)] none ?_ trivial rfl (by kernel_rfl) (by kernel_rfl) (by kernel_rfl) mixed (by kernel_rfl) rfl
   repeat' (first|refine aJ ?_|refine bw a7 ?_|fail)
   refine cx a7 rfl rfl rfl hxr trivial ?_
   repeat' (first|refine aJ ?_|fail)
   refine cn a7 0 rfl rfl rfl hc3 trivial ?_
   repeat' (first|refine aJ ?_|refine bw a7 ?_|fail)
   refine cx a7 rfl rfl rfl hqr trivial ?_
   repeat' (first|refine aJ ?_|fail)
   refine cn a7 0 rfl rfl rfl hc4 trivial ?_
   repeat' (first|refine aJ ?_|refine bw a7 ?_|(apply iq;refine kT ?_)|fail)
   refine MG [1,7,8,10,31,32,33,53,54,55,73,74,85] LL ?_
   repeat' (first|(apply aL;first|refine aK a7 ?_|refine aH a7 ?_)|fail)
   refine aj a7 0 rfl rfl rfl rfl rfl rfl (by rw [Nat.ble_eq,j2];show _+1≤_;omega) ?_
   rw [f8,lg hxr.1 hxr.2,rU,←F1 hq]
   repeat' (first|refine a6 ?_|refine a8 ?_|refine aP ?_|refine aa ?_|refine LR a7 LL ?_|(apply aY;refine aX ?_)|fail)
   exact aE (j+1) rfl ⟨by rw [Mw];rfl,trivial⟩ (by omega) (by omega) (fun _ _ h=>h)
  ·have hjl:j=gl.Parts.length:=by have:=My h;omega
   subst hjl
   rw [List.take_length]
   repeat' (first|refine a6 ?_|refine aO ?_|refine a8 ?_|refine av ?_|refine aP ?_|refine aC ?_|refine aA ?_|refine aa ?_|refine LR a7 LL ?_|(apply aY;refine aX ?_)|fail)
   exact aE (i+1,_,_) rfl ⟨by rw [Mw];rfl,trivial⟩ ⟨by dsimp only;omega,hC.next hf hT hx hgl⟩ (by dsimp only;omega) (fun _ _ h=>h)
 ·have hil:i=f.Glyphs.length:=by have:=My h;rw [hTi] at this;omega
  subst hil
  clear h
  have hdeep:jJ f D P:=by
   intro z h0 h1 gl hgl
   obtain ⟨j,hj⟩:=List.mem_iff_getElem?.1 (hall z h0 h1)
   exact hC.done j z (by have:=(Mq hj).1;omega) hj gl hgl
  have hcd:∀F:Int→Int,dR f.Glyphs.length F=(aT ((co f.Glyphs.length).map F)).flatten:=fun F=>by rw [rt];unfold dR;rw [List.map_map];rfl
  have hcl:∀F:Int→Int,(aT ((co f.Glyphs.length).map F)).length=f.Glyphs.length:=fun F=>by rw [b7,Mv,ew]
  refine cm (rS (t:=7) (sz:=1) (l:=aT ((co f.Glyphs.length).map D)) 1 rfl rfl (hcd D) (by simp [aT]) (hcl D) (by omega)) ?_
  refine cm (rS (t:=8) (sz:=1) (l:=aT ((co f.Glyphs.length).map P)) 1 rfl rfl (hcd P) (by simp [aT]) (hcl P) (by omega)) ?_
  repeat' (first|refine ae ?_|refine a6 ?_|refine aO ?_|refine a8 ?_|refine av ?_|refine aC ?_|refine aA ?_|refine LR a7 LL ?_|refine cA a7 ?_|fail)
  refine aW [] _ (iD [⟨186,[.iptr [.imm 1 (aT ((co f.Glyphs.length).map D))]],[],(cT ((co f.Glyphs.length).map D) qZ).1,(cT ((co f.Glyphs.length).map D) qZ).2⟩,⟨189,[.iptr [.imm 1 (aT ((co f.Glyphs.length).map P))]],[],(cT ((co f.Glyphs.length).map P) rB).1,(cT ((co f.Glyphs.length).map P) rB).2⟩] ⟨⟨inferInstance,yp _⟩,fun _=>⟨⟨inferInstance,yq _⟩,fun _=>trivial⟩⟩) rfl rfl (Mp _) rfl fun c L1 hc=>?_
  rw [jf] at hc
  have hc:c=cf (nQ f.Glyphs.length D P):=hc
  subst hc
  unfold cf
  repeat' (first|refine am ?_|refine a8 ?_|refine aa ?_|refine LR a7 LL ?_)
  exact ME LM (.inl ⟨D,P,hdeep,hacy,rfl⟩)
set_option maxRecDepth 8000
theorem jw {err:Nat→Int}:∀(k i:Nat),(d7 err k i).1=0↔∀j,i≤j→j < i+k→err j=0
 | 0,i=>by simp only [d7,true_iff];intro j h1 h2;omega
 | k+1,i=>by
  simp only [d7]
  by_cases h:err i=0
  ·rw [if_pos h,jw k (i+1)]
   constructor
   ·intro hh j h1 h2
    by_cases e:j=i
    ·subst e;exact h
    ·exact hh j (by omega) (by omega)
   ·intro hh j h1 h2;exact hh j (by omega) (by omega)
  ·rw [if_neg h]
   constructor
   ·intro hh;exact absurd hh h
   ·intro hh;exact hh i (Nat.le_refl _) (by omega)
theorem po {α:Type} {l:List α} {w:Nat→α→Int}:(cT l w).1=0↔∀i x,l[i]?=some x→w i x=0:=by
 unfold cT d6
 rw [jw]
 constructor
 ·intro h i x hx
  have:=h i (Nat.zero_le _) (by have:=(Mq hx).1;omega)
  rwa [gJ hx] at this
 ·intro h j _ hj
  obtain ⟨x,hx⟩:∃x,l[j]?=some x:=⟨_,Ia (by omega)⟩
  rw [gJ hx]
  exact h j x hx
theorem hQ {α:Type} {most:Int} {l:List α} {w:Nat→α→Int}:(cB most l w).1=0↔(l.length:Int)≤most∧∀i x,l[i]?=some x→w i x=0:=by
 have h:=po (l:=l) (w:=w)
 unfold cT at h
 unfold cB d3
 by_cases hm:(l.length:Int) > most
 ·rw [if_pos hm]
  constructor
  ·intro hh;cases hh
  ·intro hh;omega
 ·rw [if_neg hm,h]
  exact ⟨fun hh=>⟨by omega,hh⟩,fun hh=>hh.2⟩
theorem fh:∀{l:List (Int×Int)},(gQ l).1=0↔∀x∈l,x.1=0
 | []=>by simp [gQ]
 | x::r=>by
  unfold gQ
  by_cases h:x.1=0
  ·rw [if_pos h,fh]
   constructor
   ·intro hh y hy
    rcases List.mem_cons.1 hy with rfl | hy
    ·exact h
    ·exact hh y hy
   ·intro hh y hy;exact hh y (Mu _ hy)
  ·rw [if_neg h]
   constructor
   ·intro hh;exact absurd hh h
   ·intro hh;exact hh x (List.mem_cons_self ..)
theorem kV {f:aS} (h:(cB 400 f.Glyphs (fK f)).1=0):va f:=by
 obtain ⟨h1,h2⟩:=hQ.1 h
 have hg:∀gl∈f.Glyphs,∃name,py f gl name=0:=fun gl hgl=>by
  obtain ⟨i,hi⟩:=List.mem_iff_getElem?.1 hgl
  exact ⟨_,h2 i gl hi⟩
 have hgl:∀gl∈f.Glyphs,jo gl=0∧(cB 8 gl.Parts (o8 f)).1=0:=fun gl hm=>by
  obtain ⟨name,hn⟩:=hg gl hm
  unfold py at hn
  rw [fh] at hn
  exact ⟨hn (jo gl,0) (by simp),hn (cB 8 gl.Parts (o8 f)) (by simp)⟩
 refine ⟨⟨by omega,fun gl hm=>?_⟩,fun gl hm=>?_,fun gl hm p hp=>?_⟩
 ·have:=(hQ.1 (hgl gl hm).2).1;omega
 ·have h3:=(hgl gl hm).1
  unfold jo at h3
  split at h3
  ·cases h3
  ·split at h3
   ·cases h3
   ·omega
 ·obtain ⟨i,hi⟩:=List.mem_iff_getElem?.1 hp
  have h3:=(hQ.1 (hgl gl hm).2).2 i p hi
  unfold o8 at h3
  split at h3
  ·cases h3
  ·rename_i hh
   simpa using hh
theorem yw {f:aS} (hf:va f) (ha:jG f.Glyphs.length (prt f)) {D P D' P':Int→Int} (h:jJ f D P) (h':jJ f D' P'):∀z:Int,0≤z→z < f.Glyphs.length→D z=D' z∧P z=P' z:=by
 obtain ⟨r,hr⟩:=ha
 have:∀(k:Nat) (z:Int),r z < k→0≤z→z < f.Glyphs.length→D z=D' z∧P z=P' z:=by
  intro k
  induction k with
  | zero=>intro z hk;exact absurd hk (Nat.not_lt_zero _)
  | succ k ih=>
   intro z hk h0 h1
   obtain ⟨gl,hgl⟩:∃g,f.Glyphs[z.toNat]?=some g:=⟨_,Ia (by omega)⟩
   have hsm:∀p∈gl.Parts,D p.Glyph=D' p.Glyph∧P p.Glyph=P' p.Glyph:=fun p hp=>by
    have hin:=oJ.1 (hf.there gl (Mx hgl) p hp)
    have:=hr z h0 h1 p.Glyph (by rw [sU hf hgl];exact List.mem_map_of_mem hp)
    exact ih p.Glyph (by omega) hin.1 hin.2
   obtain ⟨h2,h3⟩:=h z h0 h1 gl hgl
   obtain ⟨h4,h5⟩:=h' z h0 h1 gl hgl
   rw [h2,h3,h4,h5]
   exact ⟨tR fun p hp=>(hsm p hp).1,ut fun p hp=>(hsm p hp).2⟩
 intro z h0 h1
 exact this (r z+1) z (by omega) h0 h1
theorem vC {n:Nat} {D P D' P':Int→Int} (h:∀z:Int,0≤z→z < n→D z=D' z∧P z=P' z):nQ n D P=nQ n D' P':=by
 unfold nQ
 rw [List.map_congr_left (f:=D) (g:=D') fun z hz=>(h z (eP.1 hz).1 (eP.1 hz).2).1,List.map_congr_left (f:=P) (g:=P') fun z hz=>(h z (eP.1 hz).1 (eP.1 hz).2).2]
open Classical in
noncomputable def nR (f:aS):Int×Int:=if h:∃q:(Int→Int)×(Int→Int),jJ f q.1 q.2 then nQ f.Glyphs.length h.choose.1 h.choose.2 else (33,0)
theorem tP {f:aS} (hf:va f) (ha:jG f.Glyphs.length (prt f)) {D P:Int→Int} (h:jJ f D P):nR f=nQ f.Glyphs.length D P:=by
 unfold nR
 have hex:∃q:(Int→Int)×(Int→Int),jJ f q.1 q.2:=⟨(D,P),h⟩
 rw [dif_pos hex]
 exact vC (yw hf ha hex.choose_spec h)
theorem E3 (f:aS) (hf:va f) (ha:jG f.Glyphs.length (prt f)):AC Tryz.prog 112 [.iptr (bY f)] [] fun c _=>c=cf ((nR f).1,(nR f).2):=by
 refine aI Tryz.func112 rfl Tryz.ntmps112 rfl fun B=>?_
 repeat' (first|refine ae ?_|refine a6 ?_|refine a8 ?_|refine aa ?_|refine LR a7 LL ?_)
 refine aW [] [] (tQ f hf (.inl ha)) rfl rfl (Mp _) rfl fun c L1 hc=>?_
 rcases hc with ⟨D,P,h1,h2,hc⟩ | ⟨hna,_⟩
 ·rw [←tP hf ha h1] at hc
  subst hc
  unfold cf
  repeat' (first|refine am ?_|refine a8 ?_|refine aa ?_|refine LR a7 LL ?_)
  exact MH LN
 ·exact absurd ha hna
def xm (_:Nat) (l:List eJ):Int:=q4 l
def sV (f:aS) (_:Nat) (r:List fw):Int:=CB f.Axes.length r
def kD (f:aS) (_:Nat) (l:b6):Int:=mh f l
noncomputable def Bn (f:aS):List (Int×Int):=[(kW f,0),cB 400 f.Glyphs (fK f),nR f,cB 1000 f.Chars (j3 f),cB 40 f.Lookups (kD f),cB 20 f.Features (ky f),cB 3 f.Axes (lO f),cB 16 f.Regions (sV f),cB 20 f.Funcs xm,cB 64 f.Cvt B6]
noncomputable def ia (f:aS):Int×Int:=gQ (Bn f)
noncomputable def xj (f:aS) (m1 m2 m3:Nat):List Lk:=[⟨105,[.iptr (bY f)],[],kW f,0⟩,
 ⟨171,[.iptr [.imm 9 (f.Glyphs.map bK)],.iptr [aF 400],.iptr [.fn 108 [.iptr (bY f),.iptr [.sc (.map (some m1))]]]],[(m1,bV .string (cz (nh f)))],(cB 400 f.Glyphs (fK f)).1,(cB 400 f.Glyphs (fK f)).2⟩,
 ⟨112,[.iptr (bY f)],[],(nR f).1,(nR f).2⟩,
 ⟨191,[.iptr [.imm 2 (f.Chars.map eE)],.iptr [aF 1000],.iptr [.fn 115 [.iptr (bY f)]]],[],(cB 1000 f.Chars (j3 f)).1,(cB 1000 f.Chars (j3 f)).2⟩,
 ⟨193,[.iptr [.imm 3 (f.Lookups.map bA)],.iptr [aF 40],.iptr [.fn 118 [.iptr (bY f)]]],[],(cB 40 f.Lookups (kD f)).1,(cB 40 f.Lookups (kD f)).2⟩,
 ⟨201,[.iptr [.imm 2 (f.Features.map bJ)],.iptr [aF 20],.iptr [.fn 121 [.iptr (bY f),.iptr [.sc (.map (some m2))]]]],[(m2,bV .string (cz (nC f)))],(cB 20 f.Features (ky f)).1,(cB 20 f.Features (ky f)).2⟩,
 ⟨204,[.iptr [.imm 4 (f.Axes.map fx)],.iptr [aF 3],.iptr [.fn 125 [.iptr [.sc (.map (some m3))]]]],[(m3,bV .string (cz (mR f)))],(cB 3 f.Axes (lO f)).1,(cB 3 f.Axes (lO f)).2⟩,
 ⟨206,[.iptr [.imm 1 (f.Regions.map dV)],.iptr [aF 16],.iptr [.fn 128 [.iptr (bY f)]]],[],(cB 16 f.Regions (sV f)).1,(cB 16 f.Regions (sV f)).2⟩,
 ⟨210,[.iptr [.imm 1 (f.Funcs.map fy)],.iptr [aF 20],.iptr [.sc (.func (.func 131) #[] #[])]],[],(cB 20 f.Funcs xm).1,(cB 20 f.Funcs xm).2⟩,
 ⟨214,[.iptr [.imm 1 (f.Cvt.map yk)],.iptr [aF 64],.iptr [.sc (.func (.func 134) #[] #[])]],[],(cB 64 f.Cvt B6).1,(cB 64 f.Cvt B6).2⟩]
theorem vK (f:aS) (m1 m2 m3:Nat) (hA:(cB 400 f.Glyphs (fK f)).1=0→jG f.Glyphs.length (prt f)):w4 (xj f m1 m2 m3):=by
 refine ⟨⟨inferInstance,yO f⟩,fun _=>⟨⟨inferInstance,?_⟩,fun h1=>⟨⟨inferInstance,E3 f (kV h1) (hA h1)⟩,fun _=>⟨⟨inferInstance,?_⟩,fun _=>⟨⟨inferInstance,?_⟩,fun _=>⟨⟨inferInstance,?_⟩,fun _=>⟨⟨inferInstance,?_⟩,fun _=>⟨⟨inferInstance,?_⟩,fun _=>⟨⟨inferInstance,?_⟩,fun _=>⟨⟨inferInstance,?_⟩,fun _=>trivial⟩⟩⟩⟩⟩⟩⟩⟩⟩⟩
 ·exact Fe (u:= .fn 108 [.iptr (bY f),.iptr [.sc (.map (some m1))]]) rfl f.Glyphs 400 (fS f.Glyphs (fK f)) (fun _ L=>L=[(m1,bV .string (cz (nh f)))]) _ rfl fun _=>qu fun i x _=>vQ f i x m1
 ·exact Ff (u:= .fn 115 [.iptr (bY f)]) rfl f.Chars 1000 (fS f.Chars (j3 f)) (fun _ _=>True) [] trivial fun hm=>cV fun i x hx=>ym f i x hx hm
 ·exact Fg (u:= .fn 118 [.iptr (bY f)]) rfl f.Lookups 40 (fS f.Lookups (kD f)) (fun _ _=>True) [] trivial fun _=>cV fun i x _=>sv f i x
 ·exact Fh (u:= .fn 121 [.iptr (bY f),.iptr [.sc (.map (some m2))]]) rfl f.Features 20 (fS f.Features (ky f)) (fun _ L=>L=[(m2,bV .string (cz (nC f)))]) _ rfl fun _=>qu fun i x _=>yD f i x m2
 ·exact Fi (u:= .fn 125 [.iptr [.sc (.map (some m3))]]) rfl f.Axes 3 (fS f.Axes (lO f)) (fun _ L=>L=[(m3,bV .string (cz (mR f)))]) _ rfl fun _=>qu fun i x _=>ye f i x m3
 ·exact Fj (u:= .fn 128 [.iptr (bY f)]) rfl f.Regions 16 (fS f.Regions (sV f)) (fun _ _=>True) [] trivial fun _=>cV fun i x _=>uC f i x
 ·exact Fk (u:= .sc (.func (.func 131) #[] #[])) (g:=131) (caps:=[]) rfl f.Funcs 20 (fS f.Funcs xm) (fun _ _=>True) [] trivial fun _=>cV fun i x _=>yo i x
 ·exact Fl (u:= .sc (.func (.func 134) #[] #[])) (g:=134) (caps:=[]) rfl f.Cvt 64 (fS f.Cvt B6) (fun _ _=>True) [] trivial fun _=>cV fun i x _=>B5 i x
set_option maxHeartbeats 4000000 in
theorem xk (f:aS) (hA:(cB 400 f.Glyphs (fK f)).1=0→jG f.Glyphs.length (prt f)):AC Tryz.prog 60 [cD f] [] fun c _=>c=cf (ia f):=by
 refine aI Tryz.func60 rfl Tryz.ntmps60 rfl fun B=>?_
 repeat' (first|refine ae ?_|refine a6 ?_|refine a8 ?_|refine aa ?_|refine LR a7 LL ?_|refine bi ?_|fail)
 refine aW [] _ (Bi f.Glyphs) rfl rfl (Mp _) rfl fun c L1 ⟨m1,hc,hL⟩=>?_
 subst hc;subst hL
 repeat' (first|refine ae ?_|refine a6 ?_|refine a8 ?_|refine aa ?_|refine LR a7 LL ?_|(apply aU;first|refine LT 4 a7 0 LQ ?_|refine LT 4 a7 1 LQ ?_|refine LT 4 a7 2 LQ ?_|refine LT 5 a7 0 LQ ?_|refine LT 5 a7 1 LQ ?_|refine LT 5 a7 2 LQ ?_|refine LT 6 a7 0 LQ ?_|refine LT 6 a7 1 LQ ?_|refine LT 6 a7 2 LQ ?_|refine LU a7 0 LP ?_|refine LU a7 1 LP ?_|refine LU a7 2 LP ?_|refine LU a7 3 LP ?_|fail)|refine bf a7 fun _=>?_|fail)
 refine aW [] _ (Bj f.Features) rfl rfl (Mp _) rfl fun c L1 ⟨m2,hc,hL⟩=>?_
 subst hc;subst hL
 repeat' (first|refine ae ?_|refine a6 ?_|refine a8 ?_|refine aa ?_|refine LR a7 LL ?_|(apply aU;first|refine LT 4 a7 0 LQ ?_|refine LT 4 a7 1 LQ ?_|refine LT 4 a7 2 LQ ?_|refine LT 5 a7 0 LQ ?_|refine LT 5 a7 1 LQ ?_|refine LT 5 a7 2 LQ ?_|refine LT 6 a7 0 LQ ?_|refine LT 6 a7 1 LQ ?_|refine LT 6 a7 2 LQ ?_|refine LU a7 0 LP ?_|refine LU a7 1 LP ?_|refine LU a7 2 LP ?_|refine LU a7 3 LP ?_|fail)|refine bf a7 fun _=>?_|fail)
 refine aW [] _ (Bk f.Axes) rfl rfl (Mp _) rfl fun c L1 ⟨m3,hc,hL⟩=>?_
 subst hc;subst hL
 repeat' (first|refine ae ?_|refine a8 ?_|refine aa ?_|(apply aU;first|refine LT 4 a7 0 LQ ?_|refine LT 4 a7 1 LQ ?_|refine LT 4 a7 2 LQ ?_|refine LT 5 a7 0 LQ ?_|refine LT 5 a7 1 LQ ?_|refine LT 5 a7 2 LQ ?_|refine LT 6 a7 0 LQ ?_|refine LT 6 a7 1 LQ ?_|refine LT 6 a7 2 LQ ?_|refine LU a7 0 LP ?_|refine LU a7 1 LP ?_|refine LU a7 2 LP ?_|refine LU a7 3 LP ?_|fail)|refine bf a7 fun _=>?_|fail)
 refine bB 36 [(0,.v),(1,.v),(2,.v),(3,.v),(4,.v),(5,.v),(6,.v),(7,.v),(8,.v),(9,.v),(10,.v),(11,.v),(12,.v),(13,.v),(14,.v),(15,.v),(16,.v),(17,.v),(18,.v),(19,.v),(20,.v),(21,.v),(22,.v),(23,.v),(24,.v),(25,.v),(26,.v),(27,.v),(28,.v),(29,.v),(30,.v),(31,.v),(32,.v),(33,.e),(34,.v),(35,.v)] none ?_ trivial rfl (by kernel_rfl) (by kernel_rfl) (by kernel_rfl) mixed (by kernel_rfl) rfl
 repeat' (first|refine aJ ?_|refine bw a7 ?_|(apply cM;refine dc ?_)|fail)
 refine dc (hc:=⟨Hp f.Cvt 64⟩) ?_
 repeat' (first|refine aJ ?_|refine kU a7 ?_|fail)
 refine ku (L:=[(m3,bV .string (cz (mR f))),(m2,bV .string (cz (nC f))),(m1,bV .string (cz (nh f)))]) _ [] (iD (xj f m1 m2 m3) (vK f m1 m2 m3 hA)) rfl rfl (by rw [List.append_nil];exact (List.reverse_perm _).symm) trivial fun c L1 hc=>?_
 rw [jf] at hc
 have hc:c=cf (ia f):=hc
 subst hc
 unfold cf
 repeat' (first|refine aJ ?_|refine bw a7 ?_|fail)
 refine MG [50,51] LL ?_
 repeat' (first|refine am ?_|refine a8 ?_|refine aa ?_|refine LR a7 LL ?_)
 exact MH LN
end Go.Proofs.YtamjlkdanllgjaaGreatDoor
namespace Go.Proofs.YtamjlkdanllgjaaGreatDoor
open Go.RowKit
attribute [local irreducible] AT bz AX AO Av Kt aZ cY DA cu
set_option maxRecDepth 8000
def Ja (c:UInt8) (m:Bool):bn:=⟨⟨#[c]⟩,0,m,[],[],[],[],[],[]⟩
def HJ:List bn:=[Ja 97 false,Ja 98 false,Ja 99 false,Ja 100 false,Ja 109 true]
def HH (ls:List b6):aS:=⟨1000,HJ,[],ls,[],[],[],[],[]⟩
def KY:List b6:=[⟨3,false,[⟨[],[[0],[1]],[],[2],[],0⟩]⟩,⟨1,false,[⟨[],[[2]],[],[3],[],0⟩]⟩]
def Hl (ls:List b6):Bool:=decide ((cB 40 ls (kD (HH ls))).1=0)
set_option maxRecDepth 8000
theorem yG {f:aS} (hr:(ia f).1=0) (ha:jG f.Glyphs.length (prt f)):AC Tryz.prog 60 [cD f] [] fun c _=>∃n:Int,c=cf (0,n):=
 AC.mono (xk f fun _=>ha) fun c L hc=>⟨(ia f).2,by rw [hc,←hr]⟩
def CR (N:Nat) (s:List Int):Bool:=decide (s.Pairwise (· < ·)) && s.all fun g=>decide (0≤g) && decide (g < (N:Int))
def CJ (N:Nat) (r:bh):Bool:=r.Back.all (CR N) && (r.In.all (CR N) && (r.Ahead.all (CR N) && (decide (r.Back.length≤200) && (decide (r.In.length+r.Ahead.length≤200) && (decide (r.Out.length≤1000000) && (decide (r.Calls.length≤1000000) && r.Calls.all fun c=>decide (0≤c.At) && decide (c.At≤1000000)))))))
def BU (N:Nat) (l:b6):Bool:=decide (l.Rules.length≤6) && l.Rules.all (CJ N)
theorem sZ {N:Nat} {s:List Int} (h:CR N s=true):jK s∧∀g∈s,0≤g∧g < (N:Int):=by
 unfold CR at h
 simp only [Bool.and_eq_true,decide_eq_true_eq,List.all_eq_true] at h
 exact h
structure A3 (N:Nat) (r:bh):Prop where
 b:th N r
 out:r.Out.length≤1000000
 calls:r.Calls.length≤1000000
 at_:∀c∈r.Calls,0≤c.At∧c.At≤1000000
theorem CK {N:Nat} {r:bh} (h:CJ N r=true):A3 N r:=by
 unfold CJ at h
 simp only [Bool.and_eq_true,decide_eq_true_eq,List.all_eq_true] at h
 obtain ⟨h1,h2,h3,h4,h5,h6,h7,h8⟩:=h
 exact ⟨⟨fun s hs=>sZ (h1 s hs),fun s hs=>sZ (h2 s hs),fun s hs=>sZ (h3 s hs),h4,h5⟩,h6,h7,h8⟩
structure oP (f:aS):Prop where
 glyphs:0 < f.Glyphs.length∧f.Glyphs.length≤65536
 lookups:f.Lookups.length≤1000000
 few:∀l∈f.Lookups,l.Rules.length≤6
 rule:∀l∈f.Lookups,∀r∈l.Rules,A3 f.Glyphs.length r
theorem oP.new {f:aS} (h:oP f):FJ f:=by
 refine ⟨h.glyphs,h.lookups,fun l hl=>⟨h.few l hl,fun r hr=>(h.rule l hl r hr).b⟩,fun l hl r hr=>?_⟩
 have hb:=h.rule l hl r hr
 have hg:=h.glyphs.2
 exact ⟨⟨by have:=hb.b.long;omega,fun s hs=>by have:=f7 (gy (hb.b.in_ s hs).1) (hb.b.in_ s hs).2;omega⟩,hb.out,hb.calls⟩
theorem oP.eng {f:aS} (h:oP f) {E:ot} (hE:If f E):lF E:=⟨hE.auto,fun e he r hr hin=>by
 have hl:e.l∈f.Lookups:=by rw [←hE.ls];exact List.mem_map.2 ⟨e,he,rfl⟩
 have hb:=h.rule e.l hl r hr
 exact ⟨hin,hb.out,hb.calls,hb.at_⟩⟩
theorem HA {f:aS} (h:oP f) (hr:(ia f).1=0) (ha:jG f.Glyphs.length (prt f)):AC Tryz.prog 61 [cD f] [] fun c _=>∃E,lF E∧E.ls=f.Lookups∧E.ms=f.Glyphs.map bn.Mark∧c= .tup [.iptr (dZ E),aF 0]:=
 AC.mono (Hz f h.new (yG hr ha)) fun c L ⟨E,hE,hc⟩=>⟨E,h.eng hE,hE.ls,hE.ms,hc⟩
set_option maxRecDepth 8000
noncomputable def ov (f:aS) (rs place:List Int):Int:=if (ia f).1≠0 then (ia f).1 else if 500 < rs.length then 2 else if place≠[] then 1 else 0
def JW (f:aS) (v:AV) (L:AL):Prop:=∃E sb,lF E∧E.ls=f.Lookups∧E.ms=f.Glyphs.map bn.Mark∧v=eZ sb∧L=[(sb,v6 f f (.fnB 62 [.iptr (dZ E)] []))]
structure JD (f:aS):Prop where
 ac:jG f.Glyphs.length (prt f)
 sm:(ia f).1=0→Dv f
 nn:(ia f).1=0→oP f
set_option maxHeartbeats 4000000 in
theorem AN (f:aS) (hf:JD f) (rs place:List Int):AC Tryz.prog 37 [cD f,.imm 1 (aT rs),.imm 1 (aT place)] [] fun c L=>(ov f rs place≠0∧c= .tup [J9,aF (ov f rs place)]∧L=[])∨(ov f rs place=0∧∃v,JW f v L∧c= .tup [v,aF 0]):=by
 refine aI Tryz.func37 rfl Tryz.ntmps37 rfl fun B=>?_
 have hck:=xk f fun _=>hf.ac
 have hil:=b7 rs
 unfold ov
 repeat' (first|refine ae ?_|refine a6 ?_|refine a8 ?_|refine aa ?_|refine LR a7 LL ?_|refine bi ?_|fail)
 refine aW [] [] hck rfl rfl (Mp _) rfl fun c L1 hc=>?_
 subst hc
 unfold cf
 repeat' (first|refine ae ?_|refine a6 ?_|refine a8 ?_|refine aa ?_|refine LR a7 LL ?_)
 refine oF (List.nil_sublist _) ?_
 refine aB rfl (fun h=>?_) (fun h=>?_)
 ·have h1:(ia f).1≠0:=Mz h
  rw [if_pos h1]
  clear h
  repeat' (first|refine ae ?_|refine a6 ?_|refine am ?_|refine a8 ?_|refine az ?_|refine aa ?_|refine LR a7 LL ?_)
  exact ME LM (.inl ⟨h1,rfl,rfl⟩)
 have h1:(ia f).1=0:=Decidable.not_not.1 (My h)
 rw [if_neg (by rw [h1];simp)]
 clear h
 have hnew:=HA (hf.nn h1) h1 hf.ac
 have hv:=H1 f (hf.sm h1) place
 repeat' (first|refine ae ?_|refine a6 ?_|refine aq ?_|refine a8 ?_|refine aa ?_|refine LR a7 LL ?_)
 rw [hil]
 refine aB rfl (fun h=>?_) (fun h=>?_)
 ·have h2:500 < rs.length:=by have:=Mz h;omega
  rw [if_pos h2]
  clear h
  repeat' (first|refine ae ?_|refine a6 ?_|refine am ?_|refine a8 ?_|refine az ?_|refine aa ?_|refine LR a7 LL ?_)
  exact ME LM (.inl ⟨by simp,rfl,rfl⟩)
 have h2:¬500 < rs.length:=by have:=My h;omega
 rw [if_neg h2]
 clear h
 by_cases h3:place=[]
 ·rw [if_neg (show ¬(place≠[]) from fun e=>e h3)]
  simp only [if_pos h3] at hv
  haveI:=AD.mk hv
  repeat' (first|refine ae ?_|refine a6 ?_|refine aq ?_|refine a8 ?_|refine aa ?_|refine LR a7 LL ?_|(apply aU;first|refine LT 10 a7 0 LQ ?_|refine LT 10 a7 1 LQ ?_|refine LT 10 a7 2 LQ ?_|refine LU a7 0 LP ?_|refine LU a7 1 LP ?_|refine LU a7 2 LP ?_|refine LU a7 3 LP ?_|fail)|refine bf a7 fun _=>?_|(apply bk;refine b9 ?_)|refine bo rfl ?_)
  refine aW [] [] hnew rfl rfl (Mp _) rfl fun c L1 ⟨E,hE1,hE2,hE3,hc⟩=>?_
  subst hc
  refine bq (dE (List.nil_sublist _)) ?_
  repeat' (first|refine ae ?_|refine a6 ?_|refine aq ?_|refine am ?_|refine a8 ?_|refine aa ?_|refine LR a7 LL ?_|refine xy (d:=46) fun _=>?_|refine bo rfl ?_)
  rename_i sb
  exact ME LM (.inr ⟨rfl,_,⟨E,sb,hE1,hE2,hE3,rfl,rfl⟩,rfl⟩)
 ·rw [if_pos (show (place≠[]) from h3)]
  simp only [if_neg h3] at hv
  haveI:=AD.mk hv
  repeat' (first|refine ae ?_|refine a6 ?_|refine aq ?_|refine am ?_|refine a8 ?_|refine az ?_|refine aa ?_|refine LR a7 LL ?_|(apply aU;first|refine LT 10 a7 0 LQ ?_|refine LT 10 a7 1 LQ ?_|refine LT 10 a7 2 LQ ?_|refine LU a7 0 LP ?_|refine LU a7 1 LP ?_|refine LU a7 2 LP ?_|refine LU a7 3 LP ?_|fail)|refine bf a7 fun _=>?_|(apply bk;refine b9 ?_)|refine bI rfl ?_)
  refine cL (List.nil_sublist _) ?_
  exact ME LM (.inl ⟨by simp,rfl,rfl⟩)
set_option maxRecDepth 8000
noncomputable def Fd (f:aS) (rs place:List Int) (run:List aM):AV:= .tup [.imm 6 ((if ov f rs place=0 then run.map (jA f) else []).map cg),aF (ov f rs place)]
structure Gj (f:aS) (rs:List Int) (want:List ByteArray):Prop where
 len:rs.length≤1000000
 grp:qQ rs
 chars:f.Chars.length≤1000000
 feats:f.Features.length≤1000000
 pairs:(bS want f.Features).length≤1000000
 kinds:∀l∈ct want f,0≤l∧∃q,f.Lookups[l.toNat]?=some q∧1≤q.Kind∧q.Kind≤5
structure Gh (f:aS) (rs:List Int) (want:List ByteArray) (Lu:AL) (run:List aM):Prop where
 ac:∀E,lF E→E.ls=f.Lookups→E.ms=f.Glyphs.map bn.Mark→∀q,cS q (cU f rs)→AC Tryz.prog 62 [.iptr (dZ E),.imm 1 (aT (ct want f)),.imm 1 (bj (eX want f)),cG q (cU f rs)] (dw q (cU f rs)++Lu) (Gi run Lu)
 len:run.length≤1000000
 glyph:∀x∈run,0≤x.Glyph∧x.Glyph < f.Glyphs.length
set_option maxHeartbeats 4000000 in
theorem uJ (f:aS) (hf:JD f) (rs place:List Int) (want:List ByteArray) (Lu:AL) (run:List aM) (ht:Gj f rs want) (hr:ov f rs place=0→Gh f rs want Lu run):AC Tryz.prog 19 [cD f,.imm 1 (aT rs),.imm 1 (lA want),.imm 1 (aT place)] Lu fun c L=>c=Fd f rs place run∧L=Lu:=by
 refine aI Tryz.func19 rfl Tryz.ntmps19 rfl fun B=>?_
 have hb:=AN f hf rs place
 unfold Fd
 generalize ov f rs place=e at *
 repeat' (first|refine ae ?_|refine a6 ?_|refine a8 ?_|refine aa ?_|refine LR a7 LL ?_|refine bi ?_|fail)
 refine aW [] Lu hb rfl rfl (Mp _) rfl fun c L1 hc=>?_
 rcases hc with ⟨h1,rfl,rfl⟩ | ⟨h1,v,⟨E,sb,e1,e2,e3,rfl,rfl⟩,rfl⟩
 ·rw [if_neg h1]
  repeat' (first|refine ae ?_|refine a6 ?_|refine a8 ?_|refine aa ?_|refine LR a7 LL ?_)
  refine aB rfl (fun h=>?_) (fun h=>absurd (My h) (fun k=>k h1))
  clear h
  repeat' (first|refine ae ?_|refine a6 ?_|refine am ?_|refine a8 ?_|refine az ?_|refine aa ?_|refine LR a7 LL ?_)
  refine br (bE (t:=8) (c':= .imm 6 (([]:List aM).map cg)) rfl fun σ v h=>dW 6 h) ?_
  exact ME LM ⟨rfl,rfl⟩
 ·subst h1
  rw [if_pos rfl]
  have hrn:=hr rfl
  have hsh:=zF f f rs want (.fnB 62 [.iptr (dZ E)] []) sb Lu ht.len ht.grp ht.chars ht.feats ht.pairs ht.kinds run (fun q hq=>gF.fnB (f:=62) (fs:=[.iptr (dZ E)]) (caps:=[]) (hrn.ac E e1 e2 e3 q hq)) hrn.len hrn.glyph
  repeat' (first|refine ae ?_|refine a6 ?_|refine aq ?_|refine a8 ?_|refine aa ?_|refine LR a7 LL ?_|refine bo rfl ?_)
  refine aW ((sb,v6 f f (.fnB 62 [.iptr (dZ E)] []))::Lu) [] hsh rfl rfl (by rw [List.append_nil];exact Mp _) rfl fun c L1 ⟨hc,hL⟩=>?_
  subst hc;subst hL
  repeat' (first|refine am ?_|refine a8 ?_|refine aa ?_|refine LR a7 LL ?_)
  refine cL (L':=L1) (by rw [List.append_nil];exact List.Sublist.refl _) ?_
  exact ME LM ⟨rfl,rfl⟩
set_option maxRecDepth 8000
def KH (ls:List b6):Bool:=ls.all (BU 5) && (decide (ls.length≤1000000) && Hl ls)
set_option maxRecDepth 8000
def xK (m k:Nat):List Int:=(List.range k).map fun (j:Nat)=>if j=m then (1:Int) else 0
def F6 (m k:Nat):List Int:=(List.range k).map fun (j:Nat)=>if (m:Int) - 1≤(j:Int) then (1:Int) else 0
def JK (m:Nat):Bool:=decide ((dB nw F5 0 (nl (xK m (m+1))) []).map aM.Glyph=List.replicate (m+1) 1) && decide ((dB nw F5 1 (nl (xK m (m+1))) []).map aM.Glyph=F6 m (m+1))
end Go.Proofs.YtamjlkdanllgjaaGreatDoor
