/-
  The program: how deep glyphs are, and how many points they have.
-/
import Derived.Test.YtamjlkdanllgjaaGreatDoorM17
namespace Go.Proofs.YtamjlkdanllgjaaGreatDoor
open Go.RowKit
attribute [local irreducible] AT bB AX AO Av Kt ba dt DA cz
set_option maxRecDepth 8000
def dF (D:Int→Int) (ps:List dL):Int:=ps.foldl (fun a p=>max a (D p.Glyph+1)) 0
def pF (P:Int→Int) (ps:List dL) (k:Int):Int:=ps.foldl (fun a p=>min (a+P p.Glyph) 1001) k
def ek (n:Nat) (D:Int→Int):List AV:=(cB n).map fun z=>aH (D z)
def io (D:Int→Int) (z v:Int):Int→Int:=fun q=>if q=z then v else D q
theorem ly {D:Int→Int} {z v:Int}:io D z v z=v:=by simp [io]
theorem ki {D:Int→Int} {z v q:Int} (h:q≠z):io D z v q=D q:=by simp [io,h]
theorem t2 (D:Int→Int) (z v w:Int):io (io D z v) z w=io D z w:=by
 funext q
 unfold io
 by_cases e:q=z
 ·rw [if_pos e,if_pos e]
 ·rw [if_neg e,if_neg e,if_neg e]
theorem jM (n:Nat) (D:Int→Int):(ek n D).length=n:=by simp [ek,cB]
theorem jL {n:Nat} {D:Int→Int} {z:Int} (h0:0≤z) (h1:z < n):(ek n D)[0+z.toNat * 1]?=some (aH (D z)):=by
 rw [Nat.zero_add,Nat.mul_one]
 unfold ek
 rw [List.getElem?_map,jF (by omega),Option.map_some,show ((z.toNat:Nat):Int)=z by omega]
theorem lW {n:Nat} {D:Int→Int} {z v:Int} (h0:0≤z) (h1:z < n):(ek n D).set (0+z.toNat * 1) (aH v)=ek n (io D z v):=by
 rw [Nat.zero_add,Nat.mul_one]
 apply List.ext_getElem?
 intro i
 rw [List.getElem?_set,jM]
 unfold ek io
 by_cases hi:z.toNat=i
 ·subst hi
  rw [if_pos rfl,if_pos (by omega),List.getElem?_map,jF (by omega),Option.map_some,if_pos (by omega)]
 ·rw [if_neg hi,List.getElem?_map,List.getElem?_map]
  by_cases hn:i < n
  ·rw [jF hn,Option.map_some,Option.map_some,if_neg (by omega)]
  ·rw [List.getElem?_eq_none (by rw [eW];omega)];rfl
theorem ov (n:Nat):(List.replicate n [aH 0]).flatten=ek n fun _=>0:=by
 rw [y7 (cB n) n (eW n).symm]
 unfold fT ek
 rw [List.take_zero,Lo,Nat.sub_zero,eW,List.map_replicate]
 apply List.ext_getElem?
 intro i
 rw [List.getElem?_replicate,List.getElem?_map]
 by_cases h:i < n
 ·rw [if_pos h,jF h];rfl
 ·rw [if_neg h,List.getElem?_eq_none (by rw [eW];omega)];rfl
theorem EE {D:Int→Int} {ps:List dL} {j:Nat} {p:dL} (h:ps[j]?=some p):dF D (ps.take (j+1))=max (dF D (ps.take j)) (D p.Glyph+1):=by
 unfold dF
 rw [List.take_add_one,h,Option.toList_some,List.foldl_append]
 rfl
theorem Fx {P:Int→Int} {ps:List dL} {k:Int} {j:Nat} {p:dL} (h:ps[j]?=some p):pF P (ps.take (j+1)) k=min (pF P (ps.take j) k+P p.Glyph) 1001:=by
 unfold pF
 rw [List.take_add_one,h,Option.toList_some,List.foldl_append]
 rfl
theorem m4 {α β:Type} {F G:α→β→α}:∀(l:List β) (a:α),(∀b∈l,∀a,F a b=G a b)→l.foldl F a=l.foldl G a
 | [],_,_=>rfl
 | b::l,a,h=>by rw [List.foldl_cons,List.foldl_cons,h b (List.mem_cons_self ..)];exact m4 l _ fun c hc=>h c (Lq _ hc)
theorem uJ {D D':Int→Int} {ps:List dL} (h:∀p∈ps,D p.Glyph=D' p.Glyph):dF D ps=dF D' ps:=m4 ps 0 fun p hp a=>by rw [h p hp]
theorem vw {P P':Int→Int} {ps:List dL} {k:Int} (h:∀p∈ps,P p.Glyph=P' p.Glyph):pF P ps k=pF P' ps k:=m4 ps k fun p hp a=>by rw [h p hp]
theorem IH {D:Int→Int} {m:Int} (h:∀z,0≤D z∧D z≤m):∀(ps:List dL),0≤dF D ps∧dF D ps≤m+1:=by
 intro ps
 have hm:0≤m:=by have:=h 0;omega
 have:∀(ps:List dL) (a:Int),0≤a→a≤m+1→0≤ps.foldl (fun a p=>max a (D p.Glyph+1)) a∧ps.foldl (fun a p=>max a (D p.Glyph+1)) a≤m+1:=by
  intro ps
  induction ps with
  | nil=>intro a h0 h1;exact ⟨h0,h1⟩
  | cons p ps ih=>intro a h0 h1;have:=h p.Glyph;exact ih (max a (D p.Glyph+1)) (by omega) (by omega)
 exact this ps 0 (by omega) (by omega)
theorem Gw {P:Int→Int} {k:Int} (h:∀z,0≤P z∧P z≤1000000) (hk:0≤k∧k≤1000000) (ps:List dL):0≤pF P ps k∧pF P ps k≤1000000:=by
 unfold pF
 induction ps generalizing k with
 | nil=>exact hk
 | cons p ps ih=>have:=h p.Glyph;exact ih (k:=min (k+P p.Glyph) 1001) (by omega)
def jG (f:aV) (D P:Int→Int):Prop:=∀z:Int,0≤z→z < f.Glyphs.length→∀gl,f.Glyphs[z.toNat]?=some gl→D z=dF D gl.Parts∧P z=pF P gl.Parts gl.Points.length
structure w7 (f:aV):Prop extends Few f where
 points:∀gl∈f.Glyphs,gl.Points.length≤1000000
 there:∀gl∈f.Glyphs,∀p∈gl.Parts,kS f p.Glyph=true
theorem tZ {f:aV} (hf:w7 f) {z:Int} {gl:bf} (h:f.Glyphs[z.toNat]?=some gl):prt f z=gl.Parts.map dL.Glyph:=by
 unfold prt
 rw [h]
 refine List.filter_eq_self.2 fun y hy=>?_
 obtain ⟨p,hp,rfl⟩:=List.mem_map.1 hy
 exact hf.there gl (Lv h) p hp
def qk (_:Nat) (levels:Int):Int:=dY (decide (levels > 4)) 34
def qO (_:Nat) (all:Int):Int:=dY (decide (all≥1001)) 2
theorem wx (i:Nat) (n:Int):bH Tryz.prog 188 [aH i,aH n] (aH (qk i n)):=by
 refine aP Tryz.func188 rfl Tryz.ntmps188 rfl fun B=>?_
 repeat' (first|refine ae ?_|refine a6 ?_|refine aq ?_|refine a8 ?_|refine aa ?_|refine LF a7 I9 ?_|(apply bw;refine bi ?_)|fail)
 exact LK LA
theorem wy (i:Nat) (n:Int):bH Tryz.prog 190 [aH i,aH n] (aH (qO i n)):=by
 refine aP Tryz.func190 rfl Tryz.ntmps190 rfl fun B=>?_
 repeat' (first|refine ae ?_|refine a6 ?_|refine aq ?_|refine a8 ?_|refine aa ?_|refine LF a7 I9 ?_|(apply bw;refine bi ?_)|fail)
 exact LK LA
theorem zq (l:List Int):bH Tryz.prog 186 [.iptr [.imm 1 (aO l)]] (cm (d9 l qk)):=by
 refine aP Tryz.func186 rfl Tryz.ntmps186 rfl fun B=>?_
 repeat' (first|refine ae ?_|refine a6 ?_|refine a8 ?_|refine aa ?_|refine LF a7 I9 ?_)
 refine bh [] [] (mD (u:= .sc (.func (.func 188) #[] #[])) (g:=188) (caps:=[]) rfl l _ (fun _ _=>True) [] trivial (dh (fun i x _=>wx i x))) rfl rfl (Ll _) rfl fun c L1 hc=>?_
 have hc:c=cm (d9 l qk):=hc
 subst hc
 unfold cm
 repeat' (first|refine aq ?_|refine a8 ?_|refine aa ?_|refine LF a7 I9 ?_)
 exact LR LB
theorem zr (l:List Int):bH Tryz.prog 189 [.iptr [.imm 1 (aO l)]] (cm (d9 l qO)):=by
 refine aP Tryz.func189 rfl Tryz.ntmps189 rfl fun B=>?_
 repeat' (first|refine ae ?_|refine a6 ?_|refine a8 ?_|refine aa ?_|refine LF a7 I9 ?_)
 refine bh [] [] (mD (u:= .sc (.func (.func 190) #[] #[])) (g:=190) (caps:=[]) rfl l _ (fun _ _=>True) [] trivial (dh (fun i x _=>wy i x))) rfl rfl (Ll _) rfl fun c L1 hc=>?_
 have hc:c=cm (d9 l qO):=hc
 subst hc
 unfold cm
 repeat' (first|refine aq ?_|refine a8 ?_|refine aa ?_|refine LF a7 I9 ?_)
 exact LR LB
structure w5 (f:aV) (T:List Int) (i:Nat) (D P:Int→Int):Prop where
 deep:∀z,0≤D z∧D z≤i
 many:∀z,0≤P z∧P z≤1000000
 done:∀(j:Nat) (z:Int),j < i→T[j]?=some z→∀gl,f.Glyphs[z.toNat]?=some gl→D z=dF D gl.Parts∧P z=pF P gl.Parts gl.Points.length
 rest:∀z,z∉T.take i→D z=0
theorem w5.start {f:aV} {T:List Int}:w5 f T 0 (fun _=>0) (fun _=>0):=⟨fun _=>by simp,fun _=>by simp,fun j _ h=>absurd h (Nat.not_lt_zero _),fun _ _=>rfl⟩
theorem w5.next {f:aV} {T:List Int} (hf:w7 f) (hT:iQ f.Glyphs.length (prt f) T) {i:Nat} {D P:Int→Int} (h:w5 f T i D P) {x:Int} {gl:bf} (hx:T[i]?=some x) (hgl:f.Glyphs[x.toNat]?=some gl):w5 f T (i+1) (io D x (dF D gl.Parts)) (io P x (pF P gl.Parts gl.Points.length)):=by
 have hgm:=Lv hgl
 have hnot:∀(j:Nat) (z:Int),j≤i→T[j]?=some z→∀g,f.Glyphs[z.toNat]?=some g→∀p∈g.Parts,p.Glyph≠x:=by
  intro j z hj hz g hg p hp e
  have h1:=hT.topo j z hz p.Glyph (by rw [tZ hf hg];exact List.mem_map_of_mem hp)
  rw [e] at h1
  obtain ⟨k,hk⟩:=List.mem_iff_getElem?.1 h1
  rw [List.getElem?_take] at hk
  split at hk
  ·rename_i hlt
   obtain ⟨k1,k2⟩:=Lm hk
   obtain ⟨i1,i2⟩:=Lm hx
   have e1:=hT.nodup.idxOf_getElem k k1
   have e2:=hT.nodup.idxOf_getElem i i1
   rw [k2] at e1
   rw [i2] at e2
   omega
  ·cases hk
 have hd:=IH h.deep gl.Parts
 have hp:=Gw (k:=(gl.Points.length:Int)) h.many (by have:=hf.points gl hgm;omega) gl.Parts
 refine ⟨fun z=>?_,fun z=>?_,fun j z hj hz g hg=>?_,fun z hz=>?_⟩
 ·unfold io
  split
  ·omega
  ·have:=h.deep z;omega
 ·unfold io
  split
  ·exact hp
  ·exact h.many z
 ·rw [uJ (D:=io D x (dF D gl.Parts)) (D':=D) fun p hp=>ki (hnot j z (by omega) hz g hg p hp),vw (P:=io P x (pF P gl.Parts gl.Points.length)) (P':=P) fun p hp=>ki (hnot j z (by omega) hz g hg p hp)]
  by_cases e:z=x
  ·subst e
   rw [hgl] at hg
   cases hg
   rw [ly,ly]
   exact ⟨rfl,rfl⟩
  ·rw [ki e,ki e]
   have hji:j < i:=by
    rcases Nat.lt_or_ge j i with h1 | h1
    ·exact h1
    ·have:j=i:=by omega
     subst this
     rw [hx] at hz
     cases hz
     exact absurd rfl e
   exact h.done j z hji hz g hg
 ·rw [List.take_add_one,hx,Option.toList_some,List.mem_append,List.mem_singleton] at hz
  rw [ki (fun e=>hz (.inr e))]
  exact h.rest z fun hm=>hz (.inl hm)
def mz (n:Nat) (D P:Int→Int):Int×Int:=gD [d9 ((cB n).map D) qk,d9 ((cB n).map P) qO]
set_option maxHeartbeats 8000000 in
theorem uI (f:aV) (hf:w7 f) (hr:kv f.Glyphs.length (prt f)∨AC Tryz.prog 257 [cD f] [] fun c _=>∃z:Int,c=aH z):AC Tryz.prog 113 [cD f] [] fun c _=>(∃D P,jG f D P∧kv f.Glyphs.length (prt f)∧c=cm (mz f.Glyphs.length D P))∨(¬kv f.Glyphs.length (prt f)∧∃z:Int,c=cm (33,z)):=by
 refine aP Tryz.func113 rfl Tryz.ntmps113 rfl fun B=>?_
 have hn:=hf.n
 have hml:(f.Glyphs.map bj).length=f.Glyphs.length:=Lr ..
 repeat' (first|refine ae ?_|refine a6 ?_|refine a8 ?_|refine aa ?_|refine LF a7 I9 ?_|refine bo ?_|fail)
 refine bh [] [] (Db f hf.toFew hr) rfl rfl (Ll _) rfl fun c L1 hc=>?_
 refine aS (bX (List.nil_sublist _)) ?_
 rcases hc with ⟨T,hc,hT,hTl⟩ | ⟨hna,z,hc⟩
 rotate_left
 ·subst hc
  repeat' (first|refine ae ?_|refine a6 ?_|refine aq ?_|refine a8 ?_|refine aC ?_|refine aa ?_|refine LF a7 I9 ?_|refine bV rfl ?_)
  exact LQ LA (.inr ⟨hna,z,rfl⟩)
 subst hc
 have hall:=hT.all_of_len hTl
 have hacy:=hT.acyc hall
 have hTi:=aW T
 repeat' (first|refine ae ?_|refine a6 ?_|refine au ?_|refine a8 ?_|refine aa ?_|refine LF a7 I9 ?_|refine bk rfl ?_)
 rw [hml]
 refine ep a7 f.Glyphs.length rfl rfl rfl rfl rfl rfl rfl (by omega) (by omega) rfl fun bd=>?_
 rw [show (List.replicate f.Glyphs.length (List.map AV.sc [Value.int .i64 0])).flatten=ek f.Glyphs.length fun _=>0 from ov _]
 repeat' (first|refine ae ?_|refine a6 ?_|refine a8 ?_|refine aa ?_|refine LF a7 I9 ?_|(apply aK;first|refine LH 7 a7 0 LE ?_|refine LH 7 a7 1 LE ?_|refine LH 7 a7 2 LE ?_|refine LH 8 a7 0 LE ?_|refine LH 8 a7 1 LE ?_|refine LH 8 a7 2 LE ?_|refine LH 12 a7 0 LE ?_|refine LH 12 a7 1 LE ?_|refine LH 12 a7 2 LE ?_|refine LG a7 0 LD ?_|refine LG a7 1 LD ?_|refine LG a7 2 LD ?_|refine LG a7 3 LD ?_|fail)|refine bg a7 fun _=>?_|fail)
 rw [hml]
 refine ep a7 f.Glyphs.length rfl rfl rfl rfl rfl rfl rfl (by omega) (by omega) rfl fun bp=>?_
 rw [show (List.replicate f.Glyphs.length (List.map AV.sc [Value.int .i64 0])).flatten=ek f.Glyphs.length fun _=>0 from ov _]
 repeat' (first|refine ae ?_|refine a6 ?_|refine am ?_|refine a8 ?_|refine aa ?_|refine LF a7 I9 ?_|(apply aK;first|refine LH 7 a7 0 LE ?_|refine LH 7 a7 1 LE ?_|refine LH 7 a7 2 LE ?_|refine LH 8 a7 0 LE ?_|refine LH 8 a7 1 LE ?_|refine LH 8 a7 2 LE ?_|refine LH 12 a7 0 LE ?_|refine LH 12 a7 1 LE ?_|refine LH 12 a7 2 LE ?_|refine LG a7 0 LD ?_|refine LG a7 1 LD ?_|refine LG a7 2 LD ?_|refine LG a7 3 LD ?_|fail)|refine bg a7 fun _=>?_|fail)
 refine aJ [1,7,8,31,32] (α:=Nat×(Int→Int)×(Int→Int)) (fun x=>[(33,aH x.1)]) (fun x=>x.1≤f.Glyphs.length∧w5 f T x.1 x.2.1 x.2.2) (fun x=>[(bp,.box (ek f.Glyphs.length x.2.2) 3),(bd,.box (ek f.Glyphs.length x.2.1) 3)]) (fun x=>f.Glyphs.length - x.1) (0,(fun _=>0),(fun _=>0)) rfl ⟨rfl,trivial⟩ ⟨Nat.zero_le _,w5.start⟩ (fun _ _ h=>h) ?_
 rintro ⟨i,D,P⟩ ⟨hi,hC⟩
 dsimp only at hi hC ⊢
 try dsimp only [Lp,Lo,Ln,Lh]
 repeat' (first|refine ae ?_|refine a6 ?_|refine a8 ?_|refine aa ?_|refine LF a7 I9 ?_)
 refine ay rfl (fun h=>?_) (fun h=>?_)
 ·have hil:i < T.length:=by have:=Ly h;rw [hTi] at this;omega
  obtain ⟨x,hx⟩:∃x,T[i]?=some x:=⟨_,Lz hil⟩
  have hxi:=bO hx
  have hxr:=hT.dom x (Lv hx)
  obtain ⟨gl,hgl⟩:∃z,f.Glyphs[x.toNat]?=some z:=⟨_,Lz (by omega)⟩
  have hgm:=Lv hgl
  have hgg:=c7 (c:=bj) hgl
  have hpm:(gl.Points.map dw).length=gl.Points.length:=Lr ..
  have hpl:=hf.points gl hgm
  clear h
  repeat' (first|refine ae ?_|refine a6 ?_|refine am ?_|refine au ?_|refine a8 ?_|refine aa ?_|refine LF a7 I9 ?_|(apply aU;first|refine aT a7 ?_|refine aN a7 ?_)|fail)
  refine bI 10 [(0,.v),(1,.v),(2,.v),(3,.v),(4,.v),(5,.v),(6,.v),(7,.v),(8,.v),(9,.v)] none ?_ trivial rfl (by kernel_rfl) (by kernel_rfl) (by kernel_rfl) mixed (by kernel_rfl) rfl
  repeat' (first|refine aF ?_|refine b9 a7 ?_|(apply cE;refine d5 a7 ?_)|fail)
  refine LP [1,7,8,10,31,32,33,37,38,46] I9 ?_
  repeat' (first|(apply aU;first|refine aT a7 ?_|refine aN a7 ?_)|fail)
  refine ai a7 0 rfl rfl rfl rfl rfl rfl (by rw [Nat.ble_eq,jM];show _+1≤_;omega) ?_
  rw [gm,lW hxr.1 hxr.2,hpm]
  repeat' (first|refine ae ?_|refine a6 ?_|refine am ?_|refine a8 ?_|refine aa ?_|refine LF a7 I9 ?_|(apply aU;first|refine aT a7 ?_|refine aN a7 ?_)|fail)
  have hTx:x∉T.take i:=fun hm=>by
   obtain ⟨k,hk⟩:=List.mem_iff_getElem?.1 hm
   rw [List.getElem?_take] at hk
   split at hk
   ·obtain ⟨k1,k2⟩:=Lm hk
    obtain ⟨i1,i2⟩:=Lm hx
    have e1:=hT.nodup.idxOf_getElem k k1
    have e2:=hT.nodup.idxOf_getElem i i1
    rw [k2] at e1
    rw [i2] at e2
    omega
   ·cases hk
  have hD0:io D x 0=D:=by
   funext q
   unfold io
   split
   ·rename_i e;rw [e,hC.rest x hTx]
   ·rfl
  have hql:(gl.Parts.map er).length=gl.Parts.length:=Lr ..
  have hqn:=hf.parts gl hgm
  refine aJ [1,7,8,10,31,32,33,53,54] (α:=Nat) (fun j=>[(55,aH j)]) (fun j=>j≤gl.Parts.length) (fun j=>[(bp,.box (ek f.Glyphs.length (io P x (pF P (gl.Parts.take j) gl.Points.length))) 3),(bd,.box (ek f.Glyphs.length (io D x (dF D (gl.Parts.take j)))) 3)]) (fun j=>gl.Parts.length - j) 0 rfl ⟨rfl,trivial⟩ (Nat.zero_le _) (fun _ _ h=>by rw [List.take_zero,show dF D []=0 from rfl,hD0];exact h) fun j hj=>?_
  try dsimp only [Lp,Lo,Ln,Lh]
  repeat' (first|refine ae ?_|refine a6 ?_|refine a8 ?_|refine aa ?_|refine LF a7 I9 ?_)
  refine ay rfl (fun h=>?_) (fun h=>?_)
  ·have hjl:j < gl.Parts.length:=by have:=Ly h;omega
   obtain ⟨q,hq⟩:∃q,gl.Parts[j]?=some q:=⟨_,Lz hjl⟩
   have hqg:=c7 (c:=er) hq
   have hqr:=pq.1 (hf.there gl hgm q (Lv hq))
   have hne:q.Glyph≠x:=fun e=>by
    have h1:=hT.topo i x hx q.Glyph (by rw [tZ hf hgl];exact List.mem_map_of_mem (Lv hq))
    rw [e] at h1
    exact hTx h1
   have hc1:(ek f.Glyphs.length (io D x (dF D (gl.Parts.take j))))[0+x.toNat * 1]?=some (aH (dF D (gl.Parts.take j))):=by rw [jL hxr.1 hxr.2,ly]
   have hc2:(ek f.Glyphs.length (io D x (dF D (gl.Parts.take j))))[0+q.Glyph.toNat * 1]?=some (aH (D q.Glyph)):=by rw [jL hqr.1 hqr.2,ki hne]
   have hc3:(ek f.Glyphs.length (io P x (pF P (gl.Parts.take j) gl.Points.length)))[0+x.toNat * 1]?=some (aH (pF P (gl.Parts.take j) gl.Points.length)):=by rw [jL hxr.1 hxr.2,ly]
   have hc4:(ek f.Glyphs.length (io P x (pF P (gl.Parts.take j) gl.Points.length)))[0+q.Glyph.toNat * 1]?=some (aH (P q.Glyph)):=by rw [jL hqr.1 hqr.2,ki hne]
   have hDq:=hC.deep q.Glyph
   have hPq:=hC.many q.Glyph
   have hPj:=Gw (k:=(gl.Points.length:Int)) hC.many (by omega) (gl.Parts.take j)
   clear h
   repeat' (first|refine ae ?_|refine a6 ?_|refine am ?_|refine au ?_|refine a8 ?_|refine aa ?_|refine LF a7 I9 ?_|(apply aU;first|refine aT a7 ?_|refine aN a7 ?_)|(apply aK;first|refine LH 7 a7 0 LE ?_|refine LH 7 a7 1 LE ?_|refine LH 7 a7 2 LE ?_|refine LH 8 a7 0 LE ?_|refine LH 8 a7 1 LE ?_|refine LH 8 a7 2 LE ?_|refine LH 12 a7 0 LE ?_|refine LH 12 a7 1 LE ?_|refine LH 12 a7 2 LE ?_|refine LG a7 0 LD ?_|refine LG a7 1 LD ?_|refine LG a7 2 LD ?_|refine LG a7 3 LD ?_|fail)|refine bg a7 fun _=>?_|fail)
   refine bI 13 [(0,.v),(1,.v),(2,.v),(3,.v),(4,.v),(5,.l),(6,.v),(7,.v),(8,.v),(9,.v),(10,.l),(11,.v),(12,.v)] none ?_ trivial rfl (by kernel_rfl) (by kernel_rfl) (by kernel_rfl) mixed (by kernel_rfl) rfl
   repeat' (first|refine aF ?_|refine b9 a7 ?_|fail)
   refine df a7 rfl rfl rfl hxr trivial ?_
   repeat' (first|refine aF ?_|fail)
   refine cS a7 1 rfl rfl rfl hc1 trivial ?_
   repeat' (first|refine aF ?_|refine b9 a7 ?_|fail)
   refine df a7 rfl rfl rfl hqr trivial ?_
   repeat' (first|refine aF ?_|fail)
   refine cS a7 1 rfl rfl rfl hc2 trivial ?_
   repeat' (first|refine aF ?_|refine b9 a7 ?_|(apply eA;refine fX ?_)|fail)
   refine LP [1,7,8,10,12,31,32,33,53,54,55,59,60,71] I9 ?_
   repeat' (first|(apply aU;first|refine aT a7 ?_|refine aN a7 ?_)|fail)
   refine ai a7 1 rfl rfl rfl rfl rfl rfl (by rw [Nat.ble_eq,jM];show _+1≤_;omega) ?_
   rw [gm,lW hxr.1 hxr.2,t2,←EE hq]
   repeat' (first|refine a8 ?_|refine aa ?_)
   refine bI 13 [(0,.v),(1,.v),(2,.v),(3,.v),(4,.v),(5,.l),(6,.v),(7,.v),(8,.v),(9,.v),(10,.l),(11,.v),(12,.v)] none ?_ trivial rfl (by kernel_rfl) (by kernel_rfl) (by kernel_rfl) mixed (by kernel_rfl) rfl
   repeat' (first|refine aF ?_|refine b9 a7 ?_|fail)
   refine df a7 rfl rfl rfl hxr trivial ?_
   repeat' (first|refine aF ?_|fail)
   refine cS a7 0 rfl rfl rfl hc3 trivial ?_
   repeat' (first|refine aF ?_|refine b9 a7 ?_|fail)
   refine df a7 rfl rfl rfl hqr trivial ?_
   repeat' (first|refine aF ?_|fail)
   refine cS a7 0 rfl rfl rfl hc4 trivial ?_
   repeat' (first|refine aF ?_|refine b9 a7 ?_|(apply eA;refine fX ?_)|fail)
   refine LP [1,7,8,10,31,32,33,53,54,55,73,74,85] I9 ?_
   repeat' (first|(apply aU;first|refine aT a7 ?_|refine aN a7 ?_)|fail)
   refine ai a7 0 rfl rfl rfl rfl rfl rfl (by rw [Nat.ble_eq,jM];show _+1≤_;omega) ?_
   rw [gm,lW hxr.1 hxr.2,t2,←Fx hq]
   repeat' (first|refine a6 ?_|refine a8 ?_|refine aM ?_|refine aa ?_|refine LF a7 I9 ?_|(apply aY;refine aX ?_)|fail)
   exact aE (j+1) rfl ⟨by rw [Ls];rfl,trivial⟩ (by omega) (by omega) (fun _ _ h=>h)
  ·have hjl:j=gl.Parts.length:=by have:=Lw h;omega
   subst hjl
   rw [List.take_length]
   repeat' (first|refine a6 ?_|refine aL ?_|refine a8 ?_|refine av ?_|refine aM ?_|refine aA ?_|refine aw ?_|refine aa ?_|refine LF a7 I9 ?_|(apply aY;refine aX ?_)|fail)
   exact aE (i+1,_,_) rfl ⟨by rw [Ls];rfl,trivial⟩ ⟨by dsimp only;omega,hC.next hf hT hx hgl⟩ (by dsimp only;omega) (fun _ _ h=>h)
 ·have hil:i=f.Glyphs.length:=by have:=Lw h;rw [hTi] at this;omega
  subst hil
  clear h
  have hdeep:jG f D P:=by
   intro z h0 h1 gl hgl
   obtain ⟨j,hj⟩:=List.mem_iff_getElem?.1 (hall z h0 h1)
   exact hC.done j z (by have:=(Lm hj).1;omega) hj gl hgl
  have hcd:∀F:Int→Int,ek f.Glyphs.length F=(aO ((cB f.Glyphs.length).map F)).flatten:=fun F=>by rw [sD];unfold ek;rw [List.map_map];rfl
  have hcl:∀F:Int→Int,(aO ((cB f.Glyphs.length).map F)).length=f.Glyphs.length:=fun F=>by rw [aW,Lr,eW]
  refine bK (sY (t:=7) (sz:=1) (l:=aO ((cB f.Glyphs.length).map D)) 1 rfl rfl (hcd D) (by simp [aO]) (hcl D) (by omega)) ?_
  refine bK (sY (t:=8) (sz:=1) (l:=aO ((cB f.Glyphs.length).map P)) 1 rfl rfl (hcd P) (by simp [aO]) (hcl P) (by omega)) ?_
  repeat' (first|refine ae ?_|refine a6 ?_|refine aL ?_|refine a8 ?_|refine av ?_|refine aA ?_|refine aw ?_|refine LF a7 I9 ?_|refine bS a7 ?_|fail)
  refine bh [] _ (jk [⟨186,[.iptr [.imm 1 (aO ((cB f.Glyphs.length).map D))]],[],(d9 ((cB f.Glyphs.length).map D) qk).1,(d9 ((cB f.Glyphs.length).map D) qk).2⟩,⟨189,[.iptr [.imm 1 (aO ((cB f.Glyphs.length).map P))]],[],(d9 ((cB f.Glyphs.length).map P) qO).1,(d9 ((cB f.Glyphs.length).map P) qO).2⟩] ⟨⟨inferInstance,zq _⟩,fun _=>⟨⟨inferInstance,zr _⟩,fun _=>trivial⟩⟩) rfl rfl (Ll _) rfl fun c L1 hc=>?_
  rw [jX] at hc
  have hc:c=cm (mz f.Glyphs.length D P):=hc
  subst hc
  unfold cm
  repeat' (first|refine aq ?_|refine a8 ?_|refine aa ?_|refine LF a7 I9 ?_)
  exact LQ LA (.inl ⟨D,P,hdeep,hacy,rfl⟩)
set_option maxRecDepth 8000
theorem km {err:Nat→Int}:∀(k i:Nat),(dg err k i).1=0↔∀j,i≤j→j < i+k→err j=0
 | 0,i=>by simp only [dg,true_iff];intro j h1 h2;omega
 | k+1,i=>by
  simp only [dg]
  by_cases h:err i=0
  ·rw [if_pos h,km k (i+1)]
   constructor
   ·intro hh j h1 h2
    by_cases e:j=i
    ·subst e;exact h
    ·exact hh j (by omega) (by omega)
   ·intro hh j h1 h2;exact hh j (by omega) (by omega)
  ·rw [if_neg h]
   constructor
   ·intro hh;exact absurd hh h
   ·intro hh;exact hh i (Nat.le_refl _) (by omega)
theorem qn {α:Type} {l:List α} {w:Nat→α→Int}:(d9 l w).1=0↔∀i x,l[i]?=some x→w i x=0:=by
 unfold d9 dl
 rw [km]
 constructor
 ·intro h i x hx
  have:=h i (Nat.zero_le _) (by have:=(Lm hx).1;omega)
  rwa [ip hx] at this
 ·intro h j _ hj
  obtain ⟨x,hx⟩:∃x,l[j]?=some x:=⟨_,Lz (by omega)⟩
  rw [ip hx]
  exact h j x hx
theorem iL {α:Type} {most:Int} {l:List α} {w:Nat→α→Int}:(cg most l w).1=0↔(l.length:Int)≤most∧∀i x,l[i]?=some x→w i x=0:=by
 have h:=qn (l:=l) (w:=w)
 unfold d9 at h
 unfold cg da
 by_cases hm:(l.length:Int) > most
 ·rw [if_pos hm]
  constructor
  ·intro hh;cases hh
  ·intro hh;omega
 ·rw [if_neg hm,h]
  exact ⟨fun hh=>⟨by omega,hh⟩,fun hh=>hh.2⟩
theorem dm:∀{l:List (Int×Int)},(gD l).1=0↔∀x∈l,x.1=0
 | []=>by simp [gD]
 | x::r=>by
  unfold gD
  by_cases h:x.1=0
  ·rw [if_pos h,dm]
   constructor
   ·intro hh y hy
    rcases List.mem_cons.1 hy with rfl | hy
    ·exact h
    ·exact hh y hy
   ·intro hh y hy;exact hh y (Lq _ hy)
  ·rw [if_neg h]
   constructor
   ·intro hh;exact absurd hh h
   ·intro hh;exact hh x (List.mem_cons_self ..)
theorem j3 {f:aV} (h:(cg 400 f.Glyphs (eD f)).1=0):w7 f:=by
 obtain ⟨h1,h2⟩:=iL.1 h
 have hg:∀gl∈f.Glyphs,∃name,nN f gl name=0:=fun gl hgl=>by
  obtain ⟨i,hi⟩:=List.mem_iff_getElem?.1 hgl
  exact ⟨_,h2 i gl hi⟩
 have hgl:∀gl∈f.Glyphs,iK gl=0∧(cg 8 gl.Parts (lI f)).1=0:=fun gl hm=>by
  obtain ⟨name,hn⟩:=hg gl hm
  unfold nN at hn
  rw [dm] at hn
  exact ⟨hn (iK gl,0) (by simp),hn (cg 8 gl.Parts (lI f)) (by simp)⟩
 refine ⟨⟨by omega,fun gl hm=>?_⟩,fun gl hm=>?_,fun gl hm p hp=>?_⟩
 ·have:=(iL.1 (hgl gl hm).2).1;omega
 ·have h3:=(hgl gl hm).1
  unfold iK at h3
  split at h3
  ·cases h3
  ·split at h3
   ·cases h3
   ·omega
 ·obtain ⟨i,hi⟩:=List.mem_iff_getElem?.1 hp
  have h3:=(iL.1 (hgl gl hm).2).2 i p hi
  unfold lI at h3
  split at h3
  ·cases h3
  ·rename_i hh
   simpa using hh
theorem zA {f:aV} (hf:w7 f) (ha:kv f.Glyphs.length (prt f)) {D P D' P':Int→Int} (h:jG f D P) (h':jG f D' P'):∀z:Int,0≤z→z < f.Glyphs.length→D z=D' z∧P z=P' z:=by
 obtain ⟨r,hr⟩:=ha
 have:∀(k:Nat) (z:Int),r z < k→0≤z→z < f.Glyphs.length→D z=D' z∧P z=P' z:=by
  intro k
  induction k with
  | zero=>intro z hk;exact absurd hk (Nat.not_lt_zero _)
  | succ k ih=>
   intro z hk h0 h1
   obtain ⟨gl,hgl⟩:∃g,f.Glyphs[z.toNat]?=some g:=⟨_,Lz (by omega)⟩
   have hsm:∀p∈gl.Parts,D p.Glyph=D' p.Glyph∧P p.Glyph=P' p.Glyph:=fun p hp=>by
    have hin:=pq.1 (hf.there gl (Lv hgl) p hp)
    have:=hr z h0 h1 p.Glyph (by rw [tZ hf hgl];exact List.mem_map_of_mem hp)
    exact ih p.Glyph (by omega) hin.1 hin.2
   obtain ⟨h2,h3⟩:=h z h0 h1 gl hgl
   obtain ⟨h4,h5⟩:=h' z h0 h1 gl hgl
   rw [h2,h3,h4,h5]
   exact ⟨uJ fun p hp=>(hsm p hp).1,vw fun p hp=>(hsm p hp).2⟩
 intro z h0 h1
 exact this (r z+1) z (by omega) h0 h1
theorem wz {n:Nat} {D P D' P':Int→Int} (h:∀z:Int,0≤z→z < n→D z=D' z∧P z=P' z):mz n D P=mz n D' P':=by
 unfold mz
 rw [List.map_congr_left (f:=D) (g:=D') fun z hz=>(h z (fk.1 hz).1 (fk.1 hz).2).1,List.map_congr_left (f:=P) (g:=P') fun z hz=>(h z (fk.1 hz).1 (fk.1 hz).2).2]
open Classical in
noncomputable def mA (f:aV):Int×Int:=if h:∃q:(Int→Int)×(Int→Int),jG f q.1 q.2 then mz f.Glyphs.length h.choose.1 h.choose.2 else (33,0)
theorem qg {f:aV} (hf:w7 f) (ha:kv f.Glyphs.length (prt f)) {D P:Int→Int} (h:jG f D P):mA f=mz f.Glyphs.length D P:=by
 unfold mA
 have hex:∃q:(Int→Int)×(Int→Int),jG f q.1 q.2:=⟨(D,P),h⟩
 rw [dif_pos hex]
 exact wz (zA hf ha hex.choose_spec h)
theorem ED (f:aV) (hf:w7 f) (ha:kv f.Glyphs.length (prt f)):AC Tryz.prog 112 [.iptr (c6 f)] [] fun c _=>c=cm ((mA f).1,(mA f).2):=by
 refine aP Tryz.func112 rfl Tryz.ntmps112 rfl fun B=>?_
 repeat' (first|refine ae ?_|refine a6 ?_|refine a8 ?_|refine aa ?_|refine LF a7 I9 ?_)
 refine bh [] [] (uI f hf (.inl ha)) rfl rfl (Ll _) rfl fun c L1 hc=>?_
 rcases hc with ⟨D,P,h1,h2,hc⟩ | ⟨hna,_⟩
 ·rw [←qg hf ha h1] at hc
  subst hc
  unfold cm
  repeat' (first|refine aq ?_|refine a8 ?_|refine aa ?_|refine LF a7 I9 ?_)
  exact LR LB
 ·exact absurd ha hna
def yd (_:Nat) (l:List eG):Int:=n4 l
def o5 (f:aV) (_:Nat) (r:List f5):Int:=Ao f.Axes.length r
def iT (f:aV) (_:Nat) (l:b7):Int:=li f l
noncomputable def y9 (f:aV):List (Int×Int):=[(kp f,0),cg 400 f.Glyphs (eD f),mA f,cg 1000 f.Chars (ie f),cg 40 f.Lookups (iT f),cg 20 f.Features (iR f),cg 3 f.Axes (jK f),cg 16 f.Regions (o5 f),cg 20 f.Funcs yd,cg 64 f.Cvt C3]
noncomputable def iA (f:aV):Int×Int:=gD (y9 f)
noncomputable def ya (f:aV) (m1 m2 m3:Nat):List Lk:=[⟨105,[.iptr (c6 f)],[],kp f,0⟩,
 ⟨171,[.iptr [.imm 9 (f.Glyphs.map bj)],.iptr [aH 400],.iptr [.fn 108 [.iptr (c6 f),.iptr [.sc (.map (some m1))]]]],[(m1,ca .string (cK (jT f)))],(cg 400 f.Glyphs (eD f)).1,(cg 400 f.Glyphs (eD f)).2⟩,
 ⟨112,[.iptr (c6 f)],[],(mA f).1,(mA f).2⟩,
 ⟨191,[.iptr [.imm 2 (f.Chars.map dc)],.iptr [aH 1000],.iptr [.fn 115 [.iptr (c6 f)]]],[],(cg 1000 f.Chars (ie f)).1,(cg 1000 f.Chars (ie f)).2⟩,
 ⟨193,[.iptr [.imm 3 (f.Lookups.map bv)],.iptr [aH 40],.iptr [.fn 118 [.iptr (c6 f)]]],[],(cg 40 f.Lookups (iT f)).1,(cg 40 f.Lookups (iT f)).2⟩,
 ⟨201,[.iptr [.imm 2 (f.Features.map bE)],.iptr [aH 20],.iptr [.fn 121 [.iptr (c6 f),.iptr [.sc (.map (some m2))]]]],[(m2,ca .string (cK (l6 f)))],(cg 20 f.Features (iR f)).1,(cg 20 f.Features (iR f)).2⟩,
 ⟨204,[.iptr [.imm 4 (f.Axes.map cG)],.iptr [aH 3],.iptr [.fn 125 [.iptr [.sc (.map (some m3))]]]],[(m3,ca .string (cK (ir f)))],(cg 3 f.Axes (jK f)).1,(cg 3 f.Axes (jK f)).2⟩,
 ⟨206,[.iptr [.imm 1 (f.Regions.map bT)],.iptr [aH 16],.iptr [.fn 128 [.iptr (c6 f)]]],[],(cg 16 f.Regions (o5 f)).1,(cg 16 f.Regions (o5 f)).2⟩,
 ⟨210,[.iptr [.imm 1 (f.Funcs.map cV)],.iptr [aH 20],.iptr [.sc (.func (.func 131) #[] #[])]],[],(cg 20 f.Funcs yd).1,(cg 20 f.Funcs yd).2⟩,
 ⟨214,[.iptr [.imm 1 (f.Cvt.map zk)],.iptr [aH 64],.iptr [.sc (.func (.func 134) #[] #[])]],[],(cg 64 f.Cvt C3).1,(cg 64 f.Cvt C3).2⟩]
theorem wH (f:aV) (m1 m2 m3:Nat) (hA:(cg 400 f.Glyphs (eD f)).1=0→kv f.Glyphs.length (prt f)):wW (ya f m1 m2 m3):=by
 refine ⟨⟨inferInstance,zP f⟩,fun _=>⟨⟨inferInstance,?_⟩,fun h1=>⟨⟨inferInstance,ED f (j3 h1) (hA h1)⟩,fun _=>⟨⟨inferInstance,?_⟩,fun _=>⟨⟨inferInstance,?_⟩,fun _=>⟨⟨inferInstance,?_⟩,fun _=>⟨⟨inferInstance,?_⟩,fun _=>⟨⟨inferInstance,?_⟩,fun _=>⟨⟨inferInstance,?_⟩,fun _=>⟨⟨inferInstance,?_⟩,fun _=>trivial⟩⟩⟩⟩⟩⟩⟩⟩⟩⟩
 ·exact FI (u:= .fn 108 [.iptr (c6 f),.iptr [.sc (.map (some m1))]]) rfl f.Glyphs 400 (fY f.Glyphs (eD f)) (fun _ L=>L=[(m1,ca .string (cK (jT f)))]) _ rfl fun _=>rA fun i x _=>wO f i x m1
 ·exact FJ (u:= .fn 115 [.iptr (c6 f)]) rfl f.Chars 1000 (fY f.Chars (ie f)) (fun _ _=>True) [] trivial fun hm=>dh fun i x hx=>zn f i x hx hm
 ·exact FK (u:= .fn 118 [.iptr (c6 f)]) rfl f.Lookups 40 (fY f.Lookups (iT f)) (fun _ _=>True) [] trivial fun _=>dh fun i x _=>tF f i x
 ·exact FL (u:= .fn 121 [.iptr (c6 f),.iptr [.sc (.map (some m2))]]) rfl f.Features 20 (fY f.Features (iR f)) (fun _ L=>L=[(m2,ca .string (cK (l6 f)))]) _ rfl fun _=>rA fun i x _=>zF f i x m2
 ·exact FM (u:= .fn 125 [.iptr [.sc (.map (some m3))]]) rfl f.Axes 3 (fY f.Axes (jK f)) (fun _ L=>L=[(m3,ca .string (cK (ir f)))]) _ rfl fun _=>rA fun i x _=>zb f i x m3
 ·exact FN (u:= .fn 128 [.iptr (c6 f)]) rfl f.Regions 16 (fY f.Regions (o5 f)) (fun _ _=>True) [] trivial fun _=>dh fun i x _=>vE f i x
 ·exact FO (u:= .sc (.func (.func 131) #[] #[])) (g:=131) (caps:=[]) rfl f.Funcs 20 (fY f.Funcs yd) (fun _ _=>True) [] trivial fun _=>dh fun i x _=>zp i x
 ·exact FP (u:= .sc (.func (.func 134) #[] #[])) (g:=134) (caps:=[]) rfl f.Cvt 64 (fY f.Cvt C3) (fun _ _=>True) [] trivial fun _=>dh fun i x _=>C1 i x
set_option maxHeartbeats 4000000 in
theorem yb (f:aV) (hA:(cg 400 f.Glyphs (eD f)).1=0→kv f.Glyphs.length (prt f)):AC Tryz.prog 60 [cD f] [] fun c _=>c=cm (iA f):=by
 refine aP Tryz.func60 rfl Tryz.ntmps60 rfl fun B=>?_
 repeat' (first|refine ae ?_|refine a6 ?_|refine a8 ?_|refine aa ?_|refine LF a7 I9 ?_|refine bo ?_|fail)
 refine bh [] _ (Cc f.Glyphs) rfl rfl (Ll _) rfl fun c L1 ⟨m1,hc,hL⟩=>?_
 subst hc;subst hL
 repeat' (first|refine ae ?_|refine a6 ?_|refine a8 ?_|refine aa ?_|refine LF a7 I9 ?_|(apply aK;first|refine LH 4 a7 0 LE ?_|refine LH 4 a7 1 LE ?_|refine LH 4 a7 2 LE ?_|refine LH 5 a7 0 LE ?_|refine LH 5 a7 1 LE ?_|refine LH 5 a7 2 LE ?_|refine LH 6 a7 0 LE ?_|refine LH 6 a7 1 LE ?_|refine LH 6 a7 2 LE ?_|refine LG a7 0 LD ?_|refine LG a7 1 LD ?_|refine LG a7 2 LD ?_|refine LG a7 3 LD ?_|fail)|refine bg a7 fun _=>?_|fail)
 refine bh [] _ (Cd f.Features) rfl rfl (Ll _) rfl fun c L1 ⟨m2,hc,hL⟩=>?_
 subst hc;subst hL
 repeat' (first|refine ae ?_|refine a6 ?_|refine a8 ?_|refine aa ?_|refine LF a7 I9 ?_|(apply aK;first|refine LH 4 a7 0 LE ?_|refine LH 4 a7 1 LE ?_|refine LH 4 a7 2 LE ?_|refine LH 5 a7 0 LE ?_|refine LH 5 a7 1 LE ?_|refine LH 5 a7 2 LE ?_|refine LH 6 a7 0 LE ?_|refine LH 6 a7 1 LE ?_|refine LH 6 a7 2 LE ?_|refine LG a7 0 LD ?_|refine LG a7 1 LD ?_|refine LG a7 2 LD ?_|refine LG a7 3 LD ?_|fail)|refine bg a7 fun _=>?_|fail)
 refine bh [] _ (Ce f.Axes) rfl rfl (Ll _) rfl fun c L1 ⟨m3,hc,hL⟩=>?_
 subst hc;subst hL
 repeat' (first|refine ae ?_|refine a8 ?_|refine aa ?_|(apply aK;first|refine LH 4 a7 0 LE ?_|refine LH 4 a7 1 LE ?_|refine LH 4 a7 2 LE ?_|refine LH 5 a7 0 LE ?_|refine LH 5 a7 1 LE ?_|refine LH 5 a7 2 LE ?_|refine LH 6 a7 0 LE ?_|refine LH 6 a7 1 LE ?_|refine LH 6 a7 2 LE ?_|refine LG a7 0 LD ?_|refine LG a7 1 LD ?_|refine LG a7 2 LD ?_|refine LG a7 3 LD ?_|fail)|refine bg a7 fun _=>?_|fail)
 refine bI 36 [(0,.v),(1,.v),(2,.v),(3,.v),(4,.v),(5,.v),(6,.v),(7,.v),(8,.v),(9,.v),(10,.v),(11,.v),(12,.v),(13,.v),(14,.v),(15,.v),(16,.v),(17,.v),(18,.v),(19,.v),(20,.v),(21,.v),(22,.v),(23,.v),(24,.v),(25,.v),(26,.v),(27,.v),(28,.v),(29,.v),(30,.v),(31,.v),(32,.v),(33,.e),(34,.v),(35,.v)] none ?_ trivial rfl (by kernel_rfl) (by kernel_rfl) (by kernel_rfl) mixed (by kernel_rfl) rfl
 repeat' (first|refine aF ?_|refine b9 a7 ?_|(apply du;refine dT ?_)|fail)
 refine dT (hc:=⟨HG f.Cvt 64⟩) ?_
 repeat' (first|refine aF ?_|refine dX a7 ?_|fail)
 refine lf (L:=[(m3,ca .string (cK (ir f))),(m2,ca .string (cK (l6 f))),(m1,ca .string (cK (jT f)))]) _ [] (jk (ya f m1 m2 m3) (wH f m1 m2 m3 hA)) rfl rfl (by rw [List.append_nil];exact (List.reverse_perm _).symm) trivial fun c L1 hc=>?_
 rw [jX] at hc
 have hc:c=cm (iA f):=hc
 subst hc
 unfold cm
 repeat' (first|refine aF ?_|refine b9 a7 ?_|fail)
 refine LP [50,51] I9 ?_
 repeat' (first|refine aq ?_|refine a8 ?_|refine aa ?_|refine LF a7 I9 ?_)
 exact LR LB
end Go.Proofs.YtamjlkdanllgjaaGreatDoor
