/-
  The program: how deep glyphs are, and how many points they have.
-/
import Derived.Test.YtpmdfoaadejmkaaGreatDoorM24
import Derived.Test.YtpmdfoaadejmkaaGreatDoorM21
namespace Go.Proofs.YtpmdfoaadejmkaaGreatDoor
open Go.RowKit
attribute [local irreducible] AT br AX AO Av Kt b7 dm DA cA
def dF (D:Int→Int) (ps:List dX):Int:=ps.foldl (fun a p=>max a (D p.Glyph+1)) 0
def pF (P:Int→Int) (ps:List dX) (k:Int):Int:=ps.foldl (fun a p=>min (a+P p.Glyph) 1001) k
def eG (n:Nat) (D:Int→Int):List AV:=(cI n).map fun z=>aI (D z)
def iL (D:Int→Int) (z v:Int):Int→Int:=fun q=>if q=z then v else D q
theorem mw {D:Int→Int} {z v:Int}:iL D z v z=v:=by simp [iL]
theorem lb {D:Int→Int} {z v q:Int} (h:q≠z):iL D z v q=D q:=by simp [iL,h]
theorem tz (D:Int→Int) (z v w:Int):iL (iL D z v) z w=iL D z w:=by
 funext q
 unfold iL
 by_cases e:q=z
 ·rw [if_pos e,if_pos e]
 ·rw [if_neg e,if_neg e,if_neg e]
theorem kE (n:Nat) (D:Int→Int):(eG n D).length=n:=by simp [eG,cI]
theorem kD {n:Nat} {D:Int→Int} {z:Int} (h0:0≤z) (h1:z < n):(eG n D)[0+z.toNat * 1]?=some (aI (D z)):=by
 rw [Nat.zero_add,Nat.mul_one]
 unfold eG
 rw [List.getElem?_map,kq (by omega),Option.map_some,show ((z.toNat:Nat):Int)=z by omega]
theorem mO {n:Nat} {D:Int→Int} {z v:Int} (h0:0≤z) (h1:z < n):(eG n D).set (0+z.toNat * 1) (aI v)=eG n (iL D z v):=by
 rw [Nat.zero_add,Nat.mul_one]
 apply List.ext_getElem?
 intro i
 rw [List.getElem?_set,kE]
 unfold eG iL
 by_cases hi:z.toNat=i
 ·subst hi
  rw [if_pos rfl,if_pos (by omega),List.getElem?_map,kq (by omega),Option.map_some,if_pos (by omega)]
 ·rw [if_neg hi,List.getElem?_map,List.getElem?_map]
  by_cases hn:i < n
  ·rw [kq hn,Option.map_some,Option.map_some,if_neg (by omega)]
  ·rw [List.getElem?_eq_none (by rw [ff];omega)];rfl
theorem pg (n:Nat):(List.replicate n [aI 0]).flatten=eG n fun _=>0:=by
 rw [yP (cI n) n (ff n).symm]
 unfold ga eG
 rw [List.take_zero,Lq,Nat.sub_zero,ff,List.map_replicate]
 apply List.ext_getElem?
 intro i
 rw [List.getElem?_replicate,List.getElem?_map]
 by_cases h:i < n
 ·rw [if_pos h,kq h];rfl
 ·rw [if_neg h,List.getElem?_eq_none (by rw [ff];omega)];rfl
theorem Fo {D:Int→Int} {ps:List dX} {j:Nat} {p:dX} (h:ps[j]?=some p):dF D (ps.take (j+1))=max (dF D (ps.take j)) (D p.Glyph+1):=by
 unfold dF
 rw [List.take_add_one,h,Option.toList_some,List.foldl_append]
 rfl
theorem Gf {P:Int→Int} {ps:List dX} {k:Int} {j:Nat} {p:dX} (h:ps[j]?=some p):pF P (ps.take (j+1)) k=min (pF P (ps.take j) k+P p.Glyph) 1001:=by
 unfold pF
 rw [List.take_add_one,h,Option.toList_some,List.foldl_append]
 rfl
theorem mR {α β:Type} {F G:α→β→α}:∀(l:List β) (a:α),(∀b∈l,∀a,F a b=G a b)→l.foldl F a=l.foldl G a
 | [],_,_=>rfl
 | b::l,a,h=>by rw [List.foldl_cons,List.foldl_cons,h b (List.mem_cons_self ..)];exact mR l _ fun c hc=>h c (Ls _ hc)
theorem vt {D D':Int→Int} {ps:List dX} (h:∀p∈ps,D p.Glyph=D' p.Glyph):dF D ps=dF D' ps:=mR ps 0 fun p hp a=>by rw [h p hp]
theorem wa {P P':Int→Int} {ps:List dX} {k:Int} (h:∀p∈ps,P p.Glyph=P' p.Glyph):pF P ps k=pF P' ps k:=mR ps k fun p hp a=>by rw [h p hp]
theorem J1 {D:Int→Int} {m:Int} (h:∀z,0≤D z∧D z≤m):∀(ps:List dX),0≤dF D ps∧dF D ps≤m+1:=by
 intro ps
 have hm:0≤m:=by have:=h 0;omega
 have:∀(ps:List dX) (a:Int),0≤a→a≤m+1→0≤ps.foldl (fun a p=>max a (D p.Glyph+1)) a∧ps.foldl (fun a p=>max a (D p.Glyph+1)) a≤m+1:=by
  intro ps
  induction ps with
  | nil=>intro a h0 h1;exact ⟨h0,h1⟩
  | cons p ps ih=>intro a h0 h1;have:=h p.Glyph;exact ih (max a (D p.Glyph+1)) (by omega) (by omega)
 exact this ps 0 (by omega) (by omega)
theorem H8 {P:Int→Int} {k:Int} (h:∀z,0≤P z∧P z≤1000000) (hk:0≤k∧k≤1000000) (ps:List dX):0≤pF P ps k∧pF P ps k≤1000000:=by
 unfold pF
 induction ps generalizing k with
 | nil=>exact hk
 | cons p ps ih=>have:=h p.Glyph;exact ih (k:=min (k+P p.Glyph) 1001) (by omega)
def kv (f:aY) (D P:Int→Int):Prop:=∀z:Int,0≤z→z < f.Glyphs.length→∀gl,f.Glyphs[z.toNat]?=some gl→D z=dF D gl.Parts∧P z=pF P gl.Parts gl.Points.length
structure wD (f:aY):Prop extends Few f where
 points:∀gl∈f.Glyphs,gl.Points.length≤1000000
 there:∀gl∈f.Glyphs,∀p∈gl.Parts,lO f p.Glyph=true
theorem ut {f:aY} (hf:wD f) {z:Int} {gl:bi} (h:f.Glyphs[z.toNat]?=some gl):prt f z=gl.Parts.map dX.Glyph:=by
 unfold prt
 rw [h]
 refine List.filter_eq_self.2 fun y hy=>?_
 obtain ⟨p,hp,rfl⟩:=List.mem_map.1 hy
 exact hf.there gl (Lw h) p hp
def qP (_:Nat) (levels:Int):Int:=er (decide (levels > 4)) 34
def rj (_:Nat) (all:Int):Int:=er (decide (all≥1001)) 2
theorem x9 (i:Nat) (n:Int):c5 Tryz.prog 129 [aI i,aI n] (aI (qP i n)):=by
 refine aS Tryz.func129 rfl Tryz.ntmps129 rfl fun B=>?_
 refine W0l ?_
 exact LN LA
theorem xa (i:Nat) (n:Int):c5 Tryz.prog 131 [aI i,aI n] (aI (rj i n)):=by
 refine aS Tryz.func131 rfl Tryz.ntmps131 rfl fun B=>?_
 refine W0l ?_
 exact LN LA
theorem Aa (l:List Int):c5 Tryz.prog 127 [.iptr [.imm 1 (aQ l)]] (cu (di l qP)):=by
 refine aS Tryz.func127 rfl Tryz.ntmps127 rfl fun B=>?_
 refine W01 ?_
 refine b9 [] [] (np (u:= .sc (.func (.func 129) #[] #[])) (g:=129) (caps:=[]) rfl l _ (fun _ _=>True) [] trivial (du (fun i x _=>x9 i x))) rfl rfl (Lm _) rfl fun c L1 hc=>?_
 have hc:c=cu (di l qP):=hc
 subst hc
 unfold cu
 refine W0c ?_
 exact aZ rfl rfl rfl rfl
theorem Ab (l:List Int):c5 Tryz.prog 130 [.iptr [.imm 1 (aQ l)]] (cu (di l rj)):=by
 refine aS Tryz.func130 rfl Tryz.ntmps130 rfl fun B=>?_
 refine W01 ?_
 refine b9 [] [] (np (u:= .sc (.func (.func 131) #[] #[])) (g:=131) (caps:=[]) rfl l _ (fun _ _=>True) [] trivial (du (fun i x _=>xa i x))) rfl rfl (Lm _) rfl fun c L1 hc=>?_
 have hc:c=cu (di l rj):=hc
 subst hc
 unfold cu
 refine W0c ?_
 exact aZ rfl rfl rfl rfl
structure wB (f:aY) (T:List Int) (i:Nat) (D P:Int→Int):Prop where
 deep:∀z,0≤D z∧D z≤i
 many:∀z,0≤P z∧P z≤1000000
 done:∀(j:Nat) (z:Int),j < i→T[j]?=some z→∀gl,f.Glyphs[z.toNat]?=some gl→D z=dF D gl.Parts∧P z=pF P gl.Parts gl.Points.length
 rest:∀z,z∉T.take i→D z=0
theorem wB.start {f:aY} {T:List Int}:wB f T 0 (fun _=>0) (fun _=>0):=⟨fun _=>by simp,fun _=>by simp,fun j _ h=>absurd h (Nat.not_lt_zero _),fun _ _=>rfl⟩
theorem wB.next {f:aY} {T:List Int} (hf:wD f) (hT:jp f.Glyphs.length (prt f) T) {i:Nat} {D P:Int→Int} (h:wB f T i D P) {x:Int} {gl:bi} (hx:T[i]?=some x) (hgl:f.Glyphs[x.toNat]?=some gl):wB f T (i+1) (iL D x (dF D gl.Parts)) (iL P x (pF P gl.Parts gl.Points.length)):=by
 have hgm:=Lw hgl
 have hnot:∀(j:Nat) (z:Int),j≤i→T[j]?=some z→∀g,f.Glyphs[z.toNat]?=some g→∀p∈g.Parts,p.Glyph≠x:=by
  intro j z hj hz g hg p hp e
  have h1:=hT.topo j z hz p.Glyph (by rw [ut hf hg];exact List.mem_map_of_mem hp)
  rw [e] at h1
  obtain ⟨k,hk⟩:=List.mem_iff_getElem?.1 h1
  rw [List.getElem?_take] at hk
  split at hk
  ·rename_i hlt
   obtain ⟨k1,k2⟩:=Ln hk
   obtain ⟨i1,i2⟩:=Ln hx
   have e1:=hT.nodup.idxOf_getElem k k1
   have e2:=hT.nodup.idxOf_getElem i i1
   rw [k2] at e1
   rw [i2] at e2
   omega
  ·cases hk
 have hd:=J1 h.deep gl.Parts
 have hp:=H8 (k:=(gl.Points.length:Int)) h.many (by have:=hf.points gl hgm;omega) gl.Parts
 refine ⟨fun z=>?_,fun z=>?_,fun j z hj hz g hg=>?_,fun z hz=>?_⟩
 ·unfold iL
  split
  ·omega
  ·have:=h.deep z;omega
 ·unfold iL
  split
  ·exact hp
  ·exact h.many z
 ·rw [vt (D:=iL D x (dF D gl.Parts)) (D':=D) fun p hp=>lb (hnot j z (by omega) hz g hg p hp),wa (P:=iL P x (pF P gl.Parts gl.Points.length)) (P':=P) fun p hp=>lb (hnot j z (by omega) hz g hg p hp)]
  by_cases e:z=x
  ·subst e
   rw [hgl] at hg
   cases hg
   rw [mw,mw]
   exact ⟨rfl,rfl⟩
  ·rw [lb e,lb e]
   have hji:j < i:=by
    rcases Nat.lt_or_ge j i with h1 | h1
    ·exact h1
    ·have:j=i:=by omega
     subst this
     rw [hx] at hz
     cases hz
     exact absurd rfl e
   exact h.done j z hji hz g hg
 ·rw [List.take_add_one,hx,Option.toList_some,List.mem_append,List.mem_singleton] at hz
  rw [lb (fun e=>hz (.inr e))]
  exact h.rest z fun hm=>hz (.inl hm)
def nj (n:Nat) (D P:Int→Int):Int×Int:=gX [di ((cI n).map D) qP,di ((cI n).map P) rj]
set_option maxHeartbeats 8000000 in
theorem vr (f:aY) (hf:wD f) (hr:lq f.Glyphs.length (prt f)∨AC Tryz.prog 211 [d7 f] [] fun c _=>∃z:Int,c=aI z):AC Tryz.prog 56 [d7 f] [] fun c _=>(∃D P,kv f D P∧lq f.Glyphs.length (prt f)∧c=cu (nj f.Glyphs.length D P))∨(¬lq f.Glyphs.length (prt f)∧∃z:Int,c=cu (33,z)):=by
 refine aS Tryz.func56 rfl Tryz.ntmps56 rfl fun B=>?_
 have hn:=hf.n
 have hml:(f.Glyphs.map bI).length=f.Glyphs.length:=Lu ..
 refine W0b ?_
 refine b9 [] [] (E8 f hf.toFew hr) rfl rfl (Lm _) rfl fun c L1 hc=>?_
 refine aE (bP (List.nil_sublist _)) ?_
 rcases hc with ⟨T,hc,hT,hTl⟩ | ⟨hna,z,hc⟩
 rotate_left
 ·subst hc
  refine W0P ?_
  exact LT LA (.inr ⟨hna,z,rfl⟩)
 subst hc
 have hall:=hT.all_of_len hTl
 have hacy:=hT.acyc hall
 have hTi:=aX T
 refine W0G ?_
 rw [hml]
 refine iz a5 f.Glyphs.length rfl rfl rfl rfl rfl rfl rfl (by omega) (by omega) rfl fun bd=>?_
 rw [show (List.replicate f.Glyphs.length (List.map AV.sc [Value.int .i64 0])).flatten=eG f.Glyphs.length fun _=>0 from pg _]
 repeat' (first|refine a9 ?_|refine a4 ?_|refine a6 ?_|refine a7 ?_|refine LG a5 KZ ?_|(apply aM;first|refine LI 7 a5 0 LF ?_|refine LI 7 a5 1 LF ?_|refine LI 7 a5 2 LF ?_|refine LI 8 a5 0 LF ?_|refine LI 8 a5 1 LF ?_|refine LI 8 a5 2 LF ?_|refine LI 12 a5 0 LF ?_|refine LI 12 a5 1 LF ?_|refine LI 12 a5 2 LF ?_|refine LH a5 0 LE ?_|refine LH a5 1 LE ?_|refine LH a5 2 LE ?_|refine LH a5 3 LE ?_|fail)|refine bf a5 fun _=>?_|fail)
 rw [hml]
 refine iz a5 f.Glyphs.length rfl rfl rfl rfl rfl rfl rfl (by omega) (by omega) rfl fun bp=>?_
 rw [show (List.replicate f.Glyphs.length (List.map AV.sc [Value.int .i64 0])).flatten=eG f.Glyphs.length fun _=>0 from pg _]
 repeat' (first|refine a9 ?_|refine a4 ?_|refine ai ?_|refine a6 ?_|refine a7 ?_|refine LG a5 KZ ?_|(apply aM;first|refine LI 7 a5 0 LF ?_|refine LI 7 a5 1 LF ?_|refine LI 7 a5 2 LF ?_|refine LI 8 a5 0 LF ?_|refine LI 8 a5 1 LF ?_|refine LI 8 a5 2 LF ?_|refine LI 12 a5 0 LF ?_|refine LI 12 a5 1 LF ?_|refine LI 12 a5 2 LF ?_|refine LH a5 0 LE ?_|refine LH a5 1 LE ?_|refine LH a5 2 LE ?_|refine LH a5 3 LE ?_|fail)|refine bf a5 fun _=>?_|fail)
 refine aN [1,7,8,31,32] (α:=Nat×(Int→Int)×(Int→Int)) (fun x=>[(33,aI x.1)]) (fun x=>x.1≤f.Glyphs.length∧wB f T x.1 x.2.1 x.2.2) (fun x=>[(bp,.box (eG f.Glyphs.length x.2.2) 3),(bd,.box (eG f.Glyphs.length x.2.1) 3)]) (fun x=>f.Glyphs.length - x.1) (0,(fun _=>0),(fun _=>0)) rfl ⟨rfl,trivial⟩ ⟨Nat.zero_le _,wB.start⟩ (fun _ _ h=>h) ?_
 rintro ⟨i,D,P⟩ ⟨hi,hC⟩
 dsimp only at hi hC ⊢
 try dsimp only [Lr,Lq,Lp,Li]
 refine W01 ?_
 refine ar rfl (fun h=>?_) (fun h=>?_)
 ·have hil:i < T.length:=by have:=Lz h;rw [hTi] at this;omega
  obtain ⟨x,hx⟩:∃x,T[i]?=some x:=⟨_,Iy hil⟩
  have hxi:=bW hx
  have hxr:=hT.dom x (Lw hx)
  obtain ⟨gl,hgl⟩:∃z,f.Glyphs[x.toNat]?=some z:=⟨_,Iy (by omega)⟩
  have hgm:=Lw hgl
  have hgg:=cO (c:=bI) hgl
  have hpm:(gl.Points.map dL).length=gl.Points.length:=Lu ..
  have hpl:=hf.points gl hgm
  clear h
  refine W08 ?_
  refine bz 10 [(0,.v),(1,.v),(2,.v),(3,.v),(4,.v),(5,.v),(6,.v),(7,.v),(8,.v),(9,.v)] none ?_ trivial rfl (by kernel_rfl) (by kernel_rfl) (by kernel_rfl) bX (by kernel_rfl) rfl
  refine W18 ?_
  refine LQ [1,7,8,10,31,32,33,37,38,46] KZ ?_
  refine W0z ?_
  refine LU a5 0 LD (by rw [Nat.ble_eq,kE];show _+1≤_;omega) ?_
  rw [jh,mO hxr.1 hxr.2,hpm]
  refine W1M ?_
  have hTx:x∉T.take i:=fun hm=>by
   obtain ⟨k,hk⟩:=List.mem_iff_getElem?.1 hm
   rw [List.getElem?_take] at hk
   split at hk
   ·obtain ⟨k1,k2⟩:=Ln hk
    obtain ⟨i1,i2⟩:=Ln hx
    have e1:=hT.nodup.idxOf_getElem k k1
    have e2:=hT.nodup.idxOf_getElem i i1
    rw [k2] at e1
    rw [i2] at e2
    omega
   ·cases hk
  have hD0:iL D x 0=D:=by
   funext q
   unfold iL
   split
   ·rename_i e;rw [e,hC.rest x hTx]
   ·rfl
  have hql:(gl.Parts.map f0).length=gl.Parts.length:=Lu ..
  have hqn:=hf.parts gl hgm
  refine aN [1,7,8,10,31,32,33,53,54] (α:=Nat) (fun j=>[(55,aI j)]) (fun j=>j≤gl.Parts.length) (fun j=>[(bp,.box (eG f.Glyphs.length (iL P x (pF P (gl.Parts.take j) gl.Points.length))) 3),(bd,.box (eG f.Glyphs.length (iL D x (dF D (gl.Parts.take j)))) 3)]) (fun j=>gl.Parts.length - j) 0 rfl ⟨rfl,trivial⟩ (Nat.zero_le _) (fun _ _ h=>by rw [List.take_zero,show dF D []=0 from rfl,hD0];exact h) fun j hj=>?_
  try dsimp only [Lr,Lq,Lp,Li]
  refine W01 ?_
  refine ar rfl (fun h=>?_) (fun h=>?_)
  ·have hjl:j < gl.Parts.length:=by have:=Lz h;omega
   obtain ⟨q,hq⟩:∃q,gl.Parts[j]?=some q:=⟨_,Iy hjl⟩
   have hqg:=cO (c:=f0) hq
   have hqr:=q8.1 (hf.there gl hgm q (Lw hq))
   have hne:q.Glyph≠x:=fun e=>by
    have h1:=hT.topo i x hx q.Glyph (by rw [ut hf hgl];exact List.mem_map_of_mem (Lw hq))
    rw [e] at h1
    exact hTx h1
   have hc1:(eG f.Glyphs.length (iL D x (dF D (gl.Parts.take j))))[0+x.toNat * 1]?=some (aI (dF D (gl.Parts.take j))):=by rw [kD hxr.1 hxr.2,mw]
   have hc2:(eG f.Glyphs.length (iL D x (dF D (gl.Parts.take j))))[0+q.Glyph.toNat * 1]?=some (aI (D q.Glyph)):=by rw [kD hqr.1 hqr.2,lb hne]
   have hc3:(eG f.Glyphs.length (iL P x (pF P (gl.Parts.take j) gl.Points.length)))[0+x.toNat * 1]?=some (aI (pF P (gl.Parts.take j) gl.Points.length)):=by rw [kD hxr.1 hxr.2,mw]
   have hc4:(eG f.Glyphs.length (iL P x (pF P (gl.Parts.take j) gl.Points.length)))[0+q.Glyph.toNat * 1]?=some (aI (P q.Glyph)):=by rw [kD hqr.1 hqr.2,lb hne]
   have hDq:=hC.deep q.Glyph
   have hPq:=hC.many q.Glyph
   have hPj:=H8 (k:=(gl.Points.length:Int)) hC.many (by omega) (gl.Parts.take j)
   clear h
   repeat' (first|refine a9 ?_|refine a4 ?_|refine ai ?_|refine aj ?_|refine a6 ?_|refine a7 ?_|refine LG a5 KZ ?_|(apply aL;first|refine aJ a5 ?_|refine aF a5 ?_)|(apply aM;first|refine LI 7 a5 0 LF ?_|refine LI 7 a5 1 LF ?_|refine LI 7 a5 2 LF ?_|refine LI 8 a5 0 LF ?_|refine LI 8 a5 1 LF ?_|refine LI 8 a5 2 LF ?_|refine LI 12 a5 0 LF ?_|refine LI 12 a5 1 LF ?_|refine LI 12 a5 2 LF ?_|refine LH a5 0 LE ?_|refine LH a5 1 LE ?_|refine LH a5 2 LE ?_|refine LH a5 3 LE ?_|fail)|refine bf a5 fun _=>?_|fail)
   refine bz 13 [(0,.v),(1,.v),(2,.v),(3,.v),(4,.v),(5,.l),(6,.v),(7,.v),(8,.v),(9,.v),(10,.l),(11,.v),(12,.v)] none ?_ trivial rfl (by kernel_rfl) (by kernel_rfl) (by kernel_rfl) bX (by kernel_rfl) rfl
   refine W0a ?_
   refine d8 a5 rfl rfl rfl hxr trivial ?_
   repeat' (first|refine aD ?_|fail)
   refine cf a5 1 rfl rfl rfl hc1 trivial ?_
   refine W0a ?_
   refine d8 a5 rfl rfl rfl hqr trivial ?_
   repeat' (first|refine aD ?_|fail)
   refine cf a5 1 rfl rfl rfl hc2 trivial ?_
   refine W1i ?_
   refine LQ [1,7,8,10,12,31,32,33,53,54,55,59,60,71] KZ ?_
   refine W0z ?_
   refine LU a5 1 LD (by rw [Nat.ble_eq,kE];show _+1≤_;omega) ?_
   rw [jh,mO hxr.1 hxr.2,tz,←Fo hq]
   refine W1y ?_
   refine bz 13 [(0,.v),(1,.v),(2,.v),(3,.v),(4,.v),(5,.l),(6,.v),(7,.v),(8,.v),(9,.v),(10,.l),(11,.v),(12,.v)] none ?_ trivial rfl (by kernel_rfl) (by kernel_rfl) (by kernel_rfl) bX (by kernel_rfl) rfl
   refine W0a ?_
   refine d8 a5 rfl rfl rfl hxr trivial ?_
   repeat' (first|refine aD ?_|fail)
   refine cf a5 0 rfl rfl rfl hc3 trivial ?_
   refine W0a ?_
   refine d8 a5 rfl rfl rfl hqr trivial ?_
   repeat' (first|refine aD ?_|fail)
   refine cf a5 0 rfl rfl rfl hc4 trivial ?_
   refine W1i ?_
   refine LQ [1,7,8,10,31,32,33,53,54,55,73,74,85] KZ ?_
   refine W0z ?_
   refine LU a5 0 LD (by rw [Nat.ble_eq,kE];show _+1≤_;omega) ?_
   rw [jh,mO hxr.1 hxr.2,tz,←Gf hq]
   refine W05 ?_
   exact aC (j+1) rfl ⟨by rw [Lv];rfl,trivial⟩ (by omega) (by omega) (fun _ _ h=>h)
  ·have hjl:j=gl.Parts.length:=by have:=Ly h;omega
   subst hjl
   rw [List.take_length]
   refine W0y ?_
   exact aC (i+1,_,_) rfl ⟨by rw [Lv];rfl,trivial⟩ ⟨by dsimp only;omega,hC.next hf hT hx hgl⟩ (by dsimp only;omega) (fun _ _ h=>h)
 ·have hil:i=f.Glyphs.length:=by have:=Ly h;rw [hTi] at this;omega
  subst hil
  clear h
  have hdeep:kv f D P:=by
   intro z h0 h1 gl hgl
   obtain ⟨j,hj⟩:=List.mem_iff_getElem?.1 (hall z h0 h1)
   exact hC.done j z (by have:=(Ln hj).1;omega) hj gl hgl
  have hcd:∀F:Int→Int,eG f.Glyphs.length F=(aQ ((cI f.Glyphs.length).map F)).flatten:=fun F=>by rw [sX];unfold eG;rw [List.map_map];rfl
  have hcl:∀F:Int→Int,(aQ ((cI f.Glyphs.length).map F)).length=f.Glyphs.length:=fun F=>by rw [aX,Lu,ff]
  refine bM (tw (t:=7) (sz:=1) (l:=aQ ((cI f.Glyphs.length).map D)) 1 rfl rfl (hcd D) (by simp [aQ]) (hcl D) (by omega)) ?_
  refine bM (tw (t:=8) (sz:=1) (l:=aQ ((cI f.Glyphs.length).map P)) 1 rfl rfl (hcd P) (by simp [aQ]) (hcl P) (by omega)) ?_
  repeat' (first|refine a9 ?_|refine a4 ?_|refine aP ?_|refine a6 ?_|refine aq ?_|refine ay ?_|refine au ?_|refine LG a5 KZ ?_|refine bQ a5 ?_|fail)
  refine b9 [] _ (jN [⟨127,[.iptr [.imm 1 (aQ ((cI f.Glyphs.length).map D))]],[],(di ((cI f.Glyphs.length).map D) qP).1,(di ((cI f.Glyphs.length).map D) qP).2⟩,⟨130,[.iptr [.imm 1 (aQ ((cI f.Glyphs.length).map P))]],[],(di ((cI f.Glyphs.length).map P) rj).1,(di ((cI f.Glyphs.length).map P) rj).2⟩] ⟨⟨inferInstance,Aa _⟩,fun _=>⟨⟨inferInstance,Ab _⟩,fun _=>trivial⟩⟩) rfl rfl (Lm _) rfl fun c L1 hc=>?_
  rw [kT] at hc
  have hc:c=cu (nj f.Glyphs.length D P):=hc
  subst hc
  unfold cu
  refine W0c ?_
  exact LT LA (.inl ⟨D,P,hdeep,hacy,rfl⟩)
theorem lg {err:Nat→Int}:∀(k i:Nat),(dq err k i).1=0↔∀j,i≤j→j < i+k→err j=0
 | 0,i=>by simp only [dq,true_iff];intro j h1 h2;omega
 | k+1,i=>by
  simp only [dq]
  by_cases h:err i=0
  ·rw [if_pos h,lg k (i+1)]
   constructor
   ·intro hh j h1 h2
    by_cases e:j=i
    ·subst e;exact h
    ·exact hh j (by omega) (by omega)
   ·intro hh j h1 h2;exact hh j (by omega) (by omega)
  ·rw [if_neg h]
   constructor
   ·intro hh;exact absurd hh h
   ·intro hh;exact hh i (Nat.le_refl _) (by omega)
theorem qT {α:Type} {l:List α} {w:Nat→α→Int}:(di l w).1=0↔∀i x,l[i]?=some x→w i x=0:=by
 unfold di dv
 rw [lg]
 constructor
 ·intro h i x hx
  have:=h i (Nat.zero_le _) (by have:=(Ln hx).1;omega)
  rwa [iO hx] at this
 ·intro h j _ hj
  obtain ⟨x,hx⟩:∃x,l[j]?=some x:=⟨_,Iy (by omega)⟩
  rw [iO hx]
  exact h j x hx
theorem jj {α:Type} {most:Int} {l:List α} {w:Nat→α→Int}:(cr most l w).1=0↔(l.length:Int)≤most∧∀i x,l[i]?=some x→w i x=0:=by
 have h:=qT (l:=l) (w:=w)
 unfold di at h
 unfold cr dk
 by_cases hm:(l.length:Int) > most
 ·rw [if_pos hm]
  constructor
  ·intro hh;cases hh
  ·intro hh;omega
 ·rw [if_neg hm,h]
  exact ⟨fun hh=>⟨by omega,hh⟩,fun hh=>hh.2⟩
theorem dM:∀{l:List (Int×Int)},(gX l).1=0↔∀x∈l,x.1=0
 | []=>by simp [gX]
 | x::r=>by
  unfold gX
  by_cases h:x.1=0
  ·rw [if_pos h,dM]
   constructor
   ·intro hh y hy
    rcases List.mem_cons.1 hy with rfl | hy
    ·exact h
    ·exact hh y hy
   ·intro hh y hy;exact hh y (Ls _ hy)
  ·rw [if_neg h]
   constructor
   ·intro hh;exact absurd hh h
   ·intro hh;exact hh x (List.mem_cons_self ..)
theorem jD {f:aY} (h:(cr 400 f.Glyphs (eB f)).1=0):wD f:=by
 obtain ⟨h1,h2⟩:=jj.1 h
 have hg:∀gl∈f.Glyphs,∃name,oK f gl name=0:=fun gl hgl=>by
  obtain ⟨i,hi⟩:=List.mem_iff_getElem?.1 hgl
  exact ⟨_,h2 i gl hi⟩
 have hgl:∀gl∈f.Glyphs,ji gl=0∧(cr 8 gl.Parts (mF f)).1=0:=fun gl hm=>by
  obtain ⟨name,hn⟩:=hg gl hm
  unfold oK at hn
  rw [dM] at hn
  exact ⟨hn (ji gl,0) (by simp),hn (cr 8 gl.Parts (mF f)) (by simp)⟩
 refine ⟨⟨by omega,fun gl hm=>?_⟩,fun gl hm=>?_,fun gl hm p hp=>?_⟩
 ·have:=(jj.1 (hgl gl hm).2).1;omega
 ·have h3:=(hgl gl hm).1
  unfold ji at h3
  split at h3
  ·cases h3
  ·split at h3
   ·cases h3
   ·omega
 ·obtain ⟨i,hi⟩:=List.mem_iff_getElem?.1 hp
  have h3:=(jj.1 (hgl gl hm).2).2 i p hi
  unfold mF at h3
  split at h3
  ·cases h3
  ·rename_i hh
   simpa using hh
theorem Aj {f:aY} (hf:wD f) (ha:lq f.Glyphs.length (prt f)) {D P D' P':Int→Int} (h:kv f D P) (h':kv f D' P'):∀z:Int,0≤z→z < f.Glyphs.length→D z=D' z∧P z=P' z:=by
 obtain ⟨r,hr⟩:=ha
 have:∀(k:Nat) (z:Int),r z < k→0≤z→z < f.Glyphs.length→D z=D' z∧P z=P' z:=by
  intro k
  induction k with
  | zero=>intro z hk;exact absurd hk (Nat.not_lt_zero _)
  | succ k ih=>
   intro z hk h0 h1
   obtain ⟨gl,hgl⟩:∃g,f.Glyphs[z.toNat]?=some g:=⟨_,Iy (by omega)⟩
   have hsm:∀p∈gl.Parts,D p.Glyph=D' p.Glyph∧P p.Glyph=P' p.Glyph:=fun p hp=>by
    have hin:=q8.1 (hf.there gl (Lw hgl) p hp)
    have:=hr z h0 h1 p.Glyph (by rw [ut hf hgl];exact List.mem_map_of_mem hp)
    exact ih p.Glyph (by omega) hin.1 hin.2
   obtain ⟨h2,h3⟩:=h z h0 h1 gl hgl
   obtain ⟨h4,h5⟩:=h' z h0 h1 gl hgl
   rw [h2,h3,h4,h5]
   exact ⟨vt fun p hp=>(hsm p hp).1,wa fun p hp=>(hsm p hp).2⟩
 intro z h0 h1
 exact this (r z+1) z (by omega) h0 h1
theorem xb {n:Nat} {D P D' P':Int→Int} (h:∀z:Int,0≤z→z < n→D z=D' z∧P z=P' z):nj n D P=nj n D' P':=by
 unfold nj
 rw [List.map_congr_left (f:=D) (g:=D') fun z hz=>(h z (fD.1 hz).1 (fD.1 hz).2).1,List.map_congr_left (f:=P) (g:=P') fun z hz=>(h z (fD.1 hz).1 (fD.1 hz).2).2]
open Classical in
noncomputable def nk (f:aY):Int×Int:=if h:∃q:(Int→Int)×(Int→Int),kv f q.1 q.2 then nj f.Glyphs.length h.choose.1 h.choose.2 else (33,0)
theorem qL {f:aY} (hf:wD f) (ha:lq f.Glyphs.length (prt f)) {D P:Int→Int} (h:kv f D P):nk f=nj f.Glyphs.length D P:=by
 unfold nk
 have hex:∃q:(Int→Int)×(Int→Int),kv f q.1 q.2:=⟨(D,P),h⟩
 rw [dif_pos hex]
 exact xb (Aj hf ha hex.choose_spec h)
theorem Fn (f:aY) (hf:wD f) (ha:lq f.Glyphs.length (prt f)):AC Tryz.prog 55 [.iptr (cG f)] [] fun c _=>c=cu ((nk f).1,(nk f).2):=by
 refine aS Tryz.func55 rfl Tryz.ntmps55 rfl fun B=>?_
 refine W01 ?_
 refine b9 [] [] (vr f hf (.inl ha)) rfl rfl (Lm _) rfl fun c L1 hc=>?_
 rcases hc with ⟨D,P,h1,h2,hc⟩ | ⟨hna,_⟩
 ·rw [←qL hf ha h1] at hc
  subst hc
  unfold cu
  refine W0c ?_
  exact aZ rfl rfl rfl rfl
 ·exact absurd ha hna
def yS (_:Nat) (l:List gx):Int:=nV l
def oV (f:aY) (_:Nat) (r:List fq):Int:=Bj f.Axes.length r
def jw (f:aY) (_:Nat) (l:aO):Int:=mj f l
noncomputable def Dc (f:aY):List (Int×Int):=[(pk f,0),cr 400 f.Glyphs (eB f),nk f,cr 1000 f.Chars (ju f),cr 40 f.Lookups (jw f),cr 20 f.Features (kK f),cr 3 f.Axes (kA f),cr 16 f.Regions (oV f),cr 20 f.Funcs yS,cr 64 f.Cvt CQ]
noncomputable def nu (f:aY):Int×Int:=gX (Dc f)
noncomputable def yQ (f:aY) (m1 m2 m3:Nat):List Lk:=[⟨48,[.iptr (cG f)],[],pk f,0⟩,
 ⟨112,[.iptr [.imm 9 (f.Glyphs.map bI)],.iptr [aI 400],.iptr [.fn 51 [.iptr (cG f),.iptr [.sc (.map (some m1))]]]],[(m1,cR .string (cQ (kQ f)))],(cr 400 f.Glyphs (eB f)).1,(cr 400 f.Glyphs (eB f)).2⟩,
 ⟨55,[.iptr (cG f)],[],(nk f).1,(nk f).2⟩,
 ⟨132,[.iptr [.imm 2 (f.Chars.map ep)],.iptr [aI 1000],.iptr [.fn 58 [.iptr (cG f)]]],[],(cr 1000 f.Chars (ju f)).1,(cr 1000 f.Chars (ju f)).2⟩,
 ⟨134,[.iptr [.imm 3 (f.Lookups.map bJ)],.iptr [aI 40],.iptr [.fn 61 [.iptr (cG f)]]],[],(cr 40 f.Lookups (jw f)).1,(cr 40 f.Lookups (jw f)).2⟩,
 ⟨142,[.iptr [.imm 2 (f.Features.map cj)],.iptr [aI 20],.iptr [.fn 64 [.iptr (cG f),.iptr [.sc (.map (some m2))]]]],[(m2,cR .string (cQ (lX f)))],(cr 20 f.Features (kK f)).1,(cr 20 f.Features (kK f)).2⟩,
 ⟨145,[.iptr [.imm 4 (f.Axes.map cM)],.iptr [aI 3],.iptr [.fn 68 [.iptr [.sc (.map (some m3))]]]],[(m3,cR .string (cQ (iT f)))],(cr 3 f.Axes (kA f)).1,(cr 3 f.Axes (kA f)).2⟩,
 ⟨147,[.iptr [.imm 1 (f.Regions.map bN)],.iptr [aI 16],.iptr [.fn 71 [.iptr (cG f)]]],[],(cr 16 f.Regions (oV f)).1,(cr 16 f.Regions (oV f)).2⟩,
 ⟨151,[.iptr [.imm 1 (f.Funcs.map dG)],.iptr [aI 20],.iptr [.sc (.func (.func 74) #[] #[])]],[],(cr 20 f.Funcs yS).1,(cr 20 f.Funcs yS).2⟩,
 ⟨155,[.iptr [.imm 1 (f.Cvt.map A5)],.iptr [aI 64],.iptr [.sc (.func (.func 77) #[] #[])]],[],(cr 64 f.Cvt CQ).1,(cr 64 f.Cvt CQ).2⟩]
theorem xl (f:aY) (m1 m2 m3:Nat) (hA:(cr 400 f.Glyphs (eB f)).1=0→lq f.Glyphs.length (prt f)):xC (yQ f m1 m2 m3):=by
 refine ⟨⟨inferInstance,AA f⟩,fun _=>⟨⟨inferInstance,?_⟩,fun h1=>⟨⟨inferInstance,Fn f (jD h1) (hA h1)⟩,fun _=>⟨⟨inferInstance,?_⟩,fun _=>⟨⟨inferInstance,?_⟩,fun _=>⟨⟨inferInstance,?_⟩,fun _=>⟨⟨inferInstance,?_⟩,fun _=>⟨⟨inferInstance,?_⟩,fun _=>⟨⟨inferInstance,?_⟩,fun _=>⟨⟨inferInstance,?_⟩,fun _=>trivial⟩⟩⟩⟩⟩⟩⟩⟩⟩⟩
 ·exact Gp (u:= .fn 51 [.iptr (cG f),.iptr [.sc (.map (some m1))]]) rfl f.Glyphs 400 (gm f.Glyphs (eB f)) (fun _ L=>L=[(m1,cR .string (cQ (kQ f)))]) _ rfl fun _=>s4 fun i x _=>xr f i x m1
 ·exact Gq (u:= .fn 58 [.iptr (cG f)]) rfl f.Chars 1000 (gm f.Chars (ju f)) (fun _ _=>True) [] trivial fun hm=>du fun i x hx=>A8 f i x hx hm
 ·exact Gr (u:= .fn 61 [.iptr (cG f)]) rfl f.Lookups 40 (gm f.Lookups (jw f)) (fun _ _=>True) [] trivial fun _=>du fun i x _=>tY f i x
 ·exact Gt (u:= .fn 64 [.iptr (cG f),.iptr [.sc (.map (some m2))]]) rfl f.Features 20 (gm f.Features (kK f)) (fun _ L=>L=[(m2,cR .string (cQ (lX f)))]) _ rfl fun _=>s4 fun i x _=>Aq f i x m2
 ·exact Gu (u:= .fn 68 [.iptr [.sc (.map (some m3))]]) rfl f.Axes 3 (gm f.Axes (kA f)) (fun _ L=>L=[(m3,cR .string (cQ (iT f)))]) _ rfl fun _=>s4 fun i x _=>zU f i x m3
 ·exact Gv (u:= .fn 71 [.iptr (cG f)]) rfl f.Regions 16 (gm f.Regions (oV f)) (fun _ _=>True) [] trivial fun _=>du fun i x _=>wi f i x
 ·exact Gw (u:= .sc (.func (.func 74) #[] #[])) (g:=74) (caps:=[]) rfl f.Funcs 20 (gm f.Funcs yS) (fun _ _=>True) [] trivial fun _=>du fun i x _=>A9 i x
 ·exact Gx (u:= .sc (.func (.func 77) #[] #[])) (g:=77) (caps:=[]) rfl f.Cvt 64 (gm f.Cvt CQ) (fun _ _=>True) [] trivial fun _=>du fun i x _=>CO i x
set_option maxHeartbeats 4000000 in
theorem FR (f:aY) (hA:(cr 400 f.Glyphs (eB f)).1=0→lq f.Glyphs.length (prt f)):AC Tryz.prog 25 [d7 f] [] fun c _=>c=cu (nu f):=by
 refine aS Tryz.func25 rfl Tryz.ntmps25 rfl fun B=>?_
 refine W0b ?_
 refine b9 [] _ (D7 f.Glyphs) rfl rfl (Lm _) rfl fun c L1 ⟨m1,hc,hL⟩=>?_
 subst hc;subst hL
 refine W0T ?_
 intros
 refine b9 [] _ (D8 f.Features) rfl rfl (Lm _) rfl fun c L1 ⟨m2,hc,hL⟩=>?_
 subst hc;subst hL
 refine W0T ?_
 intros
 refine b9 [] _ (D9 f.Axes) rfl rfl (Lm _) rfl fun c L1 ⟨m3,hc,hL⟩=>?_
 subst hc;subst hL
 repeat' (first|refine a9 ?_|refine a6 ?_|refine a7 ?_|(apply aM;first|refine LI 4 a5 0 LF ?_|refine LI 4 a5 1 LF ?_|refine LI 4 a5 2 LF ?_|refine LI 5 a5 0 LF ?_|refine LI 5 a5 1 LF ?_|refine LI 5 a5 2 LF ?_|refine LI 6 a5 0 LF ?_|refine LI 6 a5 1 LF ?_|refine LI 6 a5 2 LF ?_|refine LH a5 0 LE ?_|refine LH a5 1 LE ?_|refine LH a5 2 LE ?_|refine LH a5 3 LE ?_|fail)|refine bf a5 fun _=>?_|fail)
 refine bz 36 [(0,.v),(1,.v),(2,.v),(3,.v),(4,.v),(5,.v),(6,.v),(7,.v),(8,.v),(9,.v),(10,.v),(11,.v),(12,.v),(13,.v),(14,.v),(15,.v),(16,.v),(17,.v),(18,.v),(19,.v),(20,.v),(21,.v),(22,.v),(23,.v),(24,.v),(25,.v),(26,.v),(27,.v),(28,.v),(29,.v),(30,.v),(31,.v),(32,.v),(33,.e),(34,.v),(35,.v)] none ?_ trivial rfl (by kernel_rfl) (by kernel_rfl) (by kernel_rfl) bX (by kernel_rfl) rfl
 refine W0W ?_
 refine eT (hc:=⟨I6 f.Cvt 64⟩) ?_
 refine W1e ?_
 refine kG (L:=[(m3,cR .string (cQ (iT f))),(m2,cR .string (cQ (lX f))),(m1,cR .string (cQ (kQ f)))]) _ [] (jN (yQ f m1 m2 m3) (xl f m1 m2 m3 hA)) rfl rfl (by rw [List.append_nil];exact (List.reverse_perm _).symm) trivial fun c L1 hc=>?_
 rw [kT] at hc
 have hc:c=cu (nu f):=hc
 subst hc
 unfold cu
 refine W0a ?_
 refine LQ [50,51] KZ ?_
 refine W0c ?_
 exact aZ rfl rfl rfl rfl
end Go.Proofs.YtpmdfoaadejmkaaGreatDoor
namespace Go.Proofs.YtpmdfoaadejmkaaGreatDoor
open Go.RowKit
attribute [local irreducible] AT br AX AO Av Kt b7 dm DA cA
def Ji (c:UInt8) (m:Bool):bi:=⟨⟨#[c]⟩,0,m,[],[],[],[],[],[]⟩
def uq:List bi:=[Ji 97 false,Ji 98 false,Ji 99 false,Ji 100 false,Ji 109 true]
def fV (ls:List aO):aY:=⟨1000,uq,[],ls,[],[],[],[],[]⟩
def Ew:List aO:=[⟨3,false,[⟨[],[[0],[1]],[],[2],[],0⟩]⟩,⟨1,false,[⟨[],[[2]],[],[3],[],0⟩]⟩]
theorem rD (ls:List aO):lq (fV ls).Glyphs.length (prt (fV ls)):=by
 refine ⟨fun _=>0,fun g h0 h1 p hp=>?_⟩
 exfalso
 have hg:g.toNat < 5:=by have:g < 5:=h1;omega
 unfold prt at hp
 obtain ⟨x,hx⟩:∃x,(fV ls).Glyphs[g.toNat]?=some x:=⟨_,Iy hg⟩
 have hm:x.Parts=[]:=by
  have:∀y∈uq,y.Parts=[]:=by decide+kernel
  exact this x (Lw hx)
 rw [hx] at hp
 dsimp only at hp
 rw [hm] at hp
 simp at hp
theorem pz (ls:List aO):(cr 400 uq (eB (fV ls))).1=0:=by
 have h0:(cr 400 uq (eB (fV []))).1=0:=by decide
 exact h0
theorem Bd (ls:List aO):kv (fV ls) (fun _=>0) (fun _=>0):=by
 intro z h0 h1 gl hgl
 have h1:z < 5:=h1
 have:z=0∨z=1∨z=2∨z=3∨z=4:=by omega
 rcases this with rfl | rfl | rfl | rfl | rfl <;> (injection hgl with e;subst e;exact ⟨by decide,by decide⟩)
theorem wd {ls:List aO} (h:(cr 40 ls (jw (fV ls))).1=0):(nu (fV ls)).1=0:=by
 refine dM.2 fun x hx=>?_
 have hc:(nk (fV ls)).1=0:=by
  rw [qL (jD (pz ls)) (rD ls) (Bd ls)]
  show (nj 5 (fun _=>0) (fun _=>0)).1=0
  decide
 simp only [Dc,List.mem_cons,List.not_mem_nil,or_false] at hx
 rcases hx with rfl | rfl | rfl | rfl | rfl | rfl | rfl | rfl | rfl | rfl
 ·rfl
 ·exact pz ls
 ·exact hc
 ·rfl
 ·exact h
 ·rfl
 ·rfl
 ·rfl
 ·rfl
 ·rfl
def DC (ls:List aO):Bool:=decide ((cr 40 ls (jw (fV ls))).1=0)
theorem lP:∀(l:List Int) (i:Nat) (g:Int),fM i (l++[g])=fM i l++[⟨g,(i+l.length:Nat),0,0,0,0⟩]
 | [],i,g=>rfl
 | x::l,i,g=>by
  rw [Lr,fM,lP l (i+1) g,fM,Lr,List.length_cons,show i+1+l.length=i+(l.length+1) by omega]
theorem mz:∀(l:List Int) (i:Nat),(fM i l).length=l.length
 | [],_=>rfl
 | x::l,i=>by rw [fM,List.length_cons,mz l,List.length_cons]
theorem AH (l:List Int) (hl:l.length≤1000000):c5 Tryz.prog 29 [.imm 1 (aQ l)] (.imm 6 ((fk l).map bS)):=by
 refine aS Tryz.func29 rfl Tryz.ntmps29 rfl fun B=>?_
 have hil:=aX l
 repeat' (first|refine a9 ?_|refine a4 ?_|refine ai ?_|refine a6 ?_|refine a7 ?_|refine LG a5 KZ ?_|refine nP (d:=5) a5 fun _=>?_|fail)
 refine aN [0] (α:=Nat×Option (Nat×Nat)) (fun s=>[(4,aI s.1),(3,.vec s.2 6 ((fk (l.take s.1)).map bS))]) (fun s=>s.1≤l.length) (fun s=>tok s.2 67 6 s.1) (fun s=>l.length - s.1) (0,some (_,0)) rfl ⟨rfl,rfl,trivial⟩ (Nat.zero_le _) (fun _ _ h=>h) ?_
 rintro ⟨i,q⟩ hi
 dsimp only at hi ⊢
 try dsimp only [Lr,Lq,Lp,Li]
 refine W01 ?_
 refine ar rfl (fun h1=>?_) (fun h1=>?_)
 ·have hi2:i < l.length:=by have:=Lz h1;omega
  obtain ⟨g,hg⟩:∃z,l[i]?=some z:=⟨_,Iy hi2⟩
  have hgg:=bW hg
  have hml:((fk (l.take i)).map bS).length=i:=by unfold fk;rw [Lu,mz,List.length_take];omega
  have hsn:(fk (l.take i)).map bS++[bS ⟨g,(i:Nat),0,0,0,0⟩]=(fk (l.take (i+1))).map bS:=by
   rw [List.take_add_one,hg]
   unfold fk
   show _=(fM 0 (l.take i++[g])).map bS
   rw [lP,List.map_append,List.length_take,Nat.min_eq_left (by omega),Nat.zero_add]
   rfl
  generalize (fk (l.take i)).map bS=A0 at *
  clear h1
  repeat' (first|refine a9 ?_|refine a4 ?_|refine ai ?_|refine aj ?_|refine a6 ?_|refine LG a5 KZ ?_|(apply aL;first|refine aJ a5 ?_|refine aF a5 ?_)|refine bQ a5 ?_|fail)
  refine bE a5 [] rfl rfl rfl rfl (by rw [hml,List.append_nil]) (by rw [hml];simp;omega) (by rw [hml];simp;omega) rfl fun q'=>?_
  refine W05 ?_
  refine aC (i+1,q') rfl ⟨by rw [Lv];rfl,by dsimp only;rw [←hsn];rfl,trivial⟩ hi2 (by dsimp only;omega) (fun _ _ h=>?_)
  rw [List.length_append,hml,List.append_nil] at h
  exact h
 ·have hi2:i=l.length:=by have:=Ly h1;omega
  subst hi2
  rw [List.take_length]
  clear h1
  refine W02 ?_
  refine bc (bA (t:=2) (c':= .imm 6 ((fk l).map bS)) rfl fun σ v h=>VR.im h) ?_
  refine dc (List.nil_sublist _) ?_
  exact LN LA
theorem xu (run:List aR) (l:List Int) (hl:l.length≤1000000):c5 Tryz.prog 30 [.imm 6 (run.map bS),.imm 1 (aQ l)] (eo (decide (run.map aR.Glyph=l))):=by
 refine aS Tryz.func30 rfl Tryz.ntmps30 rfl fun B=>?_
 have hil:=aX l
 have hrl:(run.map bS).length=run.length:=Lu ..
 refine W01 ?_
 refine ar rfl (fun h1=>?_) (fun h1=>?_)
 ·have hne:¬run.length=l.length:=by have:=Lz h1;omega
  rw [decide_eq_false (fun e=>hne (by rw [←e,Lu]))]
  refine W07 ?_
  exact LN LA
 ·have heq:run.length=l.length:=by have:=Ly h1;omega
  clear h1
  refine W0x ?_
  refine aN [0,1] (α:=Nat) (fun i=>[(5,aI i)]) (fun i=>i≤l.length∧(run.map aR.Glyph).take i=l.take i) (fun _=>[]) (fun i=>l.length - i) 0 rfl ⟨rfl,trivial⟩ ⟨Nat.zero_le _,rfl⟩ (fun _ _ h=>h) ?_
  rintro i ⟨hi,hti⟩
  try dsimp only [Lr,Lq,Lp,Li]
  refine W01 ?_
  refine ar rfl (fun h1=>?_) (fun h1=>?_)
  ·have hi2:i < l.length:=by have:=Lz h1;omega
   obtain ⟨g,hg⟩:∃z,l[i]?=some z:=⟨_,Iy hi2⟩
   obtain ⟨x,hx⟩:∃z,run[i]?=some z:=⟨_,Iy (by omega)⟩
   have hgg:=bW hg
   have hxg:(run.map bS)[i]?=some (bS x):=by simp [hx]
   have hmg:(run.map aR.Glyph)[i]?=some x.Glyph:=by simp [hx]
   clear h1
   refine W0K ?_
   refine bz 9 [(0,.v),(1,.v),(2,.v),(3,.v),(4,.v),(5,.v),(6,.v),(7,.v),(8,.v)] none ?_ trivial rfl (by kernel_rfl) (by kernel_rfl) (by kernel_rfl) bX (by kernel_rfl) rfl
   refine W18 ?_
   refine LQ [0,1,5,21,25] KZ ?_
   refine W0r ?_
   refine ar rfl (fun h1=>?_) (fun h1=>?_)
   ·have hne:x.Glyph≠g:=Lz h1
    rw [decide_eq_false (fun e=>hne (by rw [e,hg] at hmg;cases hmg;rfl))]
    refine W09 ?_
    exact LN LA
   ·have heg:x.Glyph=g:=by have h1':¬x.Glyph≠g:=Ly h1;exact Classical.not_not.1 h1'
    refine W06 ?_
    exact aC (i+1) rfl ⟨by rw [Lv];rfl,trivial⟩ ⟨hi2,by rw [List.take_add_one,List.take_add_one,hti,hg,hmg,heg]⟩ (by omega) (fun _ _ h=>h)
  ·have hi2:i=l.length:=by have:=Ly h1;omega
   subst hi2
   rw [List.take_length,List.take_of_length_le (by rw [Lu];omega)] at hti
   rw [decide_eq_true hti]
   refine W02 ?_
   exact LN LA
theorem sP {f:aY} (hr:(nu f).1=0) (ha:lq f.Glyphs.length (prt f)):AC Tryz.prog 25 [d7 f] [] fun c _=>∃n:Int,c=cu (0,n):=
 AC.mono (FR f fun _=>ha) fun c L hc=>⟨(nu f).2,by rw [hc,←hr]⟩
def Eu (N:Nat) (s:List Int):Bool:=decide (s.Pairwise (· < ·)) && s.all fun g=>decide (0≤g) && decide (g < (N:Int))
def Ek (N:Nat) (r:b8):Bool:=r.Back.all (Eu N) && (r.In.all (Eu N) && (r.Ahead.all (Eu N) && (decide (r.Back.length≤200) && (decide (r.In.length+r.Ahead.length≤200) && (decide (r.Out.length≤1000000) && (decide (r.Calls.length≤1000000) && r.Calls.all fun c=>decide (0≤c.At) && decide (c.At≤1000000)))))))
def z4 (N:Nat) (l:aO):Bool:=decide (l.Rules.length≤6) && l.Rules.all (Ek N)
theorem uv {N:Nat} {s:List Int} (h:Eu N s=true):jI s∧∀g∈s,0≤g∧g < (N:Int):=by
 unfold Eu at h
 simp only [Bool.and_eq_true,decide_eq_true_eq,List.all_eq_true] at h
 exact h
structure C9 (N:Nat) (r:b8):Prop where
 b:uJ N r
 out:r.Out.length≤1000000
 calls:r.Calls.length≤1000000
 at_:∀c∈r.Calls,0≤c.At∧c.At≤1000000
theorem El {N:Nat} {r:b8} (h:Ek N r=true):C9 N r:=by
 unfold Ek at h
 simp only [Bool.and_eq_true,decide_eq_true_eq,List.all_eq_true] at h
 obtain ⟨h1,h2,h3,h4,h5,h6,h7,h8⟩:=h
 exact ⟨⟨fun s hs=>uv (h1 s hs),fun s hs=>uv (h2 s hs),fun s hs=>uv (h3 s hs),h4,h5⟩,h6,h7,h8⟩
structure ql (f:aY):Prop where
 glyphs:0 < f.Glyphs.length∧f.Glyphs.length≤65536
 lookups:f.Lookups.length≤1000000
 few:∀l∈f.Lookups,l.Rules.length≤6
 rule:∀l∈f.Lookups,∀r∈l.Rules,C9 f.Glyphs.length r
theorem ql.new {f:aY} (h:ql f):C6 f:=by
 refine ⟨h.glyphs,h.lookups,fun l hl=>⟨h.few l hl,fun r hr=>(h.rule l hl r hr).b⟩,fun l hl r hr=>?_⟩
 have hb:=h.rule l hl r hr
 have hg:=h.glyphs.2
 exact ⟨⟨by have:=hb.b.long;omega,fun s hs=>by have:=fF (gq (hb.b.in_ s hs).1) (hb.b.in_ s hs).2;omega⟩,hb.out,hb.calls⟩
theorem ql.eng {f:aY} (h:ql f) {E:n8} (hE:EX f E):mx E:=⟨hE.auto,fun e he r hr hin=>by
 have hl:e.l∈f.Lookups:=by rw [←hE.ls];exact List.mem_map.2 ⟨e,he,rfl⟩
 have hb:=h.rule e.l hl r hr
 exact ⟨hin,hb.out,hb.calls,hb.at_⟩⟩
theorem Ih {f:aY} (h:ql f) (hr:(nu f).1=0) (ha:lq f.Glyphs.length (prt f)):AC Tryz.prog 15 [d7 f] [] fun c _=>∃E,mx E∧E.ls=f.Lookups∧E.ms=f.Glyphs.map bi.Mark∧c= .tup [.iptr (eh E),aI 0]:=
 AC.mono (Ig f h.new (sP hr ha)) fun c L ⟨E,hE,hc⟩=>⟨E,h.eng hE,hE.ls,hE.ms,hc⟩
theorem Il {ls:List aO} (h:ls.all (z4 5)=true) (hl:ls.length≤1000000):ql (fV ls):=by
 rw [List.all_eq_true] at h
 have hh:∀l∈ls,l.Rules.length≤6∧∀r∈l.Rules,C9 5 r:=fun l hl=>by
  have:=h l hl
  unfold z4 at this
  simp only [Bool.and_eq_true,decide_eq_true_eq,List.all_eq_true] at this
  exact ⟨this.1,fun r hr=>El (this.2 r hr)⟩
 exact ⟨⟨Nat.succ_pos _,by show (5:Nat)≤65536;omega⟩,hl,fun l hl=>(hh l hl).1,fun l hl=>(hh l hl).2⟩
theorem Bg {ls:List aO} (h:ls.all (z4 5)=true) (hl:ls.length≤1000000) (hr:(nu (fV ls)).1=0):AC Tryz.prog 15 [d7 (fV ls)] [] fun c _=>∃E,mx E∧E.ls=ls∧E.ms=kW∧c= .tup [.iptr (eh E),aI 0]:=
 AC.mono (Ih (Il h hl) hr (rD ls)) fun c L ⟨E,h1,h2,h3,h4⟩=>⟨E,h1,h2,h3,h4⟩
theorem Be (ls:List aO):c5 Tryz.prog 28 [.imm 3 (ls.map bJ)] (d7 (fV ls)):=by
 refine aS Tryz.func28 rfl Tryz.ntmps28 rfl fun B=>?_
 repeat' (first|refine a9 ?_|refine a4 ?_|refine am ?_|refine a6 ?_|refine a7 ?_|refine LG a5 KZ ?_|(apply aM;first|refine LH a5 0 LE ?_|refine LH a5 1 LE ?_|refine LH a5 2 LE ?_|refine LH a5 3 LE ?_|fail)|refine bf a5 fun _=>?_|refine bQ a5 ?_|fail)
 refine bc (bC 0 (cs':=cG (fV ls)) rfl fun σ vs h=>iS.vrs ?_ h) (Fh a5 0 rfl rfl rfl rfl rfl rfl)
 repeat' first | exact c6.refl _ | exact c6.nil _ | exact True.intro | refine c6.agg ?_ | refine c6.imm ?_ | refine And.intro ?_ ?_
end Go.Proofs.YtpmdfoaadejmkaaGreatDoor
