/-
  The program: check.Font.
-/
import Derived.Test.YtjjpkibjffmceaaGreatM17
namespace Go.Proofs.YtjjpkibjffmceaaGreat
open Go.RowKit
attribute [local irreducible] AT cg AX AO Av Kt bJ eC DA du
theorem kF {err:Nat→Int}:∀(k i:Nat),(ek err k i).1=0↔∀j,i≤j→j < i+k→err j=0
 | 0,i=>by simp only [ek,true_iff];intro j h1 h2;omega
 | k+1,i=>by
  simp only [ek]
  by_cases h:err i=0
  ·rw [if_pos h,kF k (i+1)]
   constructor
   ·intro hh j h1 h2
    by_cases e:j=i
    ·subst e;exact h
    ·exact hh j (by omega) (by omega)
   ·intro hh j h1 h2;exact hh j (by omega) (by omega)
  ·rw [if_neg h]
   constructor
   ·intro hh;exact absurd hh h
   ·intro hh;exact hh i (Nat.le_refl _) (by omega)
theorem iV {α:Type} {l:List α} {w:Nat→α→Int}:(dM l w).1=0↔∀i x,l[i]?=some x→w i x=0:=by
 unfold dM eg
 rw [kF]
 constructor
 ·intro h i x hx
  have:=h i (Nat.zero_le _) (by have:=(Jo hx).1;omega)
  rwa [iM hx] at this
 ·intro h j _ hj
  obtain ⟨x,hx⟩:∃x,l[j]?=some x:=⟨_,Jz (by omega)⟩
  rw [iM hx]
  exact h j x hx
theorem gN {α:Type} {most:Int} {l:List α} {w:Nat→α→Int}:(dq most l w).1=0↔(l.length:Int)≤most∧∀i x,l[i]?=some x→w i x=0:=by
 have h:=iV (l:=l) (w:=w)
 unfold dM at h
 unfold dq dY
 by_cases hm:(l.length:Int) > most
 ·rw [if_pos hm]
  constructor
  ·intro hh;cases hh
  ·intro hh;omega
 ·rw [if_neg hm,h]
  exact ⟨fun hh=>⟨by omega,hh⟩,fun hh=>hh.2⟩
theorem dX:∀{l:List (Int×Int)},(gX l).1=0↔∀x∈l,x.1=0
 | []=>by simp [gX]
 | x::r=>by
  unfold gX
  by_cases h:x.1=0
  ·rw [if_pos h,dX]
   constructor
   ·intro hh y hy
    rcases List.mem_cons.1 hy with rfl | hy
    ·exact h
    ·exact hh y hy
   ·intro hh y hy;exact hh y (Js _ hy)
  ·rw [if_neg h]
   constructor
   ·intro hh;exact absurd hh h
   ·intro hh;exact hh x (List.mem_cons_self ..)
theorem i9 {f:aL} (h:(dq 400 f.Glyphs (eS f)).1=0):tq f:=by
 obtain ⟨h1,h2⟩:=gN.1 h
 have hg:∀gl∈f.Glyphs,∃name,pX f gl name=0:=fun gl hgl=>by
  obtain ⟨i,hi⟩:=List.mem_iff_getElem?.1 hgl
  exact ⟨_,h2 i gl hi⟩
 have hgl:∀gl∈f.Glyphs,ky gl=0∧(dq 8 gl.Parts (oQ f)).1=0:=fun gl hm=>by
  obtain ⟨name,hn⟩:=hg gl hm
  unfold pX at hn
  rw [dX] at hn
  exact ⟨hn (ky gl,0) (by simp),hn (dq 8 gl.Parts (oQ f)) (by simp)⟩
 refine ⟨⟨by omega,fun gl hm=>?_⟩,fun gl hm=>?_,fun gl hm p hp=>?_⟩
 ·have:=(gN.1 (hgl gl hm).2).1;omega
 ·have h3:=(hgl gl hm).1
  unfold ky at h3
  split at h3
  ·cases h3
  ·split at h3
   ·cases h3
   ·omega
 ·obtain ⟨i,hi⟩:=List.mem_iff_getElem?.1 hp
  have h3:=(gN.1 (hgl gl hm).2).2 i p hi
  unfold oQ at h3
  split at h3
  ·cases h3
  ·rename_i hh
   simpa using hh
theorem yH {f:aL} (hf:tq f) (ha:jx f.Glyphs.length (prt f)) {D P D' P':Int→Int} (h:jX f D P) (h':jX f D' P'):∀z:Int,0≤z→z < f.Glyphs.length→D z=D' z∧P z=P' z:=by
 obtain ⟨r,hr⟩:=ha
 have:∀(k:Nat) (z:Int),r z < k→0≤z→z < f.Glyphs.length→D z=D' z∧P z=P' z:=by
  intro k
  induction k with
  | zero=>intro z hk;exact absurd hk (Nat.not_lt_zero _)
  | succ k ih=>
   intro z hk h0 h1
   obtain ⟨gl,hgl⟩:∃g,f.Glyphs[z.toNat]?=some g:=⟨_,Jz (by omega)⟩
   have hsm:∀p∈gl.Parts,D p.Glyph=D' p.Glyph∧P p.Glyph=P' p.Glyph:=fun p hp=>by
    have hin:=ly.1 (hf.there gl (Jw hgl) p hp)
    have:=hr z h0 h1 p.Glyph (by rw [sS hf hgl];exact List.mem_map_of_mem hp)
    exact ih p.Glyph (by omega) hin.1 hin.2
   obtain ⟨h2,h3⟩:=h z h0 h1 gl hgl
   obtain ⟨h4,h5⟩:=h' z h0 h1 gl hgl
   rw [h2,h3,h4,h5]
   exact ⟨tW fun p hp=>(hsm p hp).1,uL fun p hp=>(hsm p hp).2⟩
 intro z h0 h1
 exact this (r z+1) z (by omega) h0 h1
theorem vE {n:Nat} {D P D' P':Int→Int} (h:∀z:Int,0≤z→z < n→D z=D' z∧P z=P' z):pJ n D P=pJ n D' P':=by
 unfold pJ
 rw [List.map_congr_left (f:=D) (g:=D') fun z hz=>(h z (fa.1 hz).1 (fa.1 hz).2).1,List.map_congr_left (f:=P) (g:=P') fun z hz=>(h z (fa.1 hz).1 (fa.1 hz).2).2]
open Classical in
noncomputable def jB (f:aL):Int×Int:=if h:∃q:(Int→Int)×(Int→Int),jX f q.1 q.2 then pJ f.Glyphs.length h.choose.1 h.choose.2 else (33,0)
theorem pK {f:aL} (hf:tq f) (ha:jx f.Glyphs.length (prt f)) {D P:Int→Int} (h:jX f D P):jB f=pJ f.Glyphs.length D P:=by
 unfold jB
 have hex:∃q:(Int→Int)×(Int→Int),jX f q.1 q.2:=⟨(D,P),h⟩
 rw [dif_pos hex]
 exact vE (yH hf ha hex.choose_spec h)
theorem Dq (f:aL) (hf:tq f) (ha:jx f.Glyphs.length (prt f)):AC Tryz.prog 121 [.iptr (ci f)] [] fun c _=>c=cE ((jB f).1,(jB f).2):=by
 refine aX Tryz.func121 rfl Tryz.ntmps121 rfl fun B=>?_
 repeat' (first|refine go ?_|refine IG a6 EV ?_)
 refine bn [] [] (oD f hf (.inl ha)) rfl rfl (Jn _) rfl fun c L1 hc=>?_
 rcases hc with ⟨D,P,h1,h2,hc⟩ | ⟨hna,_⟩
 ·rw [←pK hf ha h1] at hc
  subst hc
  unfold cE
  repeat' (first|refine go ?_|refine IG a6 EV ?_)
  exact bk rfl rfl rfl rfl
 ·exact absurd ha hna
def xt (_:Nat) (l:List ep):Int:=qp l
def sT (f:aL) (_:Nat) (r:List eo):Int:=Ck f.Axes.length r
def n9 (f:aL) (_:Nat) (l:bj):Int:=kr f l
noncomputable def xr (f:aL):List (Int×Int):=[(oH f,0),dq 400 f.Glyphs (eS f),jB f,dq 1000 f.Chars (k9 f),dq 40 f.Lookups (n9 f),dq 20 f.Features (mX f),dq 3 f.Axes (mR f),dq 16 f.Regions (sT f),dq 20 f.Funcs xt,dq 64 f.Cvt B8]
noncomputable def ii (f:aL):Int×Int:=gX (xr f)
noncomputable def pi (f:aL) (m1 m2 m3:Nat):List Lk:=[⟨114,[.iptr (ci f)],[],oH f,0⟩,
 ⟨157,[.iptr [.imm 9 (f.Glyphs.map bh)],.iptr [aP 400],.iptr [.fn 117 [.iptr (ci f),.iptr [.sc (.map (some m1))]]]],[(m1,cn .string (cY (kY f)))],(dq 400 f.Glyphs (eS f)).1,(dq 400 f.Glyphs (eS f)).2⟩,
 ⟨121,[.iptr (ci f)],[],(jB f).1,(jB f).2⟩,
 ⟨177,[.iptr [.imm 2 (f.Chars.map cm)],.iptr [aP 1000],.iptr [.fn 124 [.iptr (ci f)]]],[],(dq 1000 f.Chars (k9 f)).1,(dq 1000 f.Chars (k9 f)).2⟩,
 ⟨179,[.iptr [.imm 3 (f.Lookups.map bi)],.iptr [aP 40],.iptr [.fn 127 [.iptr (ci f)]]],[],(dq 40 f.Lookups (n9 f)).1,(dq 40 f.Lookups (n9 f)).2⟩,
 ⟨187,[.iptr [.imm 2 (f.Features.map bv)],.iptr [aP 20],.iptr [.fn 130 [.iptr (ci f),.iptr [.sc (.map (some m2))]]]],[(m2,cn .string (cY (mB f)))],(dq 20 f.Features (mX f)).1,(dq 20 f.Features (mX f)).2⟩,
 ⟨190,[.iptr [.imm 4 (f.Axes.map cC)],.iptr [aP 3],.iptr [.fn 134 [.iptr [.sc (.map (some m3))]]]],[(m3,cn .string (cY (lW f)))],(dq 3 f.Axes (mR f)).1,(dq 3 f.Axes (mR f)).2⟩,
 ⟨192,[.iptr [.imm 1 (f.Regions.map bI)],.iptr [aP 16],.iptr [.fn 137 [.iptr (ci f)]]],[],(dq 16 f.Regions (sT f)).1,(dq 16 f.Regions (sT f)).2⟩,
 ⟨196,[.iptr [.imm 1 (f.Funcs.map cL)],.iptr [aP 20],.iptr [.sc (.func (.func 140) #[] #[])]],[],(dq 20 f.Funcs xt).1,(dq 20 f.Funcs xt).2⟩,
 ⟨200,[.iptr [.imm 1 (f.Cvt.map gO)],.iptr [aP 64],.iptr [.sc (.func (.func 143) #[] #[])]],[],(dq 64 f.Cvt B8).1,(dq 64 f.Cvt B8).2⟩]
theorem pU (f:aL) (m1 m2 m3:Nat) (hA:(dq 400 f.Glyphs (eS f)).1=0→jx f.Glyphs.length (prt f)):ux (pi f m1 m2 m3):=by
 refine ⟨⟨inferInstance,rC f⟩,fun _=>⟨⟨inferInstance,?_⟩,fun h1=>⟨⟨inferInstance,Dq f (i9 h1) (hA h1)⟩,fun _=>⟨⟨inferInstance,?_⟩,fun _=>⟨⟨inferInstance,?_⟩,fun _=>⟨⟨inferInstance,?_⟩,fun _=>⟨⟨inferInstance,?_⟩,fun _=>⟨⟨inferInstance,?_⟩,fun _=>⟨⟨inferInstance,?_⟩,fun _=>⟨⟨inferInstance,?_⟩,fun _=>trivial⟩⟩⟩⟩⟩⟩⟩⟩⟩⟩
 ·exact xZ (u:= .fn 117 [.iptr (ci f),.iptr [.sc (.map (some m1))]]) rfl f.Glyphs 400 (gH f.Glyphs (eS f)) (fun _ L=>L=[(m1,cn .string (cY (kY f)))]) _ rfl fun _=>nC fun i x _=>pW f i x m1
 ·exact EA (u:= .fn 124 [.iptr (ci f)]) rfl f.Chars 1000 (gH f.Chars (k9 f)) (fun _ _=>True) [] trivial fun hm=>dV fun i x hx=>yu f i x hx hm
 ·exact EB (u:= .fn 127 [.iptr (ci f)]) rfl f.Lookups 40 (gH f.Lookups (n9 f)) (fun _ _=>True) [] trivial fun _=>dV fun i x _=>sE f i x
 ·exact EC (u:= .fn 130 [.iptr (ci f),.iptr [.sc (.map (some m2))]]) rfl f.Features 20 (gH f.Features (mX f)) (fun _ L=>L=[(m2,cn .string (cY (mB f)))]) _ rfl fun _=>nC fun i x _=>yP f i x m2
 ·exact ED (u:= .fn 134 [.iptr [.sc (.map (some m3))]]) rfl f.Axes 3 (gH f.Axes (mR f)) (fun _ L=>L=[(m3,cn .string (cY (lW f)))]) _ rfl fun _=>nC fun i x _=>yn f i x m3
 ·exact EE (u:= .fn 137 [.iptr (ci f)]) rfl f.Regions 16 (gH f.Regions (sT f)) (fun _ _=>True) [] trivial fun _=>dV fun i x _=>uS f i x
 ·exact EF (u:= .sc (.func (.func 140) #[] #[])) (g:=140) (caps:=[]) rfl f.Funcs 20 (gH f.Funcs xt) (fun _ _=>True) [] trivial fun _=>dV fun i x _=>yw i x
 ·exact EG (u:= .sc (.func (.func 143) #[] #[])) (g:=143) (caps:=[]) rfl f.Cvt 64 (gH f.Cvt B8) (fun _ _=>True) [] trivial fun _=>dV fun i x _=>B6 i x
set_option maxHeartbeats 4000000 in
theorem DZ (f:aL) (hA:(dq 400 f.Glyphs (eS f)).1=0→jx f.Glyphs.length (prt f)):AC Tryz.prog 82 [cr f] [] fun c _=>c=cE (ii f):=by
 refine aX Tryz.func82 rfl Tryz.ntmps82 rfl fun B=>?_
 repeat' (first|refine go ?_|refine IG a6 EV ?_|refine bD ?_|fail)
 refine bn [] _ (uc f.Glyphs) rfl rfl (Jn _) rfl fun c L1 ⟨m1,hc,hL⟩=>?_
 subst hc;subst hL
 repeat' (first|refine go ?_|refine IG a6 EV ?_|(apply aJ;first|refine II 4 a6 0 IF ?_|refine II 4 a6 1 IF ?_|refine II 4 a6 2 IF ?_|refine II 5 a6 0 IF ?_|refine II 5 a6 1 IF ?_|refine II 5 a6 2 IF ?_|refine II 6 a6 0 IF ?_|refine II 6 a6 1 IF ?_|refine II 6 a6 2 IF ?_|refine IH a6 0 IE ?_|refine IH a6 1 IE ?_|refine IH a6 2 IE ?_|refine IH a6 3 IE ?_|fail)|refine bc a6 fun _=>?_|fail)
 refine bn [] _ (ud f.Features) rfl rfl (Jn _) rfl fun c L1 ⟨m2,hc,hL⟩=>?_
 subst hc;subst hL
 repeat' (first|refine go ?_|refine IG a6 EV ?_|(apply aJ;first|refine II 4 a6 0 IF ?_|refine II 4 a6 1 IF ?_|refine II 4 a6 2 IF ?_|refine II 5 a6 0 IF ?_|refine II 5 a6 1 IF ?_|refine II 5 a6 2 IF ?_|refine II 6 a6 0 IF ?_|refine II 6 a6 1 IF ?_|refine II 6 a6 2 IF ?_|refine IH a6 0 IE ?_|refine IH a6 1 IE ?_|refine IH a6 2 IE ?_|refine IH a6 3 IE ?_|fail)|refine bc a6 fun _=>?_|fail)
 refine bn [] _ (ue f.Axes) rfl rfl (Jn _) rfl fun c L1 ⟨m3,hc,hL⟩=>?_
 subst hc;subst hL
 repeat' (first|refine go ?_|(apply aJ;first|refine II 4 a6 0 IF ?_|refine II 4 a6 1 IF ?_|refine II 4 a6 2 IF ?_|refine II 5 a6 0 IF ?_|refine II 5 a6 1 IF ?_|refine II 5 a6 2 IF ?_|refine II 6 a6 0 IF ?_|refine II 6 a6 1 IF ?_|refine II 6 a6 2 IF ?_|refine IH a6 0 IE ?_|refine IH a6 1 IE ?_|refine IH a6 2 IE ?_|refine IH a6 3 IE ?_|fail)|refine bc a6 fun _=>?_|fail)
 refine br 36 [(0,.v),(1,.v),(2,.v),(3,.v),(4,.v),(5,.v),(6,.v),(7,.v),(8,.v),(9,.v),(10,.v),(11,.v),(12,.v),(13,.v),(14,.v),(15,.v),(16,.v),(17,.v),(18,.v),(19,.v),(20,.v),(21,.v),(22,.v),(23,.v),(24,.v),(25,.v),(26,.v),(27,.v),(28,.v),(29,.v),(30,.v),(31,.v),(32,.v),(33,.e),(34,.v),(35,.v)] none ?_ trivial rfl (by kernel_rfl) (by kernel_rfl) (by kernel_rfl) mixed (by kernel_rfl) rfl
 repeat' (first|refine aC ?_|refine aY a6 ?_|(apply bK;refine bR ?_)|fail)
 refine bR (hc:=⟨BV f.Cvt 64⟩) ?_
 repeat' (first|refine aC ?_|refine dU a6 ?_|fail)
 refine f5 (L:=[(m3,cn .string (cY (lW f))),(m2,cn .string (cY (mB f))),(m1,cn .string (cY (kY f)))]) _ [] (jC (pi f m1 m2 m3) (pU f m1 m2 m3 hA)) rfl rfl (by rw [List.append_nil];exact (List.reverse_perm _).symm) trivial fun c L1 hc=>?_
 rw [kq] at hc
 have hc:c=cE (ii f):=hc
 subst hc
 unfold cE
 repeat' (first|refine aC ?_|refine aY a6 ?_|fail)
 refine IQ [50,51] EV ?_
 repeat' (first|refine go ?_|refine aa ?_|refine IG a6 EV ?_)
 exact bk rfl rfl rfl rfl
theorem Cm (f:aL) (hA:(dq 400 f.Glyphs (eS f)).1=0→jx f.Glyphs.length (prt f)):bZ Tryz.prog 41 [cr f] (cM (decide ((ii f).1=0))):=by
 refine aX Tryz.func41 rfl Tryz.ntmps41 rfl fun B=>?_
 repeat' (first|refine go ?_|refine IG a6 EV ?_|refine bD ?_|fail)
 refine bn [] [] (DZ f hA) rfl rfl (Jn _) rfl fun c L1 hc=>?_
 subst hc
 unfold cE
 repeat' (first|refine go ?_|refine IG a6 EV ?_)
 exact IP IB
end Go.Proofs.YtjjpkibjffmceaaGreat
namespace Go.Proofs.YtjjpkibjffmceaaGreat
open Go.RowKit
attribute [local irreducible] AT cg AX AO Av Kt bJ eC DA du
theorem Cd {α:Type} {σ0:cP} {l p b n:Nat} (S:α→List Int) (K:α→Option (Nat×Nat)) (E:α→AL) (J:Nat→α→Prop) (hn:n≤1000000) (hJ:∀i x,J i x→i≤(S x).length∧(S x).length≤n)
  (hy:∀i x z,J i x→(S x)[i]?=some z→AY Tryz.prog σ0 l [aP z] (ei p b n (K x) (S x)++E x) fun c L=>c=cM true∧∃x',J (i+1) x'∧L=ei p b n (K x') (S x')++E x') (x0:α) (h0:J 0 x0):
  Ah Tryz.prog σ0 91 [.sc (.func (.yield l) #[] #[]),.iptr [gj p]] (ei p b n (K x0) (S x0)++E x0) fun _ L=>∃x,J (S x).length x∧L=ei p b n (K x) (S x)++E x:=by
 refine nJ Tryz.func91 rfl Tryz.ntmps91 rfl fun B hB=>?_
 repeat' (first|refine go ?_|refine am ?_|refine IG a6 EV ?_)
 refine aO [0,1] (α:=Nat×α) (fun y=>[(3,aP y.1)]) (fun y=>J y.1 y.2) (fun y=>ei p b n (K y.2) (S y.2)++E y.2) (fun y=>n - y.1) (0,x0) rfl ⟨rfl,trivial⟩ h0 (fun _ _ h=>h) ?_
 rintro ⟨i,x⟩ hj
 dsimp only at hj ⊢
 obtain ⟨hi,hl⟩:=hJ i x hj
 try dsimp only [Jr,Jq,Jp,Jk]
 repeat' (first|refine go ?_|refine IG a6 EV ?_|(apply bH;first|refine IJ a6 0 ID ?_|refine IJ a6 1 ID ?_|refine IJ a6 2 ID ?_|refine IJ a6 3 ID ?_|refine IK a6 0 ID ?_|refine IK a6 1 ID ?_|refine IK a6 2 ID ?_|refine IL a6 1 IB (by assumption) rfl ?_|refine IL a6 0 IB (by assumption) rfl ?_|fail)|fail)
 refine au rfl (fun h=>?_) (fun h=>?_)
 ·have hil:i < (S x).length:=by have:=Jy h;simp [aF] at this;omega
  obtain ⟨z,hz⟩:∃z,(S x)[i]?=some z:=⟨_,Jz hil⟩
  have hzg:=bQ hz
  repeat' (first|refine go ?_|refine am ?_|refine IG a6 EV ?_|(apply bH;first|refine IJ a6 0 ID ?_|refine IJ a6 1 ID ?_|refine IJ a6 2 ID ?_|refine IJ a6 3 ID ?_|refine IK a6 0 ID ?_|refine IK a6 1 ID ?_|refine IK a6 2 ID ?_|refine IL a6 1 IB (by assumption) rfl ?_|refine IL a6 0 IB (by assumption) rfl ?_|fail)|(apply aV;first|refine aU a6 ?_|refine aN a6 ?_)|fail)
  refine lB (ei p b n (K x) (S x)++E x) [] hB (hy i x z hj hz) rfl rfl rfl (by rw [List.append_nil]) rfl rfl fun c L1 ⟨hc,x',hj',hL⟩=>?_
  subst hc;subst hL
  rw [List.append_nil]
  repeat' (first|refine go ?_|refine IG a6 EV ?_|(apply aW;refine aT ?_)|refine bP rfl ?_)
  have:=hJ _ _ hj'
  exact aB (i+1,x') rfl ⟨by rw [Jv];rfl,trivial⟩ hj' (by dsimp only;omega) (fun _ _ h=>h)
 ·have hil:i=(S x).length:=by have:=Jx h;simp [aF] at this;omega
  subst hil
  repeat' (first|refine go ?_|fail)
  exact dB rfl ⟨x,hj,rfl⟩
theorem zE (p:Nat):bZ Tryz.prog 49 [gj p] (.fn 91 [.iptr [gj p]]):=by
 refine aX Tryz.func49 rfl Tryz.ntmps49 rfl fun B=>?_
 repeat' (first|refine go ?_|refine IG a6 EV ?_|refine bD ?_|fail)
 exact IP IB
instance (p:Nat):AD Tryz.prog 49 [gj p] (.fn 91 [.iptr [gj p]]):=⟨zE p⟩
def ca (p b n:Nat) (k:Option (Nat×Nat)) (l:List Int):AL:=(p,.box [.sc (.slice (some ⟨b,0,none⟩) n n),.vec k 1 (aS l)] 131)::(b,.box (gR l n) 4)::tok k 124 1 (aS l).length
theorem F9 (n:Nat) (hn:n≤1000000):AC Tryz.prog 83 [aP n] [] fun c L=>∃p b,c=gj p∧L=ca p b n none []:=by
 refine aX Tryz.func83 rfl Tryz.ntmps83 rfl fun B=>?_
 repeat' (first|refine go ?_|refine IG a6 EV ?_)
 refine mp a6 n rfl rfl rfl rfl rfl rfl rfl (by omega) (by omega) rfl fun b=>?_
 rw [show (List.replicate n (List.map AV.sc [Value.bool false])).flatten=gR [] n from rx n]
 repeat' (first|refine go ?_|refine IG a6 EV ?_|refine qk fun _=>?_|fail)
 refine ba (bC 0 (cs':=[.sc (.slice (some ⟨b,0,none⟩) n n),.vec none 1 []]) rfl fun σ vs h=>?_) (IM EV ⟨_,b,rfl,rfl⟩)
 obtain ⟨v,ws,rfl,h1,h2⟩:=h.inv
 obtain ⟨v',ws',rfl,h3,h4⟩:=h2.inv
 exact .cons h1 (.cons (cO 1 h3) h4)
theorem mM (p b n:Nat) (k:Option (Nat×Nat)) (l ns:List Int) (hn:n≤1000000) (hl:cJ n l):AC Tryz.prog 43 [gj p,.imm 1 (aS ns)] (ca p b n k l) fun _ L=>∃k',L=ca p b n k' (dJ n l ns):=by
 refine aX Tryz.func43 rfl Tryz.ntmps43 rfl fun B=>?_
 refine cN 1 rfl rfl fun hlen=>?_
 rw [aF] at hlen
 repeat' (first|refine go ?_|refine am ?_|refine IG a6 EV ?_)
 refine aO [0,6,7] (α:=Nat×Option (Nat×Nat)) (fun x=>[(8,aP x.1)]) (fun x=>x.1≤ns.length) (fun x=>ca p b n x.2 (dJ n l (ns.take x.1))) (fun x=>ns.length - x.1) (0,k) rfl ⟨rfl,trivial⟩ (Nat.zero_le _) (fun _ _ h=>h) ?_
 rintro ⟨i,k⟩ hi
 dsimp only at hi ⊢
 have hok:=hl.add (ns.take i)
 have hok1:=hok.len
 try dsimp only [Jr,Jq,Jp,Jk]
 repeat' (first|refine go ?_|refine IG a6 EV ?_)
 refine au rfl (fun h=>?_) (fun h=>?_)
 ·have hil:i < ns.length:=by have:=Jy h;simp [aF] at this;omega
  obtain ⟨z,hz⟩:∃z,ns[i]?=some z:=⟨_,Jz hil⟩
  have hzg:=bQ hz
  have had:=re (n:=n) (l:=l) hz
  generalize dJ n l (ns.take i)=l1 at *
  repeat' (first|refine go ?_|refine am ?_|refine IG a6 EV ?_|(apply aV;first|refine aU a6 ?_|refine aN a6 ?_)|fail)
  refine ej [0,5,6,7,8] (0≤z∧z < n∧z∉l1) rfl (fun Q' K=>?_) (fun hC=>?_) (fun hC=>?_)
  ·by_cases hin:0≤z∧z < n
   ·obtain ⟨hz0,hz1⟩:=hin
    have hfg:=nW l1 n hz0 hz1
    clear had hok hl
    repeat' (first|refine go ?_|refine IG a6 EV ?_|refine IR EV ?_|refine IT IC ?_|(apply bH;first|refine IJ a6 0 ID ?_|refine IJ a6 1 ID ?_|refine IJ a6 2 ID ?_|refine IJ a6 3 ID ?_|refine IK a6 0 ID ?_|refine IK a6 1 ID ?_|refine IK a6 2 ID ?_|refine IL a6 1 IB (by assumption) rfl ?_|refine IL a6 0 IB (by assumption) rfl ?_|fail)|(apply aV;first|refine aU a6 ?_|refine aN a6 ?_)|refine bF rfl rfl rfl (fun _=>?_) (fun _=>?_))
    all_goals exact K _ _ rfl rfl (by simp_all)
   ·clear had hok hl
    repeat' (first|refine go ?_|refine IG a6 EV ?_|refine IR EV ?_|refine IT IC ?_|(apply bH;first|refine IJ a6 0 ID ?_|refine IJ a6 1 ID ?_|refine IJ a6 2 ID ?_|refine IJ a6 3 ID ?_|refine IK a6 0 ID ?_|refine IK a6 1 ID ?_|refine IK a6 2 ID ?_|refine IL a6 1 IB (by assumption) rfl ?_|refine IL a6 0 IB (by assumption) rfl ?_|fail)|refine bF rfl rfl rfl (fun _=>?_) (fun _=>?_))
    all_goals first
     | (refine K _ _ rfl rfl ?_;exact ⟨fun e=>(by cases e),fun hh=>absurd (And.intro hh.1 hh.2.1) hin⟩)
     | (rename_i e1 e2;exact absurd ⟨Jy e1,Jy e2⟩ hin)
  ·obtain ⟨hz0,hz1,hz2⟩:=hC
   have had':dJ n l (ns.take (i+1))=l1++[z]:=by rw [had];unfold addOne;rw [if_pos ⟨hz0,hz1,hz2⟩]
   repeat' (first|refine go ?_|refine IG a6 EV ?_|(apply bH;first|refine IJ a6 0 ID ?_|refine IJ a6 1 ID ?_|refine IJ a6 2 ID ?_|refine IJ a6 3 ID ?_|refine IK a6 0 ID ?_|refine IK a6 1 ID ?_|refine IK a6 2 ID ?_|refine IL a6 1 IB (by assumption) rfl ?_|refine IL a6 0 IB (by assumption) rfl ?_|fail)|(apply aV;first|refine aU a6 ?_|refine aN a6 ?_)|fail)
   refine aj a6 1 rfl rfl rfl rfl rfl rfl (by rw [Nat.ble_eq,nX];show _+1≤n;omega) ?_
   rw [gd,ry l1 n hz0 hz1]
   repeat' (first|refine go ?_|refine IG a6 EV ?_|(apply bH;first|refine IJ a6 0 ID ?_|refine IJ a6 1 ID ?_|refine IJ a6 2 ID ?_|refine IJ a6 3 ID ?_|refine IK a6 0 ID ?_|refine IK a6 1 ID ?_|refine IK a6 2 ID ?_|refine IL a6 1 IB (by assumption) rfl ?_|refine IL a6 0 IB (by assumption) rfl ?_|fail)|refine bG a6 ?_|fail)
   refine IS a6 [(p,.box [.sc (.slice (some ⟨b,0,none⟩) n n),.vec k 1 (aS l1)] 131),(b,.box (gR (l1++[z]) n) 4)] IC (List.perm_append_comm (l₁:=[(p,AB.box [.sc (.slice (some ⟨b,0,none⟩) n n),.vec k 1 (aS l1)] 131),(b,AB.box (gR (l1++[z]) n) 4)])) (by rw [aF];simp;omega) (by rw [aF];simp;omega) rfl fun k'=>?_
   refine aK (aM List.perm_append_comm) ?_
   repeat' (first|refine go ?_|refine IG a6 EV ?_|(apply aW;refine aT ?_)|(apply aJ;first|refine IH a6 0 IE ?_|refine IH a6 1 IE ?_|refine IH a6 2 IE ?_|refine IH a6 3 IE ?_|fail))
   rw [show aS l1++[[aP z]]=aS (l1++[z]) from eh l1 [z],←had']
   refine aB (i+1,k') rfl ⟨by rw [Jv];rfl,trivial⟩ (by dsimp only;omega) (by dsimp only;omega) (fun _ _ h=>h)
  ·have had':dJ n l (ns.take (i+1))=l1:=by rw [had];unfold addOne;rw [if_neg hC]
   repeat' (first|refine go ?_|refine IG a6 EV ?_|(apply aW;refine aT ?_)|fail)
   refine aB (i+1,k) rfl ⟨by rw [Jv];rfl,trivial⟩ (by dsimp only;omega) (by dsimp only;omega) (fun _ _ h=>by dsimp only;rw [had'];exact h)
 ·have hil:i=ns.length:=by have:=Jx h;simp [aF] at this;omega
  subst hil
  rw [List.take_length]
  repeat' (first|refine go ?_|fail)
  exact dB rfl ⟨k,rfl⟩
theorem Cp (p b n:Nat) (k:Option (Nat×Nat)) (l:List Int) (hl:l.length≤1000000):AC Tryz.prog 46 [gj p] (ca p b n k l) fun c L=>c= .imm 1 (aS (eD l))∧L=ca p b n k l:=by
 refine aX Tryz.func46 rfl Tryz.ntmps46 rfl fun B=>?_
 repeat' (first|refine go ?_|refine IG a6 EV ?_|(apply bH;first|refine IJ a6 0 ID ?_|refine IJ a6 1 ID ?_|refine IJ a6 2 ID ?_|refine IJ a6 3 ID ?_|refine IK a6 0 ID ?_|refine IK a6 1 ID ?_|refine IK a6 2 ID ?_|refine IL a6 1 IB (by assumption) rfl ?_|refine IL a6 0 IB (by assumption) rfl ?_|fail)|fail)
 refine mp a6 l.length rfl rfl rfl rfl rfl (by rw [aF]) (by rw [aF]) (by omega) (by omega) rfl fun b3=>?_
 rw [show (List.replicate l.length (List.map AV.sc [Value.int .i64 0])).flatten=fm l 0 from pg l _ rfl]
 repeat' (first|refine go ?_|refine am ?_|refine IG a6 EV ?_|(apply bH;first|refine IJ a6 0 ID ?_|refine IJ a6 1 ID ?_|refine IJ a6 2 ID ?_|refine IJ a6 3 ID ?_|refine IK a6 0 ID ?_|refine IK a6 1 ID ?_|refine IK a6 2 ID ?_|refine IL a6 1 IB (by assumption) rfl ?_|refine IL a6 0 IB (by assumption) rfl ?_|fail)|fail)
 refine aO [3,15,16] (α:=Nat) (fun i=>[(17,aP i)]) (fun i=>i≤l.length) (fun i=>(b3,.box (fm l i) 3)::ca p b n k l) (fun i=>l.length - i) 0 rfl ⟨rfl,trivial⟩ (Nat.zero_le _) (fun _ _ h=>h) fun i hi=>?_
 try dsimp only [Jr,Jq,Jp,Jk]
 repeat' (first|refine go ?_|refine IG a6 EV ?_)
 refine au rfl (fun h=>?_) (fun h=>?_)
 ·have hil:i < l.length:=by have:=Jy h;simp [aF] at this;omega
  obtain ⟨z,hz⟩:∃z,l[i]?=some z:=⟨_,Jz hil⟩
  have hzg:=bQ hz
  repeat' (first|refine go ?_|refine am ?_|refine IG a6 EV ?_|(apply aV;first|refine aU a6 ?_|refine aN a6 ?_)|fail)
  refine aj a6 0 rfl rfl rfl rfl rfl rfl (by rw [Nat.ble_eq,sq l hi];show _+1≤l.length;omega) ?_
  rw [gd,sr hz]
  repeat' (first|refine go ?_|refine IG a6 EV ?_|(apply aW;refine aT ?_)|fail)
  exact aB (i+1) rfl ⟨by rw [Jv];rfl,trivial⟩ (by omega) (by omega) (fun _ _ h=>h)
 ·have hil:i=l.length:=by have:=Jx h;simp [aF] at this;omega
  subst hil
  rw [so]
  repeat' (first|refine go ?_|refine IG a6 EV ?_)
  refine bn [(b3,.box (l.map aP) 3)] (ca p b n k l) (y0 b3 l.length l rfl hl) rfl rfl (Jn _) rfl fun c L1 hL1=>?_
  subst hL1
  repeat' (first|refine go ?_|refine IG a6 EV ?_)
  refine ba (qQ (t:=2) (sz:=1) (l:=aS (eD l)) 0 rfl rfl (lx _).symm (by simp [aS]) (by rw [aF,kz]) (by omega)) ?_
  exact cQ (List.sublist_cons_self ..) (pD rfl rfl rfl ⟨rfl,rfl⟩)
theorem Gn {α:Type} {σ0:cP} {l p b n:Nat} (S:α→List Int) (K:α→Option (Nat×Nat)) (E:α→AL) (J:Nat→α→Prop) (hn:n≤1000000) (hJ:∀i x,J i x→i≤(S x).length∧(S x).length≤n)
  (hy:∀i x z,J i x→(S x)[i]?=some z→AY Tryz.prog σ0 l [aP z] (ca p b n (K x) (S x)++E x) fun c L=>c=cM true∧∃x',J (i+1) x'∧L=ca p b n (K x') (S x')++E x') (x0:α) (h0:J 0 x0):
  Ah Tryz.prog σ0 147 [.sc (.func (.yield l) #[] #[]),.iptr [gj p]] (ca p b n (K x0) (S x0)++E x0) fun _ L=>∃x,J (S x).length x∧L=ca p b n (K x) (S x)++E x:=by
 refine nJ Tryz.func147 rfl Tryz.ntmps147 rfl fun B hB=>?_
 repeat' (first|refine go ?_|refine am ?_|refine IG a6 EV ?_)
 refine aO [0,1] (α:=Nat×α) (fun y=>[(3,aP y.1)]) (fun y=>J y.1 y.2) (fun y=>ca p b n (K y.2) (S y.2)++E y.2) (fun y=>n - y.1) (0,x0) rfl ⟨rfl,trivial⟩ h0 (fun _ _ h=>h) ?_
 rintro ⟨i,x⟩ hj
 dsimp only at hj ⊢
 obtain ⟨hi,hl⟩:=hJ i x hj
 try dsimp only [Jr,Jq,Jp,Jk]
 repeat' (first|refine go ?_|refine IG a6 EV ?_|(apply bH;first|refine IJ a6 0 ID ?_|refine IJ a6 1 ID ?_|refine IJ a6 2 ID ?_|refine IJ a6 3 ID ?_|refine IK a6 0 ID ?_|refine IK a6 1 ID ?_|refine IK a6 2 ID ?_|refine IL a6 1 IB (by assumption) rfl ?_|refine IL a6 0 IB (by assumption) rfl ?_|fail)|fail)
 refine au rfl (fun h=>?_) (fun h=>?_)
 ·have hil:i < (S x).length:=by have:=Jy h;simp [aF] at this;omega
  obtain ⟨z,hz⟩:∃z,(S x)[i]?=some z:=⟨_,Jz hil⟩
  have hzg:=bQ hz
  repeat' (first|refine go ?_|refine am ?_|refine IG a6 EV ?_|(apply bH;first|refine IJ a6 0 ID ?_|refine IJ a6 1 ID ?_|refine IJ a6 2 ID ?_|refine IJ a6 3 ID ?_|refine IK a6 0 ID ?_|refine IK a6 1 ID ?_|refine IK a6 2 ID ?_|refine IL a6 1 IB (by assumption) rfl ?_|refine IL a6 0 IB (by assumption) rfl ?_|fail)|(apply aV;first|refine aU a6 ?_|refine aN a6 ?_)|fail)
  refine lB (ca p b n (K x) (S x)++E x) [] hB (hy i x z hj hz) rfl rfl rfl (by rw [List.append_nil]) rfl rfl fun c L1 ⟨hc,x',hj',hL⟩=>?_
  subst hc;subst hL
  rw [List.append_nil]
  repeat' (first|refine go ?_|refine IG a6 EV ?_|(apply aW;refine aT ?_)|refine bP rfl ?_)
  have:=hJ _ _ hj'
  exact aB (i+1,x') rfl ⟨by rw [Jv];rfl,trivial⟩ hj' (by dsimp only;omega) (fun _ _ h=>h)
 ·have hil:i=(S x).length:=by have:=Jx h;simp [aF] at this;omega
  subst hil
  repeat' (first|refine go ?_|fail)
  exact dB rfl ⟨x,hj,rfl⟩
theorem zD (p:Nat):bZ Tryz.prog 85 [gj p] (.fn 147 [.iptr [gj p]]):=by
 refine aX Tryz.func85 rfl Tryz.ntmps85 rfl fun B=>?_
 repeat' (first|refine go ?_|refine IG a6 EV ?_|refine bD ?_|fail)
 exact IP IB
instance (p:Nat):AD Tryz.prog 85 [gj p] (.fn 147 [.iptr [gj p]]):=⟨zD p⟩
end Go.Proofs.YtjjpkibjffmceaaGreat
