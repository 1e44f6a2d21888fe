/-
  The program: check.Font.
-/
import Derived.Test.YtjjpkibjffmceaaGreatM18
namespace Go.Proofs.YtjjpkibjffmceaaGreat
open Go.RowKit
attribute [local irreducible] AT bW AX AO Av Kt bA eI DA dl
theorem kB {err:Nat→Int}:∀(k i:Nat),(dK err k i).1=0↔∀j,i≤j→j < i+k→err j=0
 | 0,i=>by simp only [dK,true_iff];intro j h1 h2;omega
 | k+1,i=>by
  simp only [dK]
  by_cases h:err i=0
  ·rw [if_pos h,kB k (i+1)]
   constructor
   ·intro hh j h1 h2
    by_cases e:j=i
    ·subst e;exact h
    ·exact hh j (by omega) (by omega)
   ·intro hh j h1 h2;exact hh j (by omega) (by omega)
  ·rw [if_neg h]
   constructor
   ·intro hh;exact absurd hh h
   ·intro hh;exact hh i (Nat.le_refl _) (by omega)
theorem q9 {α:Type} {l:List α} {w:Nat→α→Int}:(dE l w).1=0↔∀i x,l[i]?=some x→w i x=0:=by
 unfold dE dO
 rw [kB]
 constructor
 ·intro h i x hx
  have:=h i (Nat.zero_le _) (by have:=(Io hx).1;omega)
  rwa [iK hx] at this
 ·intro h j _ hj
  obtain ⟨x,hx⟩:∃x,l[j]?=some x:=⟨_,Iz (by omega)⟩
  rw [iK hx]
  exact h j x hx
theorem j6 {α:Type} {most:Int} {l:List α} {w:Nat→α→Int}:(cE most l w).1=0↔(l.length:Int)≤most∧∀i x,l[i]?=some x→w i x=0:=by
 have h:=q9 (l:=l) (w:=w)
 unfold dE at h
 unfold cE dG
 by_cases hm:(l.length:Int) > most
 ·rw [if_pos hm]
  constructor
  ·intro hh;cases hh
  ·intro hh;omega
 ·rw [if_neg hm,h]
  exact ⟨fun hh=>⟨by omega,hh⟩,fun hh=>hh.2⟩
theorem ek:∀{l:List (Int×Int)},(gR l).1=0↔∀x∈l,x.1=0
 | []=>by simp [gR]
 | x::r=>by
  unfold gR
  by_cases h:x.1=0
  ·rw [if_pos h,ek]
   constructor
   ·intro hh y hy
    rcases List.mem_cons.1 hy with rfl | hy
    ·exact h
    ·exact hh y hy
   ·intro hh y hy;exact hh y (Is _ hy)
  ·rw [if_neg h]
   constructor
   ·intro hh;exact absurd hh h
   ·intro hh;exact hh x (List.mem_cons_self ..)
theorem jp {f:aL} (h:(cE 400 f.Glyphs (eE f)).1=0):vl f:=by
 obtain ⟨h1,h2⟩:=j6.1 h
 have hg:∀gl∈f.Glyphs,∃name,o8 f gl name=0:=fun gl hgl=>by
  obtain ⟨i,hi⟩:=List.mem_iff_getElem?.1 hgl
  exact ⟨_,h2 i gl hi⟩
 have hgl:∀gl∈f.Glyphs,j5 gl=0∧(cE 8 gl.Parts (lQ f)).1=0:=fun gl hm=>by
  obtain ⟨name,hn⟩:=hg gl hm
  unfold o8 at hn
  rw [ek] at hn
  exact ⟨hn (j5 gl,0) (by simp),hn (cE 8 gl.Parts (lQ f)) (by simp)⟩
 refine ⟨⟨by omega,fun gl hm=>?_⟩,fun gl hm=>?_,fun gl hm p hp=>?_⟩
 ·have:=(j6.1 (hgl gl hm).2).1;omega
 ·have h3:=(hgl gl hm).1
  unfold j5 at h3
  split at h3
  ·cases h3
  ·split at h3
   ·cases h3
   ·omega
 ·obtain ⟨i,hi⟩:=List.mem_iff_getElem?.1 hp
  have h3:=(j6.1 (hgl gl hm).2).2 i p hi
  unfold lQ at h3
  split at h3
  ·cases h3
  ·rename_i hh
   simpa using hh
theorem yc {f:aL} (hf:vl f) (ha:kG f.Glyphs.length (prt f)) {D P D' P':Int→Int} (h:jO f D P) (h':jO f D' P'):∀z:Int,0≤z→z < f.Glyphs.length→D z=D' z∧P z=P' z:=by
 obtain ⟨r,hr⟩:=ha
 have:∀(k:Nat) (z:Int),r z < k→0≤z→z < f.Glyphs.length→D z=D' z∧P z=P' z:=by
  intro k
  induction k with
  | zero=>intro z hk;exact absurd hk (Nat.not_lt_zero _)
  | succ k ih=>
   intro z hk h0 h1
   obtain ⟨gl,hgl⟩:∃g,f.Glyphs[z.toNat]?=some g:=⟨_,Iz (by omega)⟩
   have hsm:∀p∈gl.Parts,D p.Glyph=D' p.Glyph∧P p.Glyph=P' p.Glyph:=fun p hp=>by
    have hin:=pq.1 (hf.there gl (Iw hgl) p hp)
    have:=hr z h0 h1 p.Glyph (by rw [tj hf hgl];exact List.mem_map_of_mem hp)
    exact ih p.Glyph (by omega) hin.1 hin.2
   obtain ⟨h2,h3⟩:=h z h0 h1 gl hgl
   obtain ⟨h4,h5⟩:=h' z h0 h1 gl hgl
   rw [h2,h3,h4,h5]
   exact ⟨ud fun p hp=>(hsm p hp).1,uL fun p hp=>(hsm p hp).2⟩
 intro z h0 h1
 exact this (r z+1) z (by omega) h0 h1
theorem vL {n:Nat} {D P D' P':Int→Int} (h:∀z:Int,0≤z→z < n→D z=D' z∧P z=P' z):oM n D P=oM n D' P':=by
 unfold oM
 rw [List.map_congr_left (f:=D) (g:=D') fun z hz=>(h z (fG.1 hz).1 (fG.1 hz).2).1,List.map_congr_left (f:=P) (g:=P') fun z hz=>(h z (fG.1 hz).1 (fG.1 hz).2).2]
open Classical in
noncomputable def mR (f:aL):Int×Int:=if h:∃q:(Int→Int)×(Int→Int),jO f q.1 q.2 then oM f.Glyphs.length h.choose.1 h.choose.2 else (33,0)
theorem pS {f:aL} (hf:vl f) (ha:kG f.Glyphs.length (prt f)) {D P:Int→Int} (h:jO f D P):mR f=oM f.Glyphs.length D P:=by
 unfold mR
 have hex:∃q:(Int→Int)×(Int→Int),jO f q.1 q.2:=⟨(D,P),h⟩
 rw [dif_pos hex]
 exact vL (yc hf ha hex.choose_spec h)
theorem D0 (f:aL) (hf:vl f) (ha:kG f.Glyphs.length (prt f)):AC Tryz.prog 121 [.iptr (cb f)] [] fun c _=>c=cJ ((mR f).1,(mR f).2):=by
 refine aS Tryz.func121 rfl Tryz.ntmps121 rfl fun B=>?_
 repeat' (first|refine go ?_|refine HK a6 FS ?_)
 refine ba [] [] (ua f hf (.inl ha)) rfl rfl (Im _) rfl fun c L1 hc=>?_
 rcases hc with ⟨D,P,h1,h2,hc⟩ | ⟨hna,_⟩
 ·rw [←pS hf ha h1] at hc
  subst hc
  unfold cJ
  repeat' (first|refine go ?_|refine HK a6 FS ?_)
  exact be rfl rfl rfl rfl
 ·exact absurd ha hna
def x7 (_:Nat) (l:List eL):Int:=nu l
def om (f:aL) (_:Nat) (r:List eu):Int:=yW f.Axes.length r
def lB (f:aL) (_:Nat) (l:bb):Int:=lC f l
noncomputable def B8 (f:aL):List (Int×Int):=[(n9 f,0),cE 400 f.Glyphs (eE f),mR f,cE 1000 f.Chars (iE f),cE 40 f.Lookups (lB f),cE 20 f.Features (ke f),cE 3 f.Axes (jV f),cE 16 f.Regions (om f),cE 20 f.Funcs x7,cE 64 f.Cvt AG]
noncomputable def lL (f:aL):Int×Int:=gR (B8 f)
noncomputable def x6 (f:aL) (m1 m2 m3:Nat):List Lk:=[⟨114,[.iptr (cb f)],[],n9 f,0⟩,
 ⟨157,[.iptr [.imm 9 (f.Glyphs.map bC)],.iptr [aP 400],.iptr [.fn 117 [.iptr (cb f),.iptr [.sc (.map (some m1))]]]],[(m1,cj .string (da (kl f)))],(cE 400 f.Glyphs (eE f)).1,(cE 400 f.Glyphs (eE f)).2⟩,
 ⟨121,[.iptr (cb f)],[],(mR f).1,(mR f).2⟩,
 ⟨177,[.iptr [.imm 2 (f.Chars.map cy)],.iptr [aP 1000],.iptr [.fn 124 [.iptr (cb f)]]],[],(cE 1000 f.Chars (iE f)).1,(cE 1000 f.Chars (iE f)).2⟩,
 ⟨179,[.iptr [.imm 3 (f.Lookups.map bj)],.iptr [aP 40],.iptr [.fn 127 [.iptr (cb f)]]],[],(cE 40 f.Lookups (lB f)).1,(cE 40 f.Lookups (lB f)).2⟩,
 ⟨187,[.iptr [.imm 2 (f.Features.map bt)],.iptr [aP 20],.iptr [.fn 130 [.iptr (cb f),.iptr [.sc (.map (some m2))]]]],[(m2,cj .string (da (ln f)))],(cE 20 f.Features (ke f)).1,(cE 20 f.Features (ke f)).2⟩,
 ⟨190,[.iptr [.imm 4 (f.Axes.map cD)],.iptr [aP 3],.iptr [.fn 134 [.iptr [.sc (.map (some m3))]]]],[(m3,cj .string (da (iO f)))],(cE 3 f.Axes (jV f)).1,(cE 3 f.Axes (jV f)).2⟩,
 ⟨192,[.iptr [.imm 1 (f.Regions.map bw)],.iptr [aP 16],.iptr [.fn 137 [.iptr (cb f)]]],[],(cE 16 f.Regions (om f)).1,(cE 16 f.Regions (om f)).2⟩,
 ⟨196,[.iptr [.imm 1 (f.Funcs.map cR)],.iptr [aP 20],.iptr [.sc (.func (.func 140) #[] #[])]],[],(cE 20 f.Funcs x7).1,(cE 20 f.Funcs x7).2⟩,
 ⟨200,[.iptr [.imm 1 (f.Cvt.map ew)],.iptr [aP 64],.iptr [.sc (.func (.func 143) #[] #[])]],[],(cE 64 f.Cvt AG).1,(cE 64 f.Cvt AG).2⟩]
theorem vV (f:aL) (m1 m2 m3:Nat) (hA:(cE 400 f.Glyphs (eE f)).1=0→kG f.Glyphs.length (prt f)):we (x6 f m1 m2 m3):=by
 refine ⟨⟨inferInstance,yq f⟩,fun _=>⟨⟨inferInstance,?_⟩,fun h1=>⟨⟨inferInstance,D0 f (jp h1) (hA h1)⟩,fun _=>⟨⟨inferInstance,?_⟩,fun _=>⟨⟨inferInstance,?_⟩,fun _=>⟨⟨inferInstance,?_⟩,fun _=>⟨⟨inferInstance,?_⟩,fun _=>⟨⟨inferInstance,?_⟩,fun _=>⟨⟨inferInstance,?_⟩,fun _=>⟨⟨inferInstance,?_⟩,fun _=>trivial⟩⟩⟩⟩⟩⟩⟩⟩⟩⟩
 ·exact E3 (u:= .fn 117 [.iptr (cb f),.iptr [.sc (.map (some m1))]]) rfl f.Glyphs 400 (gr f.Glyphs (eE f)) (fun _ L=>L=[(m1,cj .string (da (kl f)))]) _ rfl fun _=>qZ fun i x _=>w4 f i x m1
 ·exact E4 (u:= .fn 124 [.iptr (cb f)]) rfl f.Chars 1000 (gr f.Chars (iE f)) (fun _ _=>True) [] trivial fun hm=>dM fun i x hx=>xW f i x hx hm
 ·exact E5 (u:= .fn 127 [.iptr (cb f)]) rfl f.Lookups 40 (gr f.Lookups (lB f)) (fun _ _=>True) [] trivial fun _=>dM fun i x _=>sX f i x
 ·exact E6 (u:= .fn 130 [.iptr (cb f),.iptr [.sc (.map (some m2))]]) rfl f.Features 20 (gr f.Features (ke f)) (fun _ L=>L=[(m2,cj .string (da (ln f)))]) _ rfl fun _=>qZ fun i x _=>yk f i x m2
 ·exact E7 (u:= .fn 134 [.iptr [.sc (.map (some m3))]]) rfl f.Axes 3 (gr f.Axes (jV f)) (fun _ L=>L=[(m3,cj .string (da (iO f)))]) _ rfl fun _=>qZ fun i x _=>xQ f i x m3
 ·exact E8 (u:= .fn 137 [.iptr (cb f)]) rfl f.Regions 16 (gr f.Regions (om f)) (fun _ _=>True) [] trivial fun _=>dM fun i x _=>uR f i x
 ·exact E9 (u:= .sc (.func (.func 140) #[] #[])) (g:=140) (caps:=[]) rfl f.Funcs 20 (gr f.Funcs x7) (fun _ _=>True) [] trivial fun _=>dM fun i x _=>xX i x
 ·exact Ea (u:= .sc (.func (.func 143) #[] #[])) (g:=143) (caps:=[]) rfl f.Cvt 64 (gr f.Cvt AG) (fun _ _=>True) [] trivial fun _=>dM fun i x _=>AE i x
set_option maxHeartbeats 4000000 in
theorem Dw (f:aL) (hA:(cE 400 f.Glyphs (eE f)).1=0→kG f.Glyphs.length (prt f)):AC Tryz.prog 82 [cr f] [] fun c _=>c=cJ (lL f):=by
 refine aS Tryz.func82 rfl Tryz.ntmps82 rfl fun B=>?_
 repeat' (first|refine go ?_|refine HK a6 FS ?_|refine bh ?_|fail)
 refine ba [] _ (B2 f.Glyphs) rfl rfl (Im _) rfl fun c L1 ⟨m1,hc,hL⟩=>?_
 subst hc;subst hL
 repeat' (first|refine go ?_|refine HK a6 FS ?_|(apply aG;first|refine HN 4 a6 0 HJ ?_|refine HN 4 a6 1 HJ ?_|refine HN 4 a6 2 HJ ?_|refine HN 5 a6 0 HJ ?_|refine HN 5 a6 1 HJ ?_|refine HN 5 a6 2 HJ ?_|refine HN 6 a6 0 HJ ?_|refine HN 6 a6 1 HJ ?_|refine HN 6 a6 2 HJ ?_|refine HM a6 0 HH ?_|refine HM a6 1 HH ?_|refine HM a6 2 HH ?_|refine HM a6 3 HH ?_|fail)|refine aX a6 fun _=>?_|fail)
 refine ba [] _ (B3 f.Features) rfl rfl (Im _) rfl fun c L1 ⟨m2,hc,hL⟩=>?_
 subst hc;subst hL
 repeat' (first|refine go ?_|refine HK a6 FS ?_|(apply aG;first|refine HN 4 a6 0 HJ ?_|refine HN 4 a6 1 HJ ?_|refine HN 4 a6 2 HJ ?_|refine HN 5 a6 0 HJ ?_|refine HN 5 a6 1 HJ ?_|refine HN 5 a6 2 HJ ?_|refine HN 6 a6 0 HJ ?_|refine HN 6 a6 1 HJ ?_|refine HN 6 a6 2 HJ ?_|refine HM a6 0 HH ?_|refine HM a6 1 HH ?_|refine HM a6 2 HH ?_|refine HM a6 3 HH ?_|fail)|refine aX a6 fun _=>?_|fail)
 refine ba [] _ (B4 f.Axes) rfl rfl (Im _) rfl fun c L1 ⟨m3,hc,hL⟩=>?_
 subst hc;subst hL
 repeat' (first|refine go ?_|(apply aG;first|refine HN 4 a6 0 HJ ?_|refine HN 4 a6 1 HJ ?_|refine HN 4 a6 2 HJ ?_|refine HN 5 a6 0 HJ ?_|refine HN 5 a6 1 HJ ?_|refine HN 5 a6 2 HJ ?_|refine HN 6 a6 0 HJ ?_|refine HN 6 a6 1 HJ ?_|refine HN 6 a6 2 HJ ?_|refine HM a6 0 HH ?_|refine HM a6 1 HH ?_|refine HM a6 2 HH ?_|refine HM a6 3 HH ?_|fail)|refine aX a6 fun _=>?_|fail)
 refine bn 36 [(0,.v),(1,.v),(2,.v),(3,.v),(4,.v),(5,.v),(6,.v),(7,.v),(8,.v),(9,.v),(10,.v),(11,.v),(12,.v),(13,.v),(14,.v),(15,.v),(16,.v),(17,.v),(18,.v),(19,.v),(20,.v),(21,.v),(22,.v),(23,.v),(24,.v),(25,.v),(26,.v),(27,.v),(28,.v),(29,.v),(30,.v),(31,.v),(32,.v),(33,.e),(34,.v),(35,.v)] none ?_ trivial rfl (by kernel_rfl) (by kernel_rfl) (by kernel_rfl) mixed (by kernel_rfl) rfl
 repeat' (first|refine aC ?_|refine b7 a6 ?_|(apply bE;refine bS ?_)|fail)
 refine bS (hc:=⟨Fv f.Cvt 64⟩) ?_
 repeat' (first|refine aC ?_|refine eS a6 ?_|fail)
 refine dJ (L:=[(m3,cj .string (da (iO f))),(m2,cj .string (da (ln f))),(m1,cj .string (da (kl f)))]) _ [] (jw (x6 f m1 m2 m3) (vV f m1 m2 m3 hA)) rfl rfl (by rw [List.append_nil];exact (List.reverse_perm _).symm) trivial fun c L1 hc=>?_
 rw [kp] at hc
 have hc:c=cJ (lL f):=hc
 subst hc
 unfold cJ
 repeat' (first|refine aC ?_|refine b7 a6 ?_|fail)
 refine HU [50,51] FS ?_
 repeat' (first|refine go ?_|refine aa ?_|refine HK a6 FS ?_)
 exact be rfl rfl rfl rfl
theorem uT (f:aL) (hA:(cE 400 f.Glyphs (eE f)).1=0→kG f.Glyphs.length (prt f)):bV Tryz.prog 41 [cr f] (cx (decide ((lL f).1=0))):=by
 refine aS Tryz.func41 rfl Tryz.ntmps41 rfl fun B=>?_
 repeat' (first|refine go ?_|refine HK a6 FS ?_|refine bh ?_|fail)
 refine ba [] [] (Dw f hA) rfl rfl (Im _) rfl fun c L1 hc=>?_
 subst hc
 unfold cJ
 repeat' (first|refine go ?_|refine HK a6 FS ?_)
 exact HT HE
end Go.Proofs.YtjjpkibjffmceaaGreat
namespace Go.Proofs.YtjjpkibjffmceaaGreat
open Go.RowKit
attribute [local irreducible] AT bW AX AO Av Kt bA eI DA dl
theorem BV {α:Type} {σ0:ce} {l p b n:Nat} (S:α→List Int) (K:α→Option (Nat×Nat)) (E:α→AL) (J:Nat→α→Prop) (hn:n≤1000000) (hJ:∀i x,J i x→i≤(S x).length∧(S x).length≤n)
  (hy:∀i x z,J i x→(S x)[i]?=some z→AY Tryz.prog σ0 l [aP z] (dV p b n (K x) (S x)++E x) fun c L=>c=cx true∧∃x',J (i+1) x'∧L=dV p b n (K x') (S x')++E x') (x0:α) (h0:J 0 x0):
  Cx Tryz.prog σ0 91 [.sc (.func (.yield l) #[] #[]),.iptr [g9 p]] (dV p b n (K x0) (S x0)++E x0) fun _ L=>∃x,J (S x).length x∧L=dV p b n (K x) (S x)++E x:=by
 refine sv Tryz.func91 rfl Tryz.ntmps91 rfl fun B hB=>?_
 repeat' (first|refine go ?_|refine ak ?_|refine HK a6 FS ?_)
 refine aJ [0,1] (α:=Nat×α) (fun y=>[(3,aP y.1)]) (fun y=>J y.1 y.2) (fun y=>dV p b n (K y.2) (S y.2)++E y.2) (fun y=>n - y.1) (0,x0) rfl ⟨rfl,trivial⟩ h0 (fun _ _ h=>h) ?_
 rintro ⟨i,x⟩ hj
 dsimp only at hj ⊢
 obtain ⟨hi,hl⟩:=hJ i x hj
 try dsimp only [Ir,Iq,Ip,Ij]
 repeat' (first|refine go ?_|refine HK a6 FS ?_|(apply bK;first|refine HO a6 0 HG ?_|refine HO a6 1 HG ?_|refine HO a6 2 HG ?_|refine HO a6 3 HG ?_|refine HP a6 0 HG ?_|refine HP a6 1 HG ?_|refine HP a6 2 HG ?_|refine HR a6 1 HE (by assumption) rfl ?_|refine HR a6 0 HE (by assumption) rfl ?_|fail)|fail)
 refine ay rfl (fun h=>?_) (fun h=>?_)
 ·have hil:i < (S x).length:=by have:=Iy h;simp [aQ] at this;omega
  obtain ⟨z,hz⟩:∃z,(S x)[i]?=some z:=⟨_,Iz hil⟩
  have hzg:=bT hz
  repeat' (first|refine go ?_|refine ak ?_|refine HK a6 FS ?_|(apply bK;first|refine HO a6 0 HG ?_|refine HO a6 1 HG ?_|refine HO a6 2 HG ?_|refine HO a6 3 HG ?_|refine HP a6 0 HG ?_|refine HP a6 1 HG ?_|refine HP a6 2 HG ?_|refine HR a6 1 HE (by assumption) rfl ?_|refine HR a6 0 HE (by assumption) rfl ?_|fail)|(apply aU;first|refine aT a6 ?_|refine aM a6 ?_)|fail)
  refine pt (dV p b n (K x) (S x)++E x) [] hB (hy i x z hj hz) rfl rfl rfl (by rw [List.append_nil]) rfl rfl fun c L1 ⟨hc,x',hj',hL⟩=>?_
  subst hc;subst hL
  rw [List.append_nil]
  repeat' (first|refine go ?_|refine HK a6 FS ?_|(apply aW;refine aV ?_)|refine bF rfl ?_)
  have:=hJ _ _ hj'
  exact aB (i+1,x') rfl ⟨by rw [Iv];rfl,trivial⟩ hj' (by dsimp only;omega) (fun _ _ h=>h)
 ·have hil:i=(S x).length:=by have:=Ix h;simp [aQ] at this;omega
  subst hil
  repeat' (first|refine go ?_|fail)
  exact dY rfl ⟨x,hj,rfl⟩
theorem yV (p:Nat):bV Tryz.prog 49 [g9 p] (.fn 91 [.iptr [g9 p]]):=by
 refine aS Tryz.func49 rfl Tryz.ntmps49 rfl fun B=>?_
 repeat' (first|refine go ?_|refine HK a6 FS ?_|refine bh ?_|fail)
 exact HT HE
instance (p:Nat):AD Tryz.prog 49 [g9 p] (.fn 91 [.iptr [g9 p]]):=⟨yV p⟩
def bJ (p b n:Nat) (k:Option (Nat×Nat)) (l:List Int):AL:=(p,.box [.sc (.slice (some ⟨b,0,none⟩) n n),.vec k 1 (aZ l)] 131)::(b,.box (gL l n) 4)::tok k 124 1 (aZ l).length
theorem Ey (n:Nat) (hn:n≤1000000):AC Tryz.prog 83 [aP n] [] fun c L=>∃p b,c=g9 p∧L=bJ p b n none []:=by
 refine aS Tryz.func83 rfl Tryz.ntmps83 rfl fun B=>?_
 repeat' (first|refine go ?_|refine HK a6 FS ?_)
 refine lb a6 n rfl rfl rfl rfl rfl rfl rfl (by omega) (by omega) rfl fun b=>?_
 rw [show (List.replicate n (List.map AV.sc [Value.bool false])).flatten=gL [] n from rN n]
 repeat' (first|refine go ?_|refine HK a6 FS ?_|refine s8 fun _=>?_|fail)
 refine bc (bD 0 (cs':=[.sc (.slice (some ⟨b,0,none⟩) n n),.vec none 1 []]) rfl fun σ vs h=>?_) (HS FS ⟨_,b,rfl,rfl⟩)
 obtain ⟨v,ws,rfl,h1,h2⟩:=h.inv
 obtain ⟨v',ws',rfl,h3,h4⟩:=h2.inv
 exact .cons h1 (.cons (cq 1 h3) h4)
theorem lJ (p b n:Nat) (k:Option (Nat×Nat)) (l ns:List Int) (hn:n≤1000000) (hl:ci n l):AC Tryz.prog 43 [g9 p,.imm 1 (aZ ns)] (bJ p b n k l) fun _ L=>∃k',L=bJ p b n k' (di n l ns):=by
 refine aS Tryz.func43 rfl Tryz.ntmps43 rfl fun B=>?_
 refine cH 1 rfl rfl fun hlen=>?_
 rw [aQ] at hlen
 repeat' (first|refine go ?_|refine ak ?_|refine HK a6 FS ?_)
 refine aJ [0,6,7] (α:=Nat×Option (Nat×Nat)) (fun x=>[(8,aP x.1)]) (fun x=>x.1≤ns.length) (fun x=>bJ p b n x.2 (di n l (ns.take x.1))) (fun x=>ns.length - x.1) (0,k) rfl ⟨rfl,trivial⟩ (Nat.zero_le _) (fun _ _ h=>h) ?_
 rintro ⟨i,k⟩ hi
 dsimp only at hi ⊢
 have hok:=hl.add (ns.take i)
 have hok1:=hok.len
 try dsimp only [Ir,Iq,Ip,Ij]
 repeat' (first|refine go ?_|refine HK a6 FS ?_)
 refine ay rfl (fun h=>?_) (fun h=>?_)
 ·have hil:i < ns.length:=by have:=Iy h;simp [aQ] at this;omega
  obtain ⟨z,hz⟩:∃z,ns[i]?=some z:=⟨_,Iz hil⟩
  have hzg:=bT hz
  have had:=rx (n:=n) (l:=l) hz
  generalize di n l (ns.take i)=l1 at *
  repeat' (first|refine go ?_|refine ak ?_|refine HK a6 FS ?_|(apply aU;first|refine aT a6 ?_|refine aM a6 ?_)|fail)
  refine eo [0,5,6,7,8] (0≤z∧z < n∧z∉l1) rfl (fun Q' K=>?_) (fun hC=>?_) (fun hC=>?_)
  ·by_cases hin:0≤z∧z < n
   ·obtain ⟨hz0,hz1⟩:=hin
    have hfg:=nZ l1 n hz0 hz1
    clear had hok hl
    repeat' (first|refine go ?_|refine HK a6 FS ?_|refine HV FS ?_|refine HW HF ?_|(apply bK;first|refine HO a6 0 HG ?_|refine HO a6 1 HG ?_|refine HO a6 2 HG ?_|refine HO a6 3 HG ?_|refine HP a6 0 HG ?_|refine HP a6 1 HG ?_|refine HP a6 2 HG ?_|refine HR a6 1 HE (by assumption) rfl ?_|refine HR a6 0 HE (by assumption) rfl ?_|fail)|(apply aU;first|refine aT a6 ?_|refine aM a6 ?_)|refine bk rfl rfl rfl (fun _=>?_) (fun _=>?_))
    all_goals exact K _ _ rfl rfl (by simp_all)
   ·clear had hok hl
    repeat' (first|refine go ?_|refine HK a6 FS ?_|refine HV FS ?_|refine HW HF ?_|(apply bK;first|refine HO a6 0 HG ?_|refine HO a6 1 HG ?_|refine HO a6 2 HG ?_|refine HO a6 3 HG ?_|refine HP a6 0 HG ?_|refine HP a6 1 HG ?_|refine HP a6 2 HG ?_|refine HR a6 1 HE (by assumption) rfl ?_|refine HR a6 0 HE (by assumption) rfl ?_|fail)|refine bk rfl rfl rfl (fun _=>?_) (fun _=>?_))
    all_goals first
     | (refine K _ _ rfl rfl ?_;exact ⟨fun e=>(by cases e),fun hh=>absurd (And.intro hh.1 hh.2.1) hin⟩)
     | (rename_i e1 e2;exact absurd ⟨Iy e1,Iy e2⟩ hin)
  ·obtain ⟨hz0,hz1,hz2⟩:=hC
   have had':di n l (ns.take (i+1))=l1++[z]:=by rw [had];unfold addOne;rw [if_pos ⟨hz0,hz1,hz2⟩]
   repeat' (first|refine go ?_|refine HK a6 FS ?_|(apply bK;first|refine HO a6 0 HG ?_|refine HO a6 1 HG ?_|refine HO a6 2 HG ?_|refine HO a6 3 HG ?_|refine HP a6 0 HG ?_|refine HP a6 1 HG ?_|refine HP a6 2 HG ?_|refine HR a6 1 HE (by assumption) rfl ?_|refine HR a6 0 HE (by assumption) rfl ?_|fail)|(apply aU;first|refine aT a6 ?_|refine aM a6 ?_)|fail)
   refine aj a6 1 rfl rfl rfl rfl rfl rfl (by rw [Nat.ble_eq,o0];show _+1≤n;omega) ?_
   rw [gI,rO l1 n hz0 hz1]
   repeat' (first|refine go ?_|refine HK a6 FS ?_|(apply bK;first|refine HO a6 0 HG ?_|refine HO a6 1 HG ?_|refine HO a6 2 HG ?_|refine HO a6 3 HG ?_|refine HP a6 0 HG ?_|refine HP a6 1 HG ?_|refine HP a6 2 HG ?_|refine HR a6 1 HE (by assumption) rfl ?_|refine HR a6 0 HE (by assumption) rfl ?_|fail)|refine bG a6 ?_|fail)
   refine bB a6 [(p,.box [.sc (.slice (some ⟨b,0,none⟩) n n),.vec k 1 (aZ l1)] 131),(b,.box (gL (l1++[z]) n) 4)] rfl rfl rfl rfl (List.perm_append_comm (l₁:=[(p,AB.box [.sc (.slice (some ⟨b,0,none⟩) n n),.vec k 1 (aZ l1)] 131),(b,AB.box (gL (l1++[z]) n) 4)])) (by rw [aQ];simp;omega) (by rw [aQ];simp;omega) rfl fun k'=>?_
   refine aO (aK List.perm_append_comm) ?_
   repeat' (first|refine go ?_|refine HK a6 FS ?_|(apply aW;refine aV ?_)|(apply aG;first|refine HM a6 0 HH ?_|refine HM a6 1 HH ?_|refine HM a6 2 HH ?_|refine HM a6 3 HH ?_|fail))
   rw [show aZ l1++[[aP z]]=aZ (l1++[z]) from kZ l1 [z],←had']
   refine aB (i+1,k') rfl ⟨by rw [Iv];rfl,trivial⟩ (by dsimp only;omega) (by dsimp only;omega) (fun _ _ h=>h)
  ·have had':di n l (ns.take (i+1))=l1:=by rw [had];unfold addOne;rw [if_neg hC]
   repeat' (first|refine go ?_|refine HK a6 FS ?_|(apply aW;refine aV ?_)|fail)
   refine aB (i+1,k) rfl ⟨by rw [Iv];rfl,trivial⟩ (by dsimp only;omega) (by dsimp only;omega) (fun _ _ h=>by dsimp only;rw [had'];exact h)
 ·have hil:i=ns.length:=by have:=Ix h;simp [aQ] at this;omega
  subst hil
  rw [List.take_length]
  repeat' (first|refine go ?_|fail)
  exact dY rfl ⟨k,rfl⟩
theorem C2 (p b n:Nat) (k:Option (Nat×Nat)) (l:List Int) (hl:l.length≤1000000):AC Tryz.prog 46 [g9 p] (bJ p b n k l) fun c L=>c= .imm 1 (aZ (dW l))∧L=bJ p b n k l:=by
 refine aS Tryz.func46 rfl Tryz.ntmps46 rfl fun B=>?_
 repeat' (first|refine go ?_|refine HK a6 FS ?_|(apply bK;first|refine HO a6 0 HG ?_|refine HO a6 1 HG ?_|refine HO a6 2 HG ?_|refine HO a6 3 HG ?_|refine HP a6 0 HG ?_|refine HP a6 1 HG ?_|refine HP a6 2 HG ?_|refine HR a6 1 HE (by assumption) rfl ?_|refine HR a6 0 HE (by assumption) rfl ?_|fail)|fail)
 refine lb a6 l.length rfl rfl rfl rfl rfl (by rw [aQ]) (by rw [aQ]) (by omega) (by omega) rfl fun b3=>?_
 rw [show (List.replicate l.length (List.map AV.sc [Value.int .i64 0])).flatten=eX l 0 from mX l _ rfl]
 repeat' (first|refine go ?_|refine ak ?_|refine HK a6 FS ?_|(apply bK;first|refine HO a6 0 HG ?_|refine HO a6 1 HG ?_|refine HO a6 2 HG ?_|refine HO a6 3 HG ?_|refine HP a6 0 HG ?_|refine HP a6 1 HG ?_|refine HP a6 2 HG ?_|refine HR a6 1 HE (by assumption) rfl ?_|refine HR a6 0 HE (by assumption) rfl ?_|fail)|fail)
 refine aJ [3,15,16] (α:=Nat) (fun i=>[(17,aP i)]) (fun i=>i≤l.length) (fun i=>(b3,.box (eX l i) 3)::bJ p b n k l) (fun i=>l.length - i) 0 rfl ⟨rfl,trivial⟩ (Nat.zero_le _) (fun _ _ h=>h) fun i hi=>?_
 try dsimp only [Ir,Iq,Ip,Ij]
 repeat' (first|refine go ?_|refine HK a6 FS ?_)
 refine ay rfl (fun h=>?_) (fun h=>?_)
 ·have hil:i < l.length:=by have:=Iy h;simp [aQ] at this;omega
  obtain ⟨z,hz⟩:∃z,l[i]?=some z:=⟨_,Iz hil⟩
  have hzg:=bT hz
  repeat' (first|refine go ?_|refine ak ?_|refine HK a6 FS ?_|(apply aU;first|refine aT a6 ?_|refine aM a6 ?_)|fail)
  refine aj a6 0 rfl rfl rfl rfl rfl rfl (by rw [Nat.ble_eq,pn l hi];show _+1≤l.length;omega) ?_
  rw [gI,po hz]
  repeat' (first|refine go ?_|refine HK a6 FS ?_|(apply aW;refine aV ?_)|fail)
  exact aB (i+1) rfl ⟨by rw [Iv];rfl,trivial⟩ (by omega) (by omega) (fun _ _ h=>h)
 ·have hil:i=l.length:=by have:=Ix h;simp [aQ] at this;omega
  subst hil
  rw [pm]
  repeat' (first|refine go ?_|refine HK a6 FS ?_)
  refine ba [(b3,.box (l.map aP) 3)] (bJ p b n k l) (tp b3 l.length l rfl hl) rfl rfl (Im _) rfl fun c L1 hL1=>?_
  subst hL1
  repeat' (first|refine go ?_|refine HK a6 FS ?_)
  refine bc (nF (t:=2) (sz:=1) (l:=aZ (dW l)) 0 rfl rfl (jz _).symm (by simp [aZ]) (by rw [aQ,j7]) (by omega)) ?_
  exact cX (List.sublist_cons_self ..) (pL rfl rfl rfl ⟨rfl,rfl⟩)
theorem FC {α:Type} {σ0:ce} {l p b n:Nat} (S:α→List Int) (K:α→Option (Nat×Nat)) (E:α→AL) (J:Nat→α→Prop) (hn:n≤1000000) (hJ:∀i x,J i x→i≤(S x).length∧(S x).length≤n)
  (hy:∀i x z,J i x→(S x)[i]?=some z→AY Tryz.prog σ0 l [aP z] (bJ p b n (K x) (S x)++E x) fun c L=>c=cx true∧∃x',J (i+1) x'∧L=bJ p b n (K x') (S x')++E x') (x0:α) (h0:J 0 x0):
  Cx Tryz.prog σ0 147 [.sc (.func (.yield l) #[] #[]),.iptr [g9 p]] (bJ p b n (K x0) (S x0)++E x0) fun _ L=>∃x,J (S x).length x∧L=bJ p b n (K x) (S x)++E x:=by
 refine sv Tryz.func147 rfl Tryz.ntmps147 rfl fun B hB=>?_
 repeat' (first|refine go ?_|refine ak ?_|refine HK a6 FS ?_)
 refine aJ [0,1] (α:=Nat×α) (fun y=>[(3,aP y.1)]) (fun y=>J y.1 y.2) (fun y=>bJ p b n (K y.2) (S y.2)++E y.2) (fun y=>n - y.1) (0,x0) rfl ⟨rfl,trivial⟩ h0 (fun _ _ h=>h) ?_
 rintro ⟨i,x⟩ hj
 dsimp only at hj ⊢
 obtain ⟨hi,hl⟩:=hJ i x hj
 try dsimp only [Ir,Iq,Ip,Ij]
 repeat' (first|refine go ?_|refine HK a6 FS ?_|(apply bK;first|refine HO a6 0 HG ?_|refine HO a6 1 HG ?_|refine HO a6 2 HG ?_|refine HO a6 3 HG ?_|refine HP a6 0 HG ?_|refine HP a6 1 HG ?_|refine HP a6 2 HG ?_|refine HR a6 1 HE (by assumption) rfl ?_|refine HR a6 0 HE (by assumption) rfl ?_|fail)|fail)
 refine ay rfl (fun h=>?_) (fun h=>?_)
 ·have hil:i < (S x).length:=by have:=Iy h;simp [aQ] at this;omega
  obtain ⟨z,hz⟩:∃z,(S x)[i]?=some z:=⟨_,Iz hil⟩
  have hzg:=bT hz
  repeat' (first|refine go ?_|refine ak ?_|refine HK a6 FS ?_|(apply bK;first|refine HO a6 0 HG ?_|refine HO a6 1 HG ?_|refine HO a6 2 HG ?_|refine HO a6 3 HG ?_|refine HP a6 0 HG ?_|refine HP a6 1 HG ?_|refine HP a6 2 HG ?_|refine HR a6 1 HE (by assumption) rfl ?_|refine HR a6 0 HE (by assumption) rfl ?_|fail)|(apply aU;first|refine aT a6 ?_|refine aM a6 ?_)|fail)
  refine pt (bJ p b n (K x) (S x)++E x) [] hB (hy i x z hj hz) rfl rfl rfl (by rw [List.append_nil]) rfl rfl fun c L1 ⟨hc,x',hj',hL⟩=>?_
  subst hc;subst hL
  rw [List.append_nil]
  repeat' (first|refine go ?_|refine HK a6 FS ?_|(apply aW;refine aV ?_)|refine bF rfl ?_)
  have:=hJ _ _ hj'
  exact aB (i+1,x') rfl ⟨by rw [Iv];rfl,trivial⟩ hj' (by dsimp only;omega) (fun _ _ h=>h)
 ·have hil:i=(S x).length:=by have:=Ix h;simp [aQ] at this;omega
  subst hil
  repeat' (first|refine go ?_|fail)
  exact dY rfl ⟨x,hj,rfl⟩
theorem yU (p:Nat):bV Tryz.prog 85 [g9 p] (.fn 147 [.iptr [g9 p]]):=by
 refine aS Tryz.func85 rfl Tryz.ntmps85 rfl fun B=>?_
 repeat' (first|refine go ?_|refine HK a6 FS ?_|refine bh ?_|fail)
 exact HT HE
instance (p:Nat):AD Tryz.prog 85 [g9 p] (.fn 147 [.iptr [g9 p]]):=⟨yU p⟩
end Go.Proofs.YtjjpkibjffmceaaGreat
