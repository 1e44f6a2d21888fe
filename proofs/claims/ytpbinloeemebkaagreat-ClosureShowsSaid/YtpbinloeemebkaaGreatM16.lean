/-
  The program: check.Font.
-/
import Derived.Test.YtpbinloeemebkaaGreatM15
import Derived.Test.YtpbinloeemebkaaGreatM11
namespace Go.Proofs.YtpbinloeemebkaaGreat
open Go.RowKit
attribute [local irreducible] AT bO AX AO Av Kt bo dU DA cT
theorem km {err:Nat→Int}:∀(k i:Nat),(da err k i).1=0↔∀j,i≤j→j < i+k→err j=0
 | 0,i=>by simp only [da,true_iff];intro j h1 h2;omega
 | k+1,i=>by
  simp only [da]
  by_cases h:err i=0
  ·rw [if_pos h,km k (i+1)]
   constructor
   ·intro hh j h1 h2
    by_cases e:j=i
    ·subst e;exact h
    ·exact hh j (by omega) (by omega)
   ·intro hh j h1 h2;exact hh j (by omega) (by omega)
  ·rw [if_neg h]
   constructor
   ·intro hh;exact absurd hh h
   ·intro hh;exact hh i (Nat.le_refl _) (by omega)
theorem pE {α:Type} {l:List α} {w:Nat→α→Int}:(d5 l w).1=0↔∀i x,l[i]?=some x→w i x=0:=by
 unfold d5 dk
 rw [km]
 constructor
 ·intro h i x hx
  have:=h i (Nat.zero_le _) (by have:=(Hp hx).1;omega)
  rwa [il hx] at this
 ·intro h j _ hj
  obtain ⟨x,hx⟩:∃x,l[j]?=some x:=⟨_,Hz (by omega)⟩
  rw [il hx]
  exact h j x hx
theorem iI {α:Type} {most:Int} {l:List α} {w:Nat→α→Int}:(ck most l w).1=0↔(l.length:Int)≤most∧∀i x,l[i]?=some x→w i x=0:=by
 have h:=pE (l:=l) (w:=w)
 unfold d5 at h
 unfold ck d6
 by_cases hm:(l.length:Int) > most
 ·rw [if_pos hm]
  constructor
  ·intro hh;cases hh
  ·intro hh;omega
 ·rw [if_neg hm,h]
  exact ⟨fun hh=>⟨by omega,hh⟩,fun hh=>hh.2⟩
theorem dl:∀{l:List (Int×Int)},(gu l).1=0↔∀x∈l,x.1=0
 | []=>by simp [gu]
 | x::r=>by
  unfold gu
  by_cases h:x.1=0
  ·rw [if_pos h,dl]
   constructor
   ·intro hh y hy
    rcases List.mem_cons.1 hy with rfl | hy
    ·exact h
    ·exact hh y hy
   ·intro hh y hy;exact hh y (Ht _ hy)
  ·rw [if_neg h]
   constructor
   ·intro hh;exact absurd hh h
   ·intro hh;exact hh x (List.mem_cons_self ..)
theorem j7 {f:aL} (h:(ck 400 f.Glyphs (dQ f)).1=0):uQ f:=by
 obtain ⟨h1,h2⟩:=iI.1 h
 have hg:∀gl∈f.Glyphs,∃name,nR f gl name=0:=fun gl hgl=>by
  obtain ⟨i,hi⟩:=List.mem_iff_getElem?.1 hgl
  exact ⟨_,h2 i gl hi⟩
 have hgl:∀gl∈f.Glyphs,iH gl=0∧(ck 8 gl.Parts (lQ f)).1=0:=fun gl hm=>by
  obtain ⟨name,hn⟩:=hg gl hm
  unfold nR at hn
  rw [dl] at hn
  exact ⟨hn (iH gl,0) (by simp),hn (ck 8 gl.Parts (lQ f)) (by simp)⟩
 refine ⟨⟨by omega,fun gl hm=>?_⟩,fun gl hm=>?_,fun gl hm p hp=>?_⟩
 ·have:=(iI.1 (hgl gl hm).2).1;omega
 ·have h3:=(hgl gl hm).1
  unfold iH at h3
  split at h3
  ·cases h3
  ·split at h3
   ·cases h3
   ·omega
 ·obtain ⟨i,hi⟩:=List.mem_iff_getElem?.1 hp
  have h3:=(iI.1 (hgl gl hm).2).2 i p hi
  unfold lQ at h3
  split at h3
  ·cases h3
  ·rename_i hh
   simpa using hh
theorem y8 {f:aL} (hf:uQ f) (ha:kx f.Glyphs.length (prt f)) {D P D' P':Int→Int} (h:jw f D P) (h':jw f D' P'):∀z:Int,0≤z→z < f.Glyphs.length→D z=D' z∧P z=P' z:=by
 obtain ⟨r,hr⟩:=ha
 have:∀(k:Nat) (z:Int),r z < k→0≤z→z < f.Glyphs.length→D z=D' z∧P z=P' z:=by
  intro k
  induction k with
  | zero=>intro z hk;exact absurd hk (Nat.not_lt_zero _)
  | succ k ih=>
   intro z hk h0 h1
   obtain ⟨gl,hgl⟩:∃g,f.Glyphs[z.toNat]?=some g:=⟨_,Hz (by omega)⟩
   have hsm:∀p∈gl.Parts,D p.Glyph=D' p.Glyph∧P p.Glyph=P' p.Glyph:=fun p hp=>by
    have hin:=oY.1 (hf.there gl (Hw hgl) p hp)
    have:=hr z h0 h1 p.Glyph (by rw [sK hf hgl];exact List.mem_map_of_mem hp)
    exact ih p.Glyph (by omega) hin.1 hin.2
   obtain ⟨h2,h3⟩:=h z h0 h1 gl hgl
   obtain ⟨h4,h5⟩:=h' z h0 h1 gl hgl
   rw [h2,h3,h4,h5]
   exact ⟨tz fun p hp=>(hsm p hp).1,uh fun p hp=>(hsm p hp).2⟩
 intro z h0 h1
 exact this (r z+1) z (by omega) h0 h1
theorem vp {n:Nat} {D P D' P':Int→Int} (h:∀z:Int,0≤z→z < n→D z=D' z∧P z=P' z):ou n D P=ou n D' P':=by
 unfold ou
 rw [List.map_congr_left (f:=D) (g:=D') fun z hz=>(h z (fe.1 hz).1 (fe.1 hz).2).1,List.map_congr_left (f:=P) (g:=P') fun z hz=>(h z (fe.1 hz).1 (fe.1 hz).2).2]
open Classical in
noncomputable def mD (f:aL):Int×Int:=if h:∃q:(Int→Int)×(Int→Int),jw f q.1 q.2 then ou f.Glyphs.length h.choose.1 h.choose.2 else (33,0)
theorem pw {f:aL} (hf:uQ f) (ha:kx f.Glyphs.length (prt f)) {D P:Int→Int} (h:jw f D P):mD f=ou f.Glyphs.length D P:=by
 unfold mD
 have hex:∃q:(Int→Int)×(Int→Int),jw f q.1 q.2:=⟨(D,P),h⟩
 rw [dif_pos hex]
 exact vp (y8 hf ha hex.choose_spec h)
theorem Cu (f:aL) (hf:uQ f) (ha:kx f.Glyphs.length (prt f)):AC Tryz.prog 88 [.iptr (cf f)] [] fun c _=>c=ct ((mD f).1,(mD f).2):=by
 refine aT Tryz.func88 rfl Tryz.ntmps88 rfl fun B=>?_
 repeat' (first|refine go ?_|refine HF a1 F8 ?_)
 refine bb [] [] (tx f hf (.inl ha)) rfl rfl (Ho _) rfl fun c L1 hc=>?_
 rcases hc with ⟨D,P,h1,h2,hc⟩ | ⟨hna,_⟩
 ·rw [←pw hf ha h1] at hc
  subst hc
  unfold ct
  repeat' (first|refine go ?_|refine HF a1 F8 ?_)
  exact bc rfl rfl rfl rfl
 ·exact absurd ha hna
def wW (_:Nat) (l:List fT):Int:=n3 l
def o5 (f:aL) (_:Nat) (r:List eX):Int:=yM f.Axes.length r
def jS (f:aL) (_:Nat) (l:aP):Int:=lx f l
noncomputable def wT (f:aL):List (Int×Int):=[(lK f,0),ck 400 f.Glyphs (dQ f),mD f,ck 1000 f.Chars (i9 f),ck 40 f.Lookups (jS f),ck 20 f.Features (iW f),ck 3 f.Axes (jC f),ck 16 f.Regions (o5 f),ck 20 f.Funcs wW,ck 64 f.Cvt A9]
noncomputable def lI (f:aL):Int×Int:=gu (wT f)
noncomputable def wU (f:aL) (m1 m2 m3:Nat):List Lk:=[⟨81,[.iptr (cf f)],[],lK f,0⟩,
 ⟨148,[.iptr [.imm 9 (f.Glyphs.map bS)],.iptr [aH 400],.iptr [.fn 84 [.iptr (cf f),.iptr [.sc (.map (some m1))]]]],[(m1,dc .string (cQ (jM f)))],(ck 400 f.Glyphs (dQ f)).1,(ck 400 f.Glyphs (dQ f)).2⟩,
 ⟨88,[.iptr (cf f)],[],(mD f).1,(mD f).2⟩,
 ⟨168,[.iptr [.imm 2 (f.Chars.map dJ)],.iptr [aH 1000],.iptr [.fn 91 [.iptr (cf f)]]],[],(ck 1000 f.Chars (i9 f)).1,(ck 1000 f.Chars (i9 f)).2⟩,
 ⟨170,[.iptr [.imm 3 (f.Lookups.map bF)],.iptr [aH 40],.iptr [.fn 94 [.iptr (cf f)]]],[],(ck 40 f.Lookups (jS f)).1,(ck 40 f.Lookups (jS f)).2⟩,
 ⟨178,[.iptr [.imm 2 (f.Features.map c8)],.iptr [aH 20],.iptr [.fn 97 [.iptr (cf f),.iptr [.sc (.map (some m2))]]]],[(m2,dc .string (cQ (la f)))],(ck 20 f.Features (iW f)).1,(ck 20 f.Features (iW f)).2⟩,
 ⟨181,[.iptr [.imm 4 (f.Axes.map cO)],.iptr [aH 3],.iptr [.fn 101 [.iptr [.sc (.map (some m3))]]]],[(m3,dc .string (cQ (ir f)))],(ck 3 f.Axes (jC f)).1,(ck 3 f.Axes (jC f)).2⟩,
 ⟨183,[.iptr [.imm 1 (f.Regions.map bT)],.iptr [aH 16],.iptr [.fn 104 [.iptr (cf f)]]],[],(ck 16 f.Regions (o5 f)).1,(ck 16 f.Regions (o5 f)).2⟩,
 ⟨187,[.iptr [.imm 1 (f.Funcs.map dE)],.iptr [aH 20],.iptr [.sc (.func (.func 107) #[] #[])]],[],(ck 20 f.Funcs wW).1,(ck 20 f.Funcs wW).2⟩,
 ⟨191,[.iptr [.imm 1 (f.Cvt.map xQ)],.iptr [aH 64],.iptr [.sc (.func (.func 110) #[] #[])]],[],(ck 64 f.Cvt A9).1,(ck 64 f.Cvt A9).2⟩]
theorem vz (f:aL) (m1 m2 m3:Nat) (hA:(ck 400 f.Glyphs (dQ f)).1=0→kx f.Glyphs.length (prt f)):vS (wU f m1 m2 m3):=by
 refine ⟨⟨inferInstance,ym f⟩,fun _=>⟨⟨inferInstance,?_⟩,fun h1=>⟨⟨inferInstance,Cu f (j7 h1) (hA h1)⟩,fun _=>⟨⟨inferInstance,?_⟩,fun _=>⟨⟨inferInstance,?_⟩,fun _=>⟨⟨inferInstance,?_⟩,fun _=>⟨⟨inferInstance,?_⟩,fun _=>⟨⟨inferInstance,?_⟩,fun _=>⟨⟨inferInstance,?_⟩,fun _=>⟨⟨inferInstance,?_⟩,fun _=>trivial⟩⟩⟩⟩⟩⟩⟩⟩⟩⟩
 ·exact Di (u:= .fn 84 [.iptr (cf f),.iptr [.sc (.map (some m1))]]) rfl f.Glyphs 400 (fR f.Glyphs (dQ f)) (fun _ L=>L=[(m1,dc .string (cQ (jM f)))]) _ rfl fun _=>qJ fun i x _=>vH f i x m1
 ·exact Dj (u:= .fn 91 [.iptr (cf f)]) rfl f.Chars 1000 (fR f.Chars (i9 f)) (fun _ _=>True) [] trivial fun hm=>dh fun i x hx=>xV f i x hx hm
 ·exact Dk (u:= .fn 94 [.iptr (cf f)]) rfl f.Lookups 40 (fR f.Lookups (jS f)) (fun _ _=>True) [] trivial fun _=>dh fun i x _=>sv f i x
 ·exact Dl (u:= .fn 97 [.iptr (cf f),.iptr [.sc (.map (some m2))]]) rfl f.Features 20 (fR f.Features (iW f)) (fun _ L=>L=[(m2,dc .string (cQ (la f)))]) _ rfl fun _=>qJ fun i x _=>yf f i x m2
 ·exact Dm (u:= .fn 101 [.iptr [.sc (.map (some m3))]]) rfl f.Axes 3 (fR f.Axes (jC f)) (fun _ L=>L=[(m3,dc .string (cQ (ir f)))]) _ rfl fun _=>qJ fun i x _=>xM f i x m3
 ·exact Dn (u:= .fn 104 [.iptr (cf f)]) rfl f.Regions 16 (fR f.Regions (o5 f)) (fun _ _=>True) [] trivial fun _=>dh fun i x _=>uq f i x
 ·exact Do (u:= .sc (.func (.func 107) #[] #[])) (g:=107) (caps:=[]) rfl f.Funcs 20 (fR f.Funcs wW) (fun _ _=>True) [] trivial fun _=>dh fun i x _=>xX i x
 ·exact Dp (u:= .sc (.func (.func 110) #[] #[])) (g:=110) (caps:=[]) rfl f.Cvt 64 (fR f.Cvt A9) (fun _ _=>True) [] trivial fun _=>dh fun i x _=>A7 i x
set_option maxHeartbeats 4000000 in
theorem CS (f:aL) (hA:(ck 400 f.Glyphs (dQ f)).1=0→kx f.Glyphs.length (prt f)):AC Tryz.prog 53 [cx f] [] fun c _=>c=ct (lI f):=by
 refine aT Tryz.func53 rfl Tryz.ntmps53 rfl fun B=>?_
 repeat' (first|refine go ?_|refine HF a1 F8 ?_|refine bC ?_|fail)
 refine bb [] _ (Am f.Glyphs) rfl rfl (Ho _) rfl fun c L1 ⟨m1,hc,hL⟩=>?_
 subst hc;subst hL
 repeat' (first|refine go ?_|refine HF a1 F8 ?_|(apply aQ;first|refine HH 4 a1 0 HE ?_|refine HH 4 a1 1 HE ?_|refine HH 4 a1 2 HE ?_|refine HH 5 a1 0 HE ?_|refine HH 5 a1 1 HE ?_|refine HH 5 a1 2 HE ?_|refine HH 6 a1 0 HE ?_|refine HH 6 a1 1 HE ?_|refine HH 6 a1 2 HE ?_|refine HG a1 0 HD ?_|refine HG a1 1 HD ?_|refine HG a1 2 HD ?_|refine HG a1 3 HD ?_|fail)|refine bl a1 fun _=>?_|fail)
 refine bb [] _ (An f.Features) rfl rfl (Ho _) rfl fun c L1 ⟨m2,hc,hL⟩=>?_
 subst hc;subst hL
 repeat' (first|refine go ?_|refine HF a1 F8 ?_|(apply aQ;first|refine HH 4 a1 0 HE ?_|refine HH 4 a1 1 HE ?_|refine HH 4 a1 2 HE ?_|refine HH 5 a1 0 HE ?_|refine HH 5 a1 1 HE ?_|refine HH 5 a1 2 HE ?_|refine HH 6 a1 0 HE ?_|refine HH 6 a1 1 HE ?_|refine HH 6 a1 2 HE ?_|refine HG a1 0 HD ?_|refine HG a1 1 HD ?_|refine HG a1 2 HD ?_|refine HG a1 3 HD ?_|fail)|refine bl a1 fun _=>?_|fail)
 refine bb [] _ (Ao f.Axes) rfl rfl (Ho _) rfl fun c L1 ⟨m3,hc,hL⟩=>?_
 subst hc;subst hL
 repeat' (first|refine go ?_|(apply aQ;first|refine HH 4 a1 0 HE ?_|refine HH 4 a1 1 HE ?_|refine HH 4 a1 2 HE ?_|refine HH 5 a1 0 HE ?_|refine HH 5 a1 1 HE ?_|refine HH 5 a1 2 HE ?_|refine HH 6 a1 0 HE ?_|refine HH 6 a1 1 HE ?_|refine HH 6 a1 2 HE ?_|refine HG a1 0 HD ?_|refine HG a1 1 HD ?_|refine HG a1 2 HD ?_|refine HG a1 3 HD ?_|fail)|refine bl a1 fun _=>?_|fail)
 refine bj 36 [(0,.v),(1,.v),(2,.v),(3,.v),(4,.v),(5,.v),(6,.v),(7,.v),(8,.v),(9,.v),(10,.v),(11,.v),(12,.v),(13,.v),(14,.v),(15,.v),(16,.v),(17,.v),(18,.v),(19,.v),(20,.v),(21,.v),(22,.v),(23,.v),(24,.v),(25,.v),(26,.v),(27,.v),(28,.v),(29,.v),(30,.v),(31,.v),(32,.v),(33,.e),(34,.v),(35,.v)] none ?_ trivial rfl (by kernel_rfl) (by kernel_rfl) (by kernel_rfl) mixed (by kernel_rfl) rfl
 repeat' (first|refine aE ?_|refine ba a1 ?_|(apply dm;refine dP ?_)|fail)
 refine dP (hc:=⟨EO f.Cvt 64⟩) ?_
 repeat' (first|refine aE ?_|refine ek a1 ?_|fail)
 refine fj (L:=[(m3,dc .string (cQ (ir f))),(m2,dc .string (cQ (la f))),(m1,dc .string (cQ (jM f)))]) _ [] (jh (wU f m1 m2 m3) (vz f m1 m2 m3 hA)) rfl rfl (by rw [List.append_nil];exact (List.reverse_perm _).symm) trivial fun c L1 hc=>?_
 rw [jR] at hc
 have hc:c=ct (lI f):=hc
 subst hc
 unfold ct
 repeat' (first|refine aE ?_|refine ba a1 ?_|fail)
 refine HR [50,51] F8 ?_
 repeat' (first|refine go ?_|refine a8 ?_|refine HF a1 F8 ?_)
 exact bc rfl rfl rfl rfl
theorem BB (f:aL) (hA:(ck 400 f.Glyphs (dQ f)).1=0→kx f.Glyphs.length (prt f)):bM Tryz.prog 34 [cx f] (c9 (decide ((lI f).1=0))):=by
 refine aT Tryz.func34 rfl Tryz.ntmps34 rfl fun B=>?_
 repeat' (first|refine go ?_|refine HF a1 F8 ?_|refine bC ?_|fail)
 refine bb [] [] (CS f hA) rfl rfl (Ho _) rfl fun c L1 hc=>?_
 subst hc
 unfold ct
 repeat' (first|refine go ?_|refine HF a1 F8 ?_)
 exact HP HA
end Go.Proofs.YtpbinloeemebkaaGreat
namespace Go.Proofs.YtpbinloeemebkaaGreat
section
variable {α β:Type}
def bU (g:DM α) (P:α→Prop):Prop:=∀m,P (g m).1
theorem bU.ret {x:α} {P:α→Prop} (h:P x):bU (cC x) P:=fun _=>h
theorem bU.bnd {g:DM α} {k:α→DM β} {P:α→Prop} {Q:β→Prop} (h:bU g P) (hk:∀x,P x→bU (k x) Q):bU (c7 g k) Q:=fun m=>hk _ (h m) _
theorem bU.mono {g:DM α} {P Q:α→Prop} (h:bU g P) (hq:∀x,P x→Q x):bU g Q:=fun m=>hq _ (h m)
theorem bU.any (g:DM α):bU g fun _=>True:=fun _=>trivial
theorem bU.runs {g:Nat→β→DM β} (I:Nat→β→Prop) {b:β}:∀(k:Nat),I 0 b→(∀i l,i < k→I i l→bU (g i l) (I (i+1)))→bU (gS g b k) (I k)
 | 0,h0,_=>bU.ret h0
 | k+1,h0,hs=>bU.bnd (bU.runs I k h0 fun i l hi hl=>hs i l (by omega) hl) fun l hl=>hs k l (by omega) hl
theorem bU.ite {c:Prop} [Decidable c] {g k:DM α} {P:α→Prop} (h:c→bU g P) (h':¬c→bU k P):bU (if c then g else k) P:=by
 split
 ·exact h ‹_›
 ·exact h' ‹_›
end
variable (s:List Int)
theorem CB (a:Nat) {n:Int} (hn:0 < n):0≤s9 s a n∧s9 s a n < n:=by
 unfold s9
 split
 ·rename_i x _
  exact ⟨Int.emod_nonneg x (by omega),Int.emod_lt_of_pos x hn⟩
 ·omega
theorem cS {n:Int} (hn:0 < n):bU (dr s n) fun z=>0≤z∧z < n:=fun m=>CB s m.a hn
def we (p:eB):Prop:= -100≤p.X∧p.X≤900∧-200≤p.Y∧p.Y≤800
theorem F0 (p:Nat):bU (E1 s p) we:=by
 refine (cS s (by omega)).bnd fun x hx=>(cS s (by omega)).bnd fun y hy=>bU.ite (fun _=>bU.ret ?_) fun _=>(bU.any _).bnd fun z _=>bU.ret ?_
 all_goals (unfold we;dsimp only;omega)
theorem xj (l:List eB) (hl:∀p∈l,we p) (k:Nat):bU (o4 s l k) fun q=>q.length=l.length+k∧∀p∈q,we p:=by
 refine bU.runs (fun i (q:List eB)=>q.length=l.length+i∧∀p∈q,we p) k ⟨rfl,hl⟩ fun i q _ ⟨h1,h2⟩=>(F0 s i).bnd fun t ht=>bU.ret ⟨by simp;omega,fun p hp=>?_⟩
 rcases Hn hp with hp | hp
 ·exact h2 p hp
 ·rw [Hm hp];exact ht
theorem ri {n m:Int} (h:n+2≤m):∀(l:List Int) (last:Int),fJ n last l=true→fJ m last (l++[m - 1])=true
 | [],last,hl=>by
  have:last=n - 1:=Hy hl
  rw [Hr,fJ,if_neg (by omega),fJ]
  simp
 | e::l,last,hl=>by
  rw [fJ] at hl
  split at hl
  ·cases hl
  ·rw [Hs,fJ,if_neg (by omega)]
   exact ri h l e hl
structure sV (n:Nat) (o:List eB×List Int):Prop where
 pts:∀p∈o.1,we p
 len:o.1.length≤5 * n
 ends:fJ o.1.length (-1) o.2=true
 endl:o.2.length=n
theorem ug (n:Nat):bU (i6 s n) (sV n):=by
 refine bU.runs (fun i o=>sV i o) n ⟨fun p hp=>(by cases hp),Nat.le_refl _,rfl,rfl⟩ fun i o _ h=>(cS s (by omega)).bnd fun k hk=>(xj s o.1 h.pts _).bnd fun l hl=>bU.ret ?_
 refine ⟨hl.2,by have:=h.len;dsimp only;omega,?_,by simp [h.endl]⟩
 dsimp only
 exact ri (by omega) _ _ h.ends
theorem oF:bU (jo s) fun o=>∃n,n≤2∧sV n o:=by
 refine (cS s (by omega)).bnd fun n hn=>(ug s _).mono fun o ho=>⟨_,by omega,ho⟩
def jj (i:fT):Prop:=1≤i.Op∧i.Op≤39∧-100000≤i.A∧i.A≤100000
def iu (k:Nat) (l:List fT):Prop:=l.length≤k∧∀i∈l,jj i
theorem rH {n funcs:Int} (hn:0≤n∧n≤1000) (hf:funcs≤1000):bU (cG s n funcs) (iu 9):=by
 have hsz:∀q,0≤q→q < n+1→bU (gB q) (iu 9):=fun q h0 h1=>bU.ret ⟨by simp,by simp only [List.mem_cons,List.not_mem_nil,or_false,forall_eq_or_imp,forall_eq,jj];omega⟩
 unfold cG
 refine (cS s (by omega)).bnd fun p hp=>(cS s (by omega)).bnd fun q hq=>(cS s (by omega)).bnd fun a ha=>(cS s (by omega)).bnd fun k hk=>?_
 refine bU.ite (fun _=>bU.ret ?_) fun _=>?_
 ·exact ⟨by simp,by simp only [List.mem_cons,List.not_mem_nil,or_false,forall_eq_or_imp,forall_eq,jj];omega⟩
 refine bU.ite (fun _=>(cS s (by omega)).bnd fun z hz=>bU.ret ?_) fun _=>?_
 ·exact ⟨by simp,by simp only [List.mem_cons,List.not_mem_nil,or_false,forall_eq_or_imp,forall_eq,jj];omega⟩
 refine bU.ite (fun _=>bU.ret ?_) fun _=>?_
 ·exact ⟨by simp,by simp only [List.mem_cons,List.not_mem_nil,or_false,forall_eq_or_imp,forall_eq,jj];omega⟩
 refine bU.ite (fun _=>(cS s (by omega)).bnd fun z hz=>bU.ret ?_) fun _=>?_
 ·exact ⟨by simp,by simp only [List.mem_cons,List.not_mem_nil,or_false,forall_eq_or_imp,forall_eq,jj];omega⟩
 refine bU.ite (fun _=>bU.ret ?_) fun _=>?_
 ·exact ⟨by simp,by simp only [List.mem_cons,List.not_mem_nil,or_false,forall_eq_or_imp,forall_eq,jj];omega⟩
 refine bU.ite (fun _=>bU.ret ?_) fun _=>?_
 ·exact ⟨by simp,by simp only [List.mem_cons,List.not_mem_nil,or_false,forall_eq_or_imp,forall_eq,jj];omega⟩
 refine bU.ite (fun _=>bU.ret ?_) fun _=>?_
 ·exact ⟨by simp,by simp only [List.mem_cons,List.not_mem_nil,or_false,forall_eq_or_imp,forall_eq,jj];omega⟩
 refine bU.ite (fun _=>bU.ite (fun _=>(cS s (by omega)).bnd fun z hz=>bU.ret ?_) fun _=>hsz q hq.1 hq.2) fun _=>?_
 ·exact ⟨by simp,by simp only [List.mem_cons,List.not_mem_nil,or_false,forall_eq_or_imp,forall_eq,jj];omega⟩
 refine bU.ite (fun _=>bU.ite (fun _=>(bU.any _).bnd fun lo _=>bU.ite (fun _=>(bU.any _).bnd fun _ _=>(cS s (by omega)).bnd fun y hy=>(cS s (by omega)).bnd fun z hz=>bU.ret ?_) fun _=>hsz q hq.1 hq.2) fun _=>hsz q hq.1 hq.2) fun _=>?_
 ·exact ⟨by simp,by simp only [List.mem_cons,List.not_mem_nil,or_false,forall_eq_or_imp,forall_eq,jj];omega⟩
 refine bU.ite (fun _=>bU.ret ?_) fun _=>hsz q hq.1 hq.2
 exact ⟨by simp,by simp only [List.mem_cons,List.not_mem_nil,or_false,forall_eq_or_imp,forall_eq,jj];omega⟩
theorem tS {n funcs most:Int} (hn:0≤n∧n≤1000) (hf:funcs≤1000) (hm:0 < most∧most≤6):bU (mL s n funcs most) (iu 45):=by
 refine (cS s hm.1).bnd fun k hk=>?_
 refine (bU.runs (fun i l=>iu (9 * i) l) k.toNat ⟨Nat.le_refl _,fun i hi=>by cases hi⟩ fun i l _ h=>(rH s hn hf).bnd fun p hp=>bU.ret ⟨by rw [List.length_append];have:=h.1;have:=hp.1;omega,fun x hx=>?_⟩).mono fun l h=>⟨by have:=h.1;omega,h.2⟩
 rcases Hn hx with hx | hx
 ·exact h.2 x hx
 ·exact hp.2 x hx
structure uS (n:Int) (l:List Int):Prop where
  ne:l≠[]
  few:l.length≤4
  up:l.Pairwise (· < ·)
  dom:∀z∈l,0≤z∧z < n
theorem p5 {n:Int} (hn:0 < n):bU (n9 s n) (uS n):=by
  refine (cS s hn).bnd fun a ha=>?_
  refine (bU.runs (fun i (l:List Int)=>(l≠[]∧l.length≤4∧l.Pairwise (· < ·))∧∀z∈l,0≤z∧z≤a+i) (n - (a+1)).toNat ⟨⟨by simp,by simp,by simp⟩,fun z hz=>?_⟩ fun i l hi ⟨⟨h1,h2,h3⟩,h4⟩=>?_).mono fun l ⟨⟨h1,h2,h3⟩,h4⟩=>⟨h1,h2,h3,fun z hz=>by have:=h4 z hz;omega⟩
  · rw [Hm hz];omega
  · refine bU.ite (fun h5=>(bU.any _).bnd fun z _=>bU.ret ?_) fun _=>bU.ret ⟨⟨h1,h2,h3⟩,fun z hz=>by have:=h4 z hz;omega⟩
    split
    · refine ⟨⟨by simp,by simp;omega,?_⟩,fun z hz=>?_⟩
      · rw [List.pairwise_append]
        exact ⟨h3,List.pairwise_singleton ..,fun x hx y hy=>by rw [Hm hy];have:=h4 x hx;omega⟩
      · rcases Hn hz with hz | hz
        · have:=h4 z hz;omega
        · rw [Hm hz];omega
    · exact ⟨⟨h1,h2,h3⟩,fun z hz=>by have:=h4 z hz;omega⟩
def eP (n:Int) (k:Nat) (l:List (List Int)):Prop:=l.length≤k∧∀q∈l,uS n q
theorem n7 {n:Int} (hn:0 < n):bU (oT s n 2) (eP n 2):=by
 refine (cS s (by omega)).bnd fun k hk=>?_
 refine (bU.runs (fun i l=>eP n i l) k.toNat ⟨Nat.le_refl _,fun i hi=>by cases hi⟩ fun i l _ h=>(p5 s hn).bnd fun p hp=>bU.ret ⟨by rw [List.length_append];have:=h.1;simp;omega,fun x hx=>?_⟩).mono fun l h=>⟨by have:=h.1;omega,h.2⟩
 rcases Hn hx with hx | hx
 ·exact h.2 x hx
 ·rw [Hm hx];exact hp
theorem xf {n:Int} (hn:0 < n) (k:Nat):bU (fV s n k) fun l=>l.length=k∧∀z∈l,0≤z∧z < n:=by
 refine bU.runs (fun i (l:List Int)=>l.length=i∧∀z∈l,0≤z∧z < n) k ⟨rfl,fun z hz=>by cases hz⟩ fun i l _ ⟨h1,h2⟩=>(cS s hn).bnd fun x hx=>bU.ret ⟨by simp [h1],fun z hz=>?_⟩
 rcases Hn hz with hz | hz
 ·exact h2 z hz
 ·rw [Hm hz];exact hx
structure pa (n kind:Int) (calls:List Int) (r:bv):Prop where
 back:eP n 2 r.Back
 ahead:eP n 2 r.Ahead
 ins:eP n 3 r.In
 rows:eT kind r=false
 out:oR kind r=true
 outs:r.Out.length≤4∧∀z∈r.Out,0≤z∧z < n
 callsN:r.Calls.length≤2
 callsK:kind≠4→r.Calls=[]
 callsIn:∀c∈r.Calls,(0≤c.At∧c.At < r.In.length)∧c.Lookup∈calls
 x: -200≤r.X∧r.X≤200
 x0:kind≠6→r.X=0
theorem eP.nil (n:Int) (k:Nat):eP n k []:=⟨Nat.zero_le _,fun q hq=>by cases hq⟩
theorem eP.one {n:Int} {a:List Int} (h:uS n a):eP n 3 [a]:=⟨by simp,fun q hq=>by rw [Hm hq];exact h⟩
theorem eP.cons {n:Int} {a:List Int} (h:uS n a) {l:List (List Int)} (hl:eP n 2 l):eP n 3 (a::l):=⟨by have:=hl.1;simp;omega,fun q hq=>by
 rcases List.mem_cons.1 hq with rfl | hq
 ·exact h
 ·exact hl.2 q hq⟩
theorem xS {n:Int} (hn:0 < n) (calls:List Int) (k:Nat):bU (f5 s n calls (if calls.length=0 then 0 else k)) fun c=>c.length≤k∧∀x∈c,(0≤x.At∧x.At < n)∧x.Lookup∈calls:=by
 by_cases h0:calls.length=0
 ·rw [if_pos h0]
  exact bU.ret ⟨Nat.zero_le _,fun x hx=>by cases hx⟩
 rw [if_neg h0]
 refine (bU.runs (fun i (l:List gH)=>l.length=i∧∀x∈l,(0≤x.At∧x.At < n)∧x.Lookup∈calls) k ⟨rfl,fun z hz=>by cases hz⟩ fun i l _ ⟨h1,h2⟩=>(cS s hn).bnd fun a ha=>(cS s (by omega)).bnd fun z hz=>bU.ret ⟨by simp [h1],fun x hx=>?_⟩).mono fun l h=>⟨Nat.le_of_eq h.1,h.2⟩
 rcases Hn hx with hx | hx
 ·exact h2 x hx
 ·rw [Hm hx]
  refine ⟨ha,?_⟩
  have hlt:z.toNat < calls.length:=by omega
  rw [List.getD_eq_getElem?_getD,Hz hlt]
  exact List.getElem_mem hlt
theorem BG {n kind:Int} (hn:0 < n) (hk:1≤kind∧kind≤6) (calls:List Int):bU (gn s n kind calls) (pa n kind calls):=by
 have hsides:bU (jd s n) fun e=>eP n 2 e.1∧eP n 2 e.2:=by
  refine (bU.any _).bnd fun z _=>bU.ite (fun _=>(n7 s hn).bnd fun b hb=>(n7 s hn).bnd fun c hc=>bU.ret ⟨hb,hc⟩) fun _=>bU.ret ⟨eP.nil ..,eP.nil ..⟩
 refine (p5 s hn).bnd fun a ha=>bU.ite (fun hk6=>(p5 s hn).bnd fun b hb=>(cS s (by omega)).bnd fun x hx=>bU.ret ?_) fun hk6=>hsides.bnd fun e he=>?_
 ·subst hk6
  exact ⟨eP.nil ..,eP.nil ..,⟨by simp,by simp [ha,hb]⟩,by simp [eT],by simp [oR],⟨by simp,by simp⟩,by simp,fun _=>rfl,by simp,by dsimp only;omega,fun h=>absurd rfl h⟩
 refine bU.ite (fun h15=>(xf s hn _).bnd fun o ho=>bU.ret ?_) fun h15=>?_
 ·refine ⟨he.1,he.2,eP.one ha,?_,?_,⟨by rw [ho.1];exact ha.few,ho.2⟩,by simp,fun _=>rfl,by simp,by simp,fun _=>rfl⟩
  ·unfold eT;rw [if_pos (by omega)];simp
  ·unfold oR;rw [if_pos h15];simp [ho.1]
 refine bU.ite (fun h2=>(cS s (by omega)).bnd fun k hk=>(xf s hn _).bnd fun o ho=>bU.ret ?_) fun h2=>?_
 ·subst h2
  exact ⟨he.1,he.2,eP.one ha,by simp [eT],by simp only [oR];simp;omega,⟨by dsimp only;omega,ho.2⟩,by simp,fun _=>rfl,by simp,by simp,fun _=>rfl⟩
 refine bU.ite (fun h3=>(n7 s hn).bnd fun m hm=>(cS s hn).bnd fun o ho=>bU.ret ?_) fun h3=>?_
 ·subst h3
  exact ⟨he.1,he.2,eP.cons ha hm,by simp [eT];omega,by simp [oR],⟨by simp,fun z hz=>by rw [Hm hz];exact ho⟩,by simp,fun _=>rfl,by simp,by simp,fun _=>rfl⟩
 have h4:kind=4:=by omega
 subst h4
 refine (n7 s hn).bnd fun m hm=>(cS s (by omega)).bnd fun k hk=>(xS s (by simp) calls _).bnd fun c hc=>bU.ret ?_
 exact ⟨he.1,he.2,eP.cons ha hm,by simp [eT];omega,by simp [oR],⟨by simp,by simp⟩,by have:=hc.1;dsimp only;omega,fun h=>absurd rfl h,fun x hx=>hc.2 x hx,by simp,fun _=>rfl⟩
theorem AK {z:Int} (h:0≤z∧z < 10):1≤fz.getD z.toNat 0∧fz.getD z.toNat 0≤8:=by
 have:∀k < 10,1≤fz.getD k 0∧fz.getD k 0≤8:=by decide
 exact this _ (by omega)
structure DC (k:Nat) (o:List aP×List Int):Prop where
 len:o.1.length=k
 kinds:∀l∈o.1,1≤l.Kind∧l.Kind≤8
 none:∀l∈o.1,l.Rules=[]
 calls:∀c∈o.2,∃(i:Nat) (l:aP),c=i∧o.1[i]?=some l∧l.Kind≤4
theorem rt (k:Nat):bU (ei s k) (DC k):=by
 refine bU.runs (fun i o=>DC i o) k ⟨rfl,fun l hl=>(by cases hl),fun l hl=>(by cases hl),fun c hc=>(by cases hc)⟩ fun i o hi h=>(cS s (by omega)).bnd fun z hz=>(bU.any _).bnd fun y _=>bU.ret ?_
 have hkz:=AK hz
 have hold:∀c∈o.2,∃(i:Nat) (l:aP),c=i∧(o.1++[⟨fz.getD z.toNat 0,decide (y=0),[]⟩])[i]?=some l∧l.Kind≤4:=fun c hc=>by
  obtain ⟨j,l,h1,h2,h3⟩:=h.calls c hc
  exact ⟨j,l,h1,by rw [List.getElem?_append_left (Hp h2).1];exact h2,h3⟩
 refine ⟨by simp [h.len],fun l hl=>?_,fun l hl=>?_,fun c hc=>?_⟩
 ·rcases Hn hl with hl | hl
  ·exact h.kinds l hl
  ·rw [Hm hl];exact hkz
 ·rcases Hn hl with hl | hl
  ·exact h.none l hl
  ·rw [Hm hl]
 ·dsimp only at hc ⊢
  split at hc
  ·rename_i h4
   rcases Hn hc with hc | hc
   ·exact hold c hc
   ·exact ⟨i,_,Hm hc,by rw [←h.len,List.getElem?_append_right (Nat.le_refl _),Nat.sub_self];rfl,h4⟩
  ·exact hold c hc
structure zw (n:Int) (calls:List Int) (kinds:List Int) (l:List aP):Prop where
 kind:l.map aP.Kind=kinds
 few:∀q∈l,q.Rules.length≤3
 none:∀q∈l,7≤q.Kind→q.Rules=[]
 rule:∀q∈l,∀r∈q.Rules,pa n q.Kind calls r
theorem Al {n:Int} (hn:0 < n) (calls kinds:List Int) (hkd:∀z∈kinds,1≤z∧z≤8) {l:List aP} (hl:zw n calls kinds l) (hno:∀q∈l,q.Rules=[]) (k:Nat):bU (f8 s n calls l k) (zw n calls kinds):=by
 refine (bU.runs (fun i q=>zw n calls kinds q∧∀(j:Nat) x,i≤j→q[j]?=some x→x.Rules=[]) k ⟨hl,fun j x _ hx=>hno x (Hw hx)⟩ fun i q hi ⟨h,h0⟩=>?_).mono fun _ h=>h.1
 cases hq:q[i]? with
 | none=>exact bU.ret ⟨h,fun j x hj hx=>h0 j x (by omega) hx⟩
 | some x=>
  dsimp only
  refine bU.ite (fun h7=>bU.ret ⟨h,fun j x hj hx=>h0 j x (by omega) hx⟩) fun h7=>(cS s (by omega)).bnd fun c hc=>?_
  have hxm:=Hw hq
  have hxk:x.Kind∈kinds:=by rw [←h.kind];exact List.mem_map_of_mem hxm
  have hxk:=hkd _ hxk
  have hr:bU (eW s n x.Kind calls (1+c).toNat) fun rs=>rs.length≤3∧∀r∈rs,pa n x.Kind calls r:=by
   refine (bU.runs (fun i rs=>rs.length=i∧∀r∈rs,pa n x.Kind calls r) (1+c).toNat ⟨rfl,fun r hr=>by cases hr⟩ fun i rs _ ⟨h1,h2⟩=>(BG s hn (by omega) calls).bnd fun r hr=>bU.ret ⟨by simp [h1],fun y hy=>?_⟩).mono fun rs ⟨h1,h2⟩=>⟨by omega,h2⟩
   rcases Hn hy with hy | hy
   ·exact h2 y hy
   ·rw [Hm hy];exact hr
  refine hr.bnd fun rs ⟨hr1,hr2⟩=>bU.ret ⟨⟨?_,fun y hy=>?_,fun y hy h7'=>?_,fun y hy r hr=>?_⟩,fun j y hj hy=>?_⟩
  ·rw [←h.kind]
   apply List.ext_getElem?
   intro j
   rw [List.getElem?_map,List.getElem?_map]
   by_cases e:i=j
   ·subst e
    rw [List.getElem?_set_self (Hp hq).1,hq]
    rfl
   ·rw [List.getElem?_set_ne e]
  ·rcases List.mem_or_eq_of_mem_set hy with hy | hy
   ·exact h.few y hy
   ·rw [hy];exact hr1
  ·rcases List.mem_or_eq_of_mem_set hy with hy | hy
   ·exact h.none y hy h7'
   ·rw [hy] at h7';exact absurd h7' h7
  ·rcases List.mem_or_eq_of_mem_set hy with hy | hy
   ·exact h.rule y hy r hr
   ·rw [hy] at hr ⊢;exact hr2 r hr
  ·rw [List.getElem?_set_ne (by omega)] at hy
   exact h0 j y (by omega) hy
structure zx (n:Int) (l:List aP):Prop where
 len:l.length≤6
 kinds:∀q∈l,1≤q.Kind∧q.Kind≤8
 few:∀q∈l,q.Rules.length≤3
 none:∀q∈l,7≤q.Kind→q.Rules=[]
 rule:∀q∈l,∀r∈q.Rules,∃calls,pa n q.Kind calls r∧∀c∈calls,∃(i:Nat) (x:aP),c=i∧l[i]?=some x∧x.Kind≤4
theorem oC {n:Int} (hn:0 < n):bU (iz s n) (zx n):=by
 refine (cS s (by omega)).bnd fun k hk=>(rt s k.toNat).bnd fun o ho=>?_
 refine (Al s hn o.2 (o.1.map aP.Kind) (fun z hz=>?_) (l:=o.1) ⟨rfl,fun q hq=>by rw [ho.none q hq];exact Nat.zero_le _,fun q hq _=>ho.none q hq,fun q hq r hr=>by rw [ho.none q hq] at hr;cases hr⟩ ho.none k.toNat).mono fun l hl=>?_
 ·obtain ⟨q,hq,rfl⟩:=List.mem_map.1 hz
  exact ho.kinds q hq
 have hlen:l.length=o.1.length:=by have:=congrArg List.length hl.kind;simpa using this
 have hat:∀(i:Nat) (y:aP),o.1[i]?=some y→∃x,l[i]?=some x∧x.Kind=y.Kind:=fun i y hy=>by
  have hi:i < l.length:=by rw [hlen];exact (Hp hy).1
  refine ⟨_,Hz hi,?_⟩
  have:=congrArg (fun q:List Int=>q[i]?) hl.kind
  simp only [List.getElem?_map,hy,Hz hi,Option.map_some] at this
  exact Option.some.inj this
 refine ⟨by rw [hlen,ho.len];omega,fun q hq=>?_,hl.few,hl.none,fun q hq r hr=>⟨o.2,hl.rule q hq r hr,fun c hc=>?_⟩⟩
 ·have:q.Kind∈o.1.map aP.Kind:=by rw [←hl.kind];exact List.mem_map_of_mem hq
  obtain ⟨y,hy,he⟩:=List.mem_map.1 this
  rw [←he]
  exact ho.kinds y hy
 ·obtain ⟨i,y,h1,h2,h3⟩:=ho.calls c hc
  obtain ⟨x,h4,h5⟩:=hat i y h2
  exact ⟨i,x,h1,h4,by omega⟩
end Go.Proofs.YtpbinloeemebkaaGreat
namespace Go.Proofs.YtpbinloeemebkaaGreat
open Go.RowKit
attribute [local irreducible] AT bO AX AO Av Kt bo dU DA cT
variable (s:List Int) (hs:s.length≤1000000) (F:MF)
include hs
set_option maxHeartbeats 2000000 in
theorem ru (n fn most:Int) (hn:0≤n∧n≤1000) (hf:fn≤1000) (hm:0 < most∧most≤6):qM 63 [aH n,aH fn,aH most] s F (mL s n fn most) ji:=by
 intro b m
 refine aT Tryz.func63 rfl Tryz.ntmps63 rfl fun B=>?_
 repeat' (first|refine go ?_|refine HF a1 F8 ?_)
 refine cD ?_
 have hk:=cn s hs m.a (n:=most) (by omega)
 have hk:0≤(dr s most m).1∧(dr s most m).1 < most:=hk
 generalize e1:dr s most m=p1 at hk ⊢
 obtain ⟨k,hkk⟩:∃k:Nat,p1.1=k:=⟨p1.1.toNat,by omega⟩
 have hlen:∀i,(fq s n fn i p1.2).1.length≤9 * i:=fun i=>(bU.runs (fun i l=>iu (9 * i) l) i ⟨Nat.le_refl _,fun i hi=>by cases hi⟩ (fun i l _ h=>(rH s hn hf).bnd fun p hp=>bU.ret ⟨by rw [List.length_append];have:=h.1;have:=hp.1;omega,fun x hx=>by
  rcases Hn hx with hx | hx
  ·exact h.2 x hx
  ·exact hp.2 x hx⟩) p1.2).1
 rw [hkk]
 repeat' (first|refine go ?_|refine ak ?_|refine HF a1 F8 ?_)
 refine bW (cA (t:=9) (c':= .vec none 2 []) rfl fun σ v h=>dg 2 h) ?_
 refine aR [0,1,2,10] (α:=Nat×Option (Nat×Nat)) (fun x=>[(11,aH x.1),(9,.vec x.2 2 ((fq s n fn x.1 p1.2).1.map eU))]) (fun x=>x.1≤k) (fun x=>dS b s F (fq s n fn x.1 p1.2).2::tok x.2 273 2 ((fq s n fn x.1 p1.2).1.map eU).length) (fun x=>k - x.1) (0,none) rfl ⟨rfl,rfl,trivial⟩ (Nat.zero_le _) (fun _ _ h=>h) ?_
 rintro ⟨i,q⟩ hi
 dsimp only at hi ⊢
 try dsimp only [Hs,Hr,Hq,Hl]
 repeat' (first|refine go ?_|refine HF a1 F8 ?_)
 refine ay rfl (fun h=>?_) (fun h=>?_)
 ·have hil:i < k:=by have:=Hy h;omega
  have hstep:fq s n fn (i+1) p1.2=((fq s n fn i p1.2).1++(cG s n fn (fq s n fn i p1.2).2).1,(cG s n fn (fq s n fn i p1.2).2).2):=rfl
  have hl1:=hlen i
  have hl2:=hlen (i+1)
  rw [hstep] at hl2
  rw [List.length_append] at hl2
  generalize fq s n fn i p1.2=st at hl1 hl2 hstep ⊢
  repeat' (first|refine go ?_|refine ak ?_|refine HF a1 F8 ?_)
  refine ua (wd s hs F n fn (by omega) (by omega)) ?_
  generalize cG s n fn st.2=pc at hl2 hstep ⊢
  unfold ji
  refine cj a1 [dS b s F pc.2] rfl rfl rfl rfl (List.perm_append_comm (l₁:=[dS b s F pc.2])) (by simp;omega) (by simp;omega) rfl fun q'=>?_
  refine aV (aJ List.perm_append_comm) ?_
  rw [←List.map_append]
  repeat' (first|refine go ?_|refine HF a1 F8 ?_|(apply aZ;refine aY ?_)|fail)
  exact aF (i+1,q') rfl ⟨by rw [Hv];rfl,by rw [hstep];rfl,trivial⟩ (by dsimp only;omega) (by dsimp only;omega) (fun _ _ h=>by dsimp only;rw [hstep];exact h)
 have hil:i=k:=by have:=Hx h;omega
 subst hil
 repeat' (first|refine go ?_|refine HF a1 F8 ?_)
 refine bk (cb (L':=[dS b s F (fq s n fn i p1.2).2]) (List.Sublist.cons_cons _ (List.nil_sublist _))) ?_
 refine bk (cA (t:=8) (c':= .imm 2 ((fq s n fn i p1.2).1.map eU)) rfl fun σ v h=>VR.im h) (HN F8 ?_)
 have hv:mL s n fn most m=fq s n fn i p1.2:=by
  unfold mL c7
  rw [e1]
  dsimp only
  rw [hkk]
  rfl
 rw [hv]
 exact ⟨rfl,rfl⟩
end Go.Proofs.YtpbinloeemebkaaGreat
namespace Go.Proofs.YtpbinloeemebkaaGreat
open Go.RowKit
attribute [local irreducible] AT bO AX AO Av Kt bo dU DA cT
theorem Bq {α:Type} {σ0:ci} {l p b n:Nat} (S:α→List Int) (K:α→Option (Nat×Nat)) (E:α→AL) (J:Nat→α→Prop) (hn:n≤1000000) (hJ:∀i x,J i x→i≤(S x).length∧(S x).length≤n)
  (hy:∀i x z,J i x→(S x)[i]?=some z→AY Tryz.prog σ0 l [aH z] (dp p b n (K x) (S x)++E x) fun c L=>c=c9 true∧∃x',J (i+1) x'∧L=dp p b n (K x') (S x')++E x') (x0:α) (h0:J 0 x0):
  zt Tryz.prog σ0 51 [.sc (.func (.yield l) #[] #[]),.iptr [fg p]] (dp p b n (K x0) (S x0)++E x0) fun _ L=>∃x,J (S x).length x∧L=dp p b n (K x) (S x)++E x:=by
 refine nu Tryz.func51 rfl Tryz.ntmps51 rfl fun B hB=>?_
 repeat' (first|refine go ?_|refine ak ?_|refine HF a1 F8 ?_)
 refine aR [0,1] (α:=Nat×α) (fun y=>[(3,aH y.1)]) (fun y=>J y.1 y.2) (fun y=>dp p b n (K y.2) (S y.2)++E y.2) (fun y=>n - y.1) (0,x0) rfl ⟨rfl,trivial⟩ h0 (fun _ _ h=>h) ?_
 rintro ⟨i,x⟩ hj
 dsimp only at hj ⊢
 obtain ⟨hi,hl⟩:=hJ i x hj
 try dsimp only [Hs,Hr,Hq,Hl]
 repeat' (first|refine go ?_|refine HF a1 F8 ?_|(apply bh;first|refine HJ a1 0 HC ?_|refine HJ a1 1 HC ?_|refine HJ a1 2 HC ?_|refine HJ a1 3 HC ?_|refine HK a1 0 HC ?_|refine HK a1 1 HC ?_|refine HK a1 2 HC ?_|refine HM a1 1 HA (by assumption) rfl ?_|refine HM a1 0 HA (by assumption) rfl ?_|fail)|fail)
 refine ay rfl (fun h=>?_) (fun h=>?_)
 ·have hil:i < (S x).length:=by have:=Hy h;simp [aN] at this;omega
  obtain ⟨z,hz⟩:∃z,(S x)[i]?=some z:=⟨_,Hz hil⟩
  have hzg:=bG hz
  repeat' (first|refine go ?_|refine ak ?_|refine HF a1 F8 ?_|(apply bh;first|refine HJ a1 0 HC ?_|refine HJ a1 1 HC ?_|refine HJ a1 2 HC ?_|refine HJ a1 3 HC ?_|refine HK a1 0 HC ?_|refine HK a1 1 HC ?_|refine HK a1 2 HC ?_|refine HM a1 1 HA (by assumption) rfl ?_|refine HM a1 0 HA (by assumption) rfl ?_|fail)|(apply aX;first|refine aU a1 ?_|refine aK a1 ?_)|fail)
  refine jV (dp p b n (K x) (S x)++E x) [] hB (hy i x z hj hz) rfl rfl rfl (by rw [List.append_nil]) rfl rfl fun c L1 ⟨hc,x',hj',hL⟩=>?_
  subst hc;subst hL
  rw [List.append_nil]
  repeat' (first|refine go ?_|refine HF a1 F8 ?_|(apply aZ;refine aY ?_)|refine bL rfl ?_)
  have:=hJ _ _ hj'
  exact aF (i+1,x') rfl ⟨by rw [Hv];rfl,trivial⟩ hj' (by dsimp only;omega) (fun _ _ h=>h)
 ·have hil:i=(S x).length:=by have:=Hx h;simp [aN] at this;omega
  subst hil
  repeat' (first|refine go ?_|fail)
  exact ce rfl ⟨x,hj,rfl⟩
theorem yK (p:Nat):bM Tryz.prog 28 [fg p] (.fn 51 [.iptr [fg p]]):=by
 refine aT Tryz.func28 rfl Tryz.ntmps28 rfl fun B=>?_
 repeat' (first|refine go ?_|refine HF a1 F8 ?_|refine bC ?_|fail)
 exact HP HA
instance (p:Nat):AD Tryz.prog 28 [fg p] (.fn 51 [.iptr [fg p]]):=⟨yK p⟩
end Go.Proofs.YtpbinloeemebkaaGreat
