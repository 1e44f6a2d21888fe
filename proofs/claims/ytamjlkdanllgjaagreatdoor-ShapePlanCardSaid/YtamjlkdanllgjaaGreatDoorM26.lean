/-
  The program: check.Font.
-/
import Derived.Test.YtamjlkdanllgjaaGreatDoorM25
import Derived.Test.YtamjlkdanllgjaaGreatDoorM13
import Derived.Test.YtamjlkdanllgjaaGreatDoorM14
namespace Go.Proofs.YtamjlkdanllgjaaGreatDoor
open Go.RowKit
attribute [local irreducible] AT bF AX AO Av Kt b8 d9 DA cu
set_option maxRecDepth 8000
theorem kP {err:Nat→Int}:∀(k i:Nat),(dI err k i).1=0↔∀j,i≤j→j < i+k→err j=0
 | 0,i=>by simp only [dI,true_iff];intro j h1 h2;omega
 | k+1,i=>by
  simp only [dI]
  by_cases h:err i=0
  ·rw [if_pos h,kP k (i+1)]
   constructor
   ·intro hh j h1 h2
    by_cases e:j=i
    ·subst e;exact h
    ·exact hh j (by omega) (by omega)
   ·intro hh j h1 h2;exact hh j (by omega) (by omega)
  ·rw [if_neg h]
   constructor
   ·intro hh;exact absurd hh h
   ·intro hh;exact hh i (Nat.le_refl _) (by omega)
theorem rj {α:Type} {l:List α} {w:Nat→α→Int}:(dx l w).1=0↔∀i x,l[i]?=some x→w i x=0:=by
 unfold dx dG
 rw [kP]
 constructor
 ·intro h i x hx
  have:=h i (Nat.zero_le _) (by have:=(Ol hx).1;omega)
  rwa [iB hx] at this
 ·intro h j _ hj
  obtain ⟨x,hx⟩:∃x,l[j]?=some x:=⟨_,Oz (by omega)⟩
  rw [iB hx]
  exact h j x hx
theorem iY {α:Type} {most:Int} {l:List α} {w:Nat→α→Int}:(cZ most l w).1=0↔(l.length:Int)≤most∧∀i x,l[i]?=some x→w i x=0:=by
 have h:=rj (l:=l) (w:=w)
 unfold dx at h
 unfold cZ dB
 by_cases hm:(l.length:Int) > most
 ·rw [if_pos hm]
  constructor
  ·intro hh;cases hh
  ·intro hh;omega
 ·rw [if_neg hm,h]
  exact ⟨fun hh=>⟨by omega,hh⟩,fun hh=>hh.2⟩
theorem fU:∀{l:List (Int×Int)},(iK l).1=0↔∀x∈l,x.1=0
 | []=>by simp [iK]
 | x::r=>by
  unfold iK
  by_cases h:x.1=0
  ·rw [if_pos h,fU]
   constructor
   ·intro hh y hy
    rcases List.mem_cons.1 hy with rfl | hy
    ·exact h
    ·exact hh y hy
   ·intro hh y hy;exact hh y (Ot _ hy)
  ·rw [if_neg h]
   constructor
   ·intro hh;exact absurd hh h
   ·intro hh;exact hh x (List.mem_cons_self ..)
theorem md {f:aY} (h:(cZ 400 f.Glyphs (gn f)).1=0):xa f:=by
 obtain ⟨h1,h2⟩:=iY.1 h
 have hg:∀gl∈f.Glyphs,∃name,ry f gl name=0:=fun gl hgl=>by
  obtain ⟨i,hi⟩:=List.mem_iff_getElem?.1 hgl
  exact ⟨_,h2 i gl hi⟩
 have hgl:∀gl∈f.Glyphs,kI gl=0∧(cZ 8 gl.Parts (pO f)).1=0:=fun gl hm=>by
  obtain ⟨name,hn⟩:=hg gl hm
  unfold ry at hn
  rw [fU] at hn
  exact ⟨hn (kI gl,0) (by simp),hn (cZ 8 gl.Parts (pO f)) (by simp)⟩
 refine ⟨⟨by omega,fun gl hm=>?_⟩,fun gl hm=>?_,fun gl hm p hp=>?_⟩
 ·have:=(iY.1 (hgl gl hm).2).1;omega
 ·have h3:=(hgl gl hm).1
  unfold kI at h3
  split at h3
  ·cases h3
  ·split at h3
   ·cases h3
   ·omega
 ·obtain ⟨i,hi⟩:=List.mem_iff_getElem?.1 hp
  have h3:=(iY.1 (hgl gl hm).2).2 i p hi
  unfold pO at h3
  split at h3
  ·cases h3
  ·rename_i hh
   simpa using hh
theorem Bw {f:aY} (hf:xa f) (ha:kY f.Glyphs.length (prt f)) {D P D' P':Int→Int} (h:l6 f D P) (h':l6 f D' P'):∀z:Int,0≤z→z < f.Glyphs.length→D z=D' z∧P z=P' z:=by
 obtain ⟨r,hr⟩:=ha
 have:∀(k:Nat) (z:Int),r z < k→0≤z→z < f.Glyphs.length→D z=D' z∧P z=P' z:=by
  intro k
  induction k with
  | zero=>intro z hk;exact absurd hk (Nat.not_lt_zero _)
  | succ k ih=>
   intro z hk h0 h1
   obtain ⟨gl,hgl⟩:∃g,f.Glyphs[z.toNat]?=some g:=⟨_,Oz (by omega)⟩
   have hsm:∀p∈gl.Parts,D p.Glyph=D' p.Glyph∧P p.Glyph=P' p.Glyph:=fun p hp=>by
    have hin:=qw.1 (hf.there gl (Ow hgl) p hp)
    have:=hr z h0 h1 p.Glyph (by rw [uS hf hgl];exact List.mem_map_of_mem hp)
    exact ih p.Glyph (by omega) hin.1 hin.2
   obtain ⟨h2,h3⟩:=h z h0 h1 gl hgl
   obtain ⟨h4,h5⟩:=h' z h0 h1 gl hgl
   rw [h2,h3,h4,h5]
   exact ⟨vN fun p hp=>(hsm p hp).1,wC fun p hp=>(hsm p hp).2⟩
 intro z h0 h1
 exact this (r z+1) z (by omega) h0 h1
theorem xI {n:Nat} {D P D' P':Int→Int} (h:∀z:Int,0≤z→z < n→D z=D' z∧P z=P' z):py n D P=py n D' P':=by
 unfold py
 rw [List.map_congr_left (f:=D) (g:=D') fun z hz=>(h z (fq.1 hz).1 (fq.1 hz).2).1,List.map_congr_left (f:=P) (g:=P') fun z hz=>(h z (fq.1 hz).1 (fq.1 hz).2).2]
open Classical in
noncomputable def pz (f:aY):Int×Int:=if h:∃q:(Int→Int)×(Int→Int),l6 f q.1 q.2 then py f.Glyphs.length h.choose.1 h.choose.2 else (33,0)
theorem vL {f:aY} (hf:xa f) (ha:kY f.Glyphs.length (prt f)) {D P:Int→Int} (h:l6 f D P):pz f=py f.Glyphs.length D P:=by
 unfold pz
 have hex:∃q:(Int→Int)×(Int→Int),l6 f q.1 q.2:=⟨(D,P),h⟩
 rw [dif_pos hex]
 exact xI (Bw hf ha hex.choose_spec h)
theorem GM (f:aY) (hf:xa f) (ha:kY f.Glyphs.length (prt f)):AC Tryz.prog 112 [.iptr (cf f)] [] fun c _=>c=ct ((pz f).1,(pz f).2):=by
 refine aQ Tryz.func112 rfl Tryz.ntmps112 rfl fun B=>?_
 refine W01 ?_
 refine bh [] [] (vM f hf (.inl ha)) rfl rfl (Ok _) rfl fun c L1 hc=>?_
 rcases hc with ⟨D,P,h1,h2,hc⟩ | ⟨hna,_⟩
 ·rw [←vL hf ha h1] at hc
  subst hc
  unfold ct
  refine W01 ?_
  exact OS OA
 ·exact absurd ha hna
def zL (_:Nat) (l:List eW):Int:=rX l
def uT (f:aY) (_:Nat) (r:List f9):Int:=Fo f.Axes.length r
def lS (f:aY) (_:Nat) (l:bf):Int:=nE f l
noncomputable def Ec (f:aY):List (Int×Int):=[(mf f,0),cZ 400 f.Glyphs (gn f),pz f,cZ 1000 f.Chars (kc f),cZ 40 f.Lookups (lS f),cZ 20 f.Features (lO f),cZ 3 f.Axes (n6 f),cZ 16 f.Regions (uT f),cZ 20 f.Funcs zL,cZ 64 f.Cvt DY]
noncomputable def jC (f:aY):Int×Int:=iK (Ec f)
noncomputable def zH (f:aY) (m1 m2 m3:Nat):List Lk:=[⟨105,[.iptr (cf f)],[],mf f,0⟩,
 ⟨171,[.iptr [.imm 9 (f.Glyphs.map bG)],.iptr [aG 400],.iptr [.fn 108 [.iptr (cf f),.iptr [.sc (.map (some m1))]]]],[(m1,ci .string (cY (oL f)))],(cZ 400 f.Glyphs (gn f)).1,(cZ 400 f.Glyphs (gn f)).2⟩,
 ⟨112,[.iptr (cf f)],[],(pz f).1,(pz f).2⟩,
 ⟨191,[.iptr [.imm 2 (f.Chars.map dv)],.iptr [aG 1000],.iptr [.fn 115 [.iptr (cf f)]]],[],(cZ 1000 f.Chars (kc f)).1,(cZ 1000 f.Chars (kc f)).2⟩,
 ⟨193,[.iptr [.imm 3 (f.Lookups.map bC)],.iptr [aG 40],.iptr [.fn 118 [.iptr (cf f)]]],[],(cZ 40 f.Lookups (lS f)).1,(cZ 40 f.Lookups (lS f)).2⟩,
 ⟨201,[.iptr [.imm 2 (f.Features.map bI)],.iptr [aG 20],.iptr [.fn 121 [.iptr (cf f),.iptr [.sc (.map (some m2))]]]],[(m2,ci .string (cY (oZ f)))],(cZ 20 f.Features (lO f)).1,(cZ 20 f.Features (lO f)).2⟩,
 ⟨204,[.iptr [.imm 4 (f.Axes.map cS)],.iptr [aG 3],.iptr [.fn 125 [.iptr [.sc (.map (some m3))]]]],[(m3,ci .string (cY (ol f)))],(cZ 3 f.Axes (n6 f)).1,(cZ 3 f.Axes (n6 f)).2⟩,
 ⟨206,[.iptr [.imm 1 (f.Regions.map bW)],.iptr [aG 16],.iptr [.fn 128 [.iptr (cf f)]]],[],(cZ 16 f.Regions (uT f)).1,(cZ 16 f.Regions (uT f)).2⟩,
 ⟨210,[.iptr [.imm 1 (f.Funcs.map d6)],.iptr [aG 20],.iptr [.sc (.func (.func 131) #[] #[])]],[],(cZ 20 f.Funcs zL).1,(cZ 20 f.Funcs zL).2⟩,
 ⟨214,[.iptr [.imm 1 (f.Cvt.map Bg)],.iptr [aG 64],.iptr [.sc (.func (.func 134) #[] #[])]],[],(cZ 64 f.Cvt DY).1,(cZ 64 f.Cvt DY).2⟩]
theorem xQ (f:aY) (m1 m2 m3:Nat) (hA:(cZ 400 f.Glyphs (gn f)).1=0→kY f.Glyphs.length (prt f)):ye (zH f m1 m2 m3):=by
 refine ⟨⟨inferInstance,BQ f⟩,fun _=>⟨⟨inferInstance,?_⟩,fun h1=>⟨⟨inferInstance,GM f (md h1) (hA h1)⟩,fun _=>⟨⟨inferInstance,?_⟩,fun _=>⟨⟨inferInstance,?_⟩,fun _=>⟨⟨inferInstance,?_⟩,fun _=>⟨⟨inferInstance,?_⟩,fun _=>⟨⟨inferInstance,?_⟩,fun _=>⟨⟨inferInstance,?_⟩,fun _=>⟨⟨inferInstance,?_⟩,fun _=>trivial⟩⟩⟩⟩⟩⟩⟩⟩⟩⟩
 ·exact I2 (u:= .fn 108 [.iptr (cf f),.iptr [.sc (.map (some m1))]]) rfl f.Glyphs 400 (gG f.Glyphs (gn f)) (fun _ L=>L=[(m1,ci .string (cY (oL f)))]) _ rfl fun _=>sx fun i x _=>y4 f i x m1
 ·exact I3 (u:= .fn 115 [.iptr (cf f)]) rfl f.Chars 1000 (gG f.Chars (kc f)) (fun _ _=>True) [] trivial fun hm=>dz fun i x hx=>Bj f i x hx hm
 ·exact I4 (u:= .fn 118 [.iptr (cf f)]) rfl f.Lookups 40 (gG f.Lookups (lS f)) (fun _ _=>True) [] trivial fun _=>dz fun i x _=>ux f i x
 ·exact I5 (u:= .fn 121 [.iptr (cf f),.iptr [.sc (.map (some m2))]]) rfl f.Features 20 (gG f.Features (lO f)) (fun _ L=>L=[(m2,ci .string (cY (oZ f)))]) _ rfl fun _=>sx fun i x _=>BB f i x m2
 ·exact I6 (u:= .fn 125 [.iptr [.sc (.map (some m3))]]) rfl f.Axes 3 (gG f.Axes (n6 f)) (fun _ L=>L=[(m3,ci .string (cY (ol f)))]) _ rfl fun _=>sx fun i x _=>B7 f i x m3
 ·exact I7 (u:= .fn 128 [.iptr (cf f)]) rfl f.Regions 16 (gG f.Regions (uT f)) (fun _ _=>True) [] trivial fun _=>dz fun i x _=>wK f i x
 ·exact I8 (u:= .sc (.func (.func 131) #[] #[])) (g:=131) (caps:=[]) rfl f.Funcs 20 (gG f.Funcs zL) (fun _ _=>True) [] trivial fun _=>dz fun i x _=>Bn i x
 ·exact I9 (u:= .sc (.func (.func 134) #[] #[])) (g:=134) (caps:=[]) rfl f.Cvt 64 (gG f.Cvt DY) (fun _ _=>True) [] trivial fun _=>dz fun i x _=>DW i x
set_option maxHeartbeats 4000000 in
theorem zJ (f:aY) (hA:(cZ 400 f.Glyphs (gn f)).1=0→kY f.Glyphs.length (prt f)):AC Tryz.prog 60 [cR f] [] fun c _=>c=ct (jC f):=by
 refine aQ Tryz.func60 rfl Tryz.ntmps60 rfl fun B=>?_
 refine W07 ?_
 refine bh [] _ (E7 f.Glyphs) rfl rfl (Ok _) rfl fun c L1 ⟨m1,hc,hL⟩=>?_
 subst hc;subst hL
 refine W0A ?_
 intros
 refine bh [] _ (E8 f.Features) rfl rfl (Ok _) rfl fun c L1 ⟨m2,hc,hL⟩=>?_
 subst hc;subst hL
 refine W0A ?_
 intros
 refine bh [] _ (E9 f.Axes) rfl rfl (Ok _) rfl fun c L1 ⟨m3,hc,hL⟩=>?_
 subst hc;subst hL
 repeat' (first|refine O1 ?_|(apply aO;first|refine OG 4 a7 0 OD ?_|refine OG 4 a7 1 OD ?_|refine OG 4 a7 2 OD ?_|refine OG 5 a7 0 OD ?_|refine OG 5 a7 1 OD ?_|refine OG 5 a7 2 OD ?_|refine OG 6 a7 0 OD ?_|refine OG 6 a7 1 OD ?_|refine OG 6 a7 2 OD ?_|refine OF a7 0 OC ?_|refine OF a7 1 OC ?_|refine OF a7 2 OC ?_|refine OF a7 3 OC ?_|fail)|refine bi a7 fun _=>?_|fail)
 refine bk 36 [(0,.v),(1,.v),(2,.v),(3,.v),(4,.v),(5,.v),(6,.v),(7,.v),(8,.v),(9,.v),(10,.v),(11,.v),(12,.v),(13,.v),(14,.v),(15,.v),(16,.v),(17,.v),(18,.v),(19,.v),(20,.v),(21,.v),(22,.v),(23,.v),(24,.v),(25,.v),(26,.v),(27,.v),(28,.v),(29,.v),(30,.v),(31,.v),(32,.v),(33,.e),(34,.v),(35,.v)] none ?_ trivial rfl (by kernel_rfl) (by kernel_rfl) (by kernel_rfl) mixed (by kernel_rfl) rfl
 refine W0j ?_
 refine d8 (hc:=⟨Kd f.Cvt 64⟩) ?_
 refine W0K ?_
 refine ki (L:=[(m3,ci .string (cY (ol f))),(m2,ci .string (cY (oZ f))),(m1,ci .string (cY (oL f)))]) _ [] (jA (zH f m1 m2 m3) (xQ f m1 m2 m3 hA)) rfl rfl (by rw [List.append_nil];exact (List.reverse_perm _).symm) trivial fun c L1 hc=>?_
 rw [kw] at hc
 have hc:c=ct (jC f):=hc
 subst hc
 unfold ct
 refine W06 ?_
 refine OO [50,51] KN ?_
 refine W0p ?_
 exact OS OA
end Go.Proofs.YtamjlkdanllgjaaGreatDoor
namespace Go.Proofs.YtamjlkdanllgjaaGreatDoor
section
variable {α β:Type}
def bX (g:DM α) (P:α→Prop):Prop:=∀m,P (g m).1
theorem bX.ret {x:α} {P:α→Prop} (h:P x):bX (cK x) P:=fun _=>h
theorem bX.bnd {g:DM α} {k:α→DM β} {P:α→Prop} {Q:β→Prop} (h:bX g P) (hk:∀x,P x→bX (k x) Q):bX (c8 g k) Q:=fun m=>hk _ (h m) _
theorem bX.mono {g:DM α} {P Q:α→Prop} (h:bX g P) (hq:∀x,P x→Q x):bX g Q:=fun m=>hq _ (h m)
theorem bX.any (g:DM α):bX g fun _=>True:=fun _=>trivial
theorem bX.runs {g:Nat→β→DM β} (I:Nat→β→Prop) {b:β}:∀(k:Nat),I 0 b→(∀i l,i < k→I i l→bX (g i l) (I (i+1)))→bX (i7 g b k) (I k)
 | 0,h0,_=>bX.ret h0
 | k+1,h0,hs=>bX.bnd (bX.runs I k h0 fun i l hi hl=>hs i l (by omega) hl) fun l hl=>hs k l (by omega) hl
theorem bX.ite {c:Prop} [Decidable c] {g k:DM α} {P:α→Prop} (h:c→bX g P) (h':¬c→bX k P):bX (if c then g else k) P:=by
 split
 ·exact h ‹_›
 ·exact h' ‹_›
end
variable (s:List Int)
theorem GV (a:Nat) {n:Int} (hn:0 < n):0≤uh s a n∧uh s a n < n:=by
 unfold uh
 split
 ·rename_i x _
  exact ⟨Int.emod_nonneg x (by omega),Int.emod_lt_of_pos x hn⟩
 ·omega
theorem d3 {n:Int} (hn:0 < n):bX (dr s n) fun z=>0≤z∧z < n:=fun m=>GV s m.a hn
def Cj (p:eM):Prop:= -100≤p.X∧p.X≤900∧-200≤p.Y∧p.Y≤800
theorem Ku (p:Nat):bX (J2 s p) Cj:=by
 refine (d3 s (by omega)).bnd fun x hx=>(d3 s (by omega)).bnd fun y hy=>bX.ite (fun _=>bX.ret ?_) fun _=>(bX.any _).bnd fun z _=>bX.ret ?_
 all_goals (unfold Cj;dsimp only;omega)
theorem Aj (l:List eM) (hl:∀p∈l,Cj p) (k:Nat):bX (oW s l k) fun q=>q.length=l.length+k∧∀p∈q,Cj p:=by
 refine bX.runs (fun i (q:List eM)=>q.length=l.length+i∧∀p∈q,Cj p) k ⟨rfl,hl⟩ fun i q _ ⟨h1,h2⟩=>(Ku s i).bnd fun t ht=>bX.ret ⟨by simp;omega,fun p hp=>?_⟩
 rcases Oj hp with hp | hp
 ·exact h2 p hp
 ·rw [Oi hp];exact ht
theorem t8 {n m:Int} (h:n+2≤m):∀(l:List Int) (last:Int),fX n last l=true→fX m last (l++[m - 1])=true
 | [],last,hl=>by
  have:last=n - 1:=Oy hl
  rw [Oo,fX,if_neg (by omega),fX]
  simp
 | e::l,last,hl=>by
  rw [fX] at hl
  split at hl
  ·cases hl
  ·rw [Oq,fX,if_neg (by omega)]
   exact t8 h l e hl
structure vl (n:Nat) (o:List eM×List Int):Prop where
 pts:∀p∈o.1,Cj p
 len:o.1.length≤5 * n
 ends:fX o.1.length (-1) o.2=true
 endl:o.2.length=n
theorem wB (n:Nat):bX (iq s n) (vl n):=by
 refine bX.runs (fun i o=>vl i o) n ⟨fun p hp=>(by cases hp),Nat.le_refl _,rfl,rfl⟩ fun i o _ h=>(d3 s (by omega)).bnd fun k hk=>(Aj s o.1 h.pts _).bnd fun l hl=>bX.ret ?_
 refine ⟨hl.2,by have:=h.len;dsimp only;omega,?_,by simp [h.endl]⟩
 dsimp only
 exact t8 (by omega) _ _ h.ends
theorem pN:bX (jN s) fun o=>∃n,n≤2∧vl n o:=by
 refine (d3 s (by omega)).bnd fun n hn=>(wB s _).mono fun o ho=>⟨_,by omega,ho⟩
def kR (i:eW):Prop:=1≤i.Op∧i.Op≤39∧-100000≤i.A∧i.A≤100000
def ke (k:Nat) (l:List eW):Prop:=l.length≤k∧∀i∈l,kR i
theorem tL {n funcs:Int} (hn:0≤n∧n≤1000) (hf:funcs≤1000):bX (cP s n funcs) (ke 9):=by
 have hsz:∀q,0≤q→q < n+1→bX (gT q) (ke 9):=fun q h0 h1=>bX.ret ⟨by simp,by simp only [List.mem_cons,List.not_mem_nil,or_false,forall_eq_or_imp,forall_eq,kR];omega⟩
 unfold cP
 refine (d3 s (by omega)).bnd fun p hp=>(d3 s (by omega)).bnd fun q hq=>(d3 s (by omega)).bnd fun a ha=>(d3 s (by omega)).bnd fun k hk=>?_
 refine bX.ite (fun _=>bX.ret ?_) fun _=>?_
 ·exact ⟨by simp,by simp only [List.mem_cons,List.not_mem_nil,or_false,forall_eq_or_imp,forall_eq,kR];omega⟩
 refine bX.ite (fun _=>(d3 s (by omega)).bnd fun z hz=>bX.ret ?_) fun _=>?_
 ·exact ⟨by simp,by simp only [List.mem_cons,List.not_mem_nil,or_false,forall_eq_or_imp,forall_eq,kR];omega⟩
 refine bX.ite (fun _=>bX.ret ?_) fun _=>?_
 ·exact ⟨by simp,by simp only [List.mem_cons,List.not_mem_nil,or_false,forall_eq_or_imp,forall_eq,kR];omega⟩
 refine bX.ite (fun _=>(d3 s (by omega)).bnd fun z hz=>bX.ret ?_) fun _=>?_
 ·exact ⟨by simp,by simp only [List.mem_cons,List.not_mem_nil,or_false,forall_eq_or_imp,forall_eq,kR];omega⟩
 refine bX.ite (fun _=>bX.ret ?_) fun _=>?_
 ·exact ⟨by simp,by simp only [List.mem_cons,List.not_mem_nil,or_false,forall_eq_or_imp,forall_eq,kR];omega⟩
 refine bX.ite (fun _=>bX.ret ?_) fun _=>?_
 ·exact ⟨by simp,by simp only [List.mem_cons,List.not_mem_nil,or_false,forall_eq_or_imp,forall_eq,kR];omega⟩
 refine bX.ite (fun _=>bX.ret ?_) fun _=>?_
 ·exact ⟨by simp,by simp only [List.mem_cons,List.not_mem_nil,or_false,forall_eq_or_imp,forall_eq,kR];omega⟩
 refine bX.ite (fun _=>bX.ite (fun _=>(d3 s (by omega)).bnd fun z hz=>bX.ret ?_) fun _=>hsz q hq.1 hq.2) fun _=>?_
 ·exact ⟨by simp,by simp only [List.mem_cons,List.not_mem_nil,or_false,forall_eq_or_imp,forall_eq,kR];omega⟩
 refine bX.ite (fun _=>bX.ite (fun _=>(bX.any _).bnd fun lo _=>bX.ite (fun _=>(bX.any _).bnd fun _ _=>(d3 s (by omega)).bnd fun y hy=>(d3 s (by omega)).bnd fun z hz=>bX.ret ?_) fun _=>hsz q hq.1 hq.2) fun _=>hsz q hq.1 hq.2) fun _=>?_
 ·exact ⟨by simp,by simp only [List.mem_cons,List.not_mem_nil,or_false,forall_eq_or_imp,forall_eq,kR];omega⟩
 refine bX.ite (fun _=>bX.ret ?_) fun _=>hsz q hq.1 hq.2
 exact ⟨by simp,by simp only [List.mem_cons,List.not_mem_nil,or_false,forall_eq_or_imp,forall_eq,kR];omega⟩
theorem w6 {n funcs most:Int} (hn:0≤n∧n≤1000) (hf:funcs≤1000) (hm:0 < most∧most≤6):bX (nw s n funcs most) (ke 45):=by
 refine (d3 s hm.1).bnd fun k hk=>?_
 refine (bX.runs (fun i l=>ke (9 * i) l) k.toNat ⟨Nat.le_refl _,fun i hi=>by cases hi⟩ fun i l _ h=>(tL s hn hf).bnd fun p hp=>bX.ret ⟨by rw [List.length_append];have:=h.1;have:=hp.1;omega,fun x hx=>?_⟩).mono fun l h=>⟨by have:=h.1;omega,h.2⟩
 rcases Oj hx with hx | hx
 ·exact h.2 x hx
 ·exact hp.2 x hx
structure Gh (n:Int) (l:List Int):Prop where
  ne:l≠[]
  few:l.length≤4
  up:l.Pairwise (· < ·)
  dom:∀z∈l,0≤z∧z < n
theorem qA {n:Int} (hn:0 < n):bX (nY s n) (Gh n):=by
  refine (d3 s hn).bnd fun a ha=>?_
  refine (bX.runs (fun i (l:List Int)=>(l≠[]∧l.length≤4∧l.Pairwise (· < ·))∧∀z∈l,0≤z∧z≤a+i) (n - (a+1)).toNat ⟨⟨by simp,by simp,by simp⟩,fun z hz=>?_⟩ fun i l hi ⟨⟨h1,h2,h3⟩,h4⟩=>?_).mono fun l ⟨⟨h1,h2,h3⟩,h4⟩=>⟨h1,h2,h3,fun z hz=>by have:=h4 z hz;omega⟩
  · rw [Oi hz];omega
  · refine bX.ite (fun h5=>(bX.any _).bnd fun z _=>bX.ret ?_) fun _=>bX.ret ⟨⟨h1,h2,h3⟩,fun z hz=>by have:=h4 z hz;omega⟩
    split
    · refine ⟨⟨by simp,by simp;omega,?_⟩,fun z hz=>?_⟩
      · rw [List.pairwise_append]
        exact ⟨h3,List.pairwise_singleton ..,fun x hx y hy=>by rw [Oi hy];have:=h4 x hx;omega⟩
      · rcases Oj hz with hz | hz
        · have:=h4 z hz;omega
        · rw [Oi hz];omega
    · exact ⟨⟨h1,h2,h3⟩,fun z hz=>by have:=h4 z hz;omega⟩
def ff (n:Int) (k:Nat) (l:List (List Int)):Prop:=l.length≤k∧∀q∈l,Gh n q
theorem nV {n:Int} (hn:0 < n):bX (qf s n 2) (ff n 2):=by
 refine (d3 s (by omega)).bnd fun k hk=>?_
 refine (bX.runs (fun i l=>ff n i l) k.toNat ⟨Nat.le_refl _,fun i hi=>by cases hi⟩ fun i l _ h=>(qA s hn).bnd fun p hp=>bX.ret ⟨by rw [List.length_append];have:=h.1;simp;omega,fun x hx=>?_⟩).mono fun l h=>⟨by have:=h.1;omega,h.2⟩
 rcases Oj hx with hx | hx
 ·exact h.2 x hx
 ·rw [Oi hx];exact hp
theorem Ac {n:Int} (hn:0 < n) (k:Nat):bX (gh s n k) fun l=>l.length=k∧∀z∈l,0≤z∧z < n:=by
 refine bX.runs (fun i (l:List Int)=>l.length=i∧∀z∈l,0≤z∧z < n) k ⟨rfl,fun z hz=>by cases hz⟩ fun i l _ ⟨h1,h2⟩=>(d3 s hn).bnd fun x hx=>bX.ret ⟨by simp [h1],fun z hz=>?_⟩
 rcases Oj hz with hz | hz
 ·exact h2 z hz
 ·rw [Oi hz];exact hx
structure vn (n kind:Int) (calls:List Int) (r:bJ):Prop where
 back:ff n 2 r.Back
 ahead:ff n 2 r.Ahead
 ins:ff n 3 r.In
 rows:f5 kind r=false
 out:qd kind r=true
 outs:r.Out.length≤4∧∀z∈r.Out,0≤z∧z < n
 callsN:r.Calls.length≤2
 callsK:kind≠4→r.Calls=[]
 callsIn:∀c∈r.Calls,(0≤c.At∧c.At < r.In.length)∧c.Lookup∈calls
 x: -200≤r.X∧r.X≤200
 x0:kind≠6→r.X=0
theorem ff.nil (n:Int) (k:Nat):ff n k []:=⟨Nat.zero_le _,fun q hq=>by cases hq⟩
theorem ff.one {n:Int} {a:List Int} (h:Gh n a):ff n 3 [a]:=⟨by simp,fun q hq=>by rw [Oi hq];exact h⟩
theorem ff.cons {n:Int} {a:List Int} (h:Gh n a) {l:List (List Int)} (hl:ff n 2 l):ff n 3 (a::l):=⟨by have:=hl.1;simp;omega,fun q hq=>by
 rcases List.mem_cons.1 hq with rfl | hq
 ·exact h
 ·exact hl.2 q hq⟩
theorem Bh {n:Int} (hn:0 < n) (calls:List Int) (k:Nat):bX (fi s n calls (if calls.length=0 then 0 else k)) fun c=>c.length≤k∧∀x∈c,(0≤x.At∧x.At < n)∧x.Lookup∈calls:=by
 by_cases h0:calls.length=0
 ·rw [if_pos h0]
  exact bX.ret ⟨Nat.zero_le _,fun x hx=>by cases hx⟩
 rw [if_neg h0]
 refine (bX.runs (fun i (l:List jt)=>l.length=i∧∀x∈l,(0≤x.At∧x.At < n)∧x.Lookup∈calls) k ⟨rfl,fun z hz=>by cases hz⟩ fun i l _ ⟨h1,h2⟩=>(d3 s hn).bnd fun a ha=>(d3 s (by omega)).bnd fun z hz=>bX.ret ⟨by simp [h1],fun x hx=>?_⟩).mono fun l h=>⟨Nat.le_of_eq h.1,h.2⟩
 rcases Oj hx with hx | hx
 ·exact h2 x hx
 ·rw [Oi hx]
  refine ⟨ha,?_⟩
  have hlt:z.toNat < calls.length:=by omega
  rw [List.getD_eq_getElem?_getD,Oz hlt]
  exact List.getElem_mem hlt
theorem Fz {n kind:Int} (hn:0 < n) (hk:1≤kind∧kind≤6) (calls:List Int):bX (gI s n kind calls) (vn n kind calls):=by
 have hsides:bX (jo s n) fun e=>ff n 2 e.1∧ff n 2 e.2:=by
  refine (bX.any _).bnd fun z _=>bX.ite (fun _=>(nV s hn).bnd fun b hb=>(nV s hn).bnd fun c hc=>bX.ret ⟨hb,hc⟩) fun _=>bX.ret ⟨ff.nil ..,ff.nil ..⟩
 refine (qA s hn).bnd fun a ha=>bX.ite (fun hk6=>(qA s hn).bnd fun b hb=>(d3 s (by omega)).bnd fun x hx=>bX.ret ?_) fun hk6=>hsides.bnd fun e he=>?_
 ·subst hk6
  exact ⟨ff.nil ..,ff.nil ..,⟨by simp,by simp [ha,hb]⟩,by simp [f5],by simp [qd],⟨by simp,by simp⟩,by simp,fun _=>rfl,by simp,by dsimp only;omega,fun h=>absurd rfl h⟩
 refine bX.ite (fun h15=>(Ac s hn _).bnd fun o ho=>bX.ret ?_) fun h15=>?_
 ·refine ⟨he.1,he.2,ff.one ha,?_,?_,⟨by rw [ho.1];exact ha.few,ho.2⟩,by simp,fun _=>rfl,by simp,by simp,fun _=>rfl⟩
  ·unfold f5;rw [if_pos (by omega)];simp
  ·unfold qd;rw [if_pos h15];simp [ho.1]
 refine bX.ite (fun h2=>(d3 s (by omega)).bnd fun k hk=>(Ac s hn _).bnd fun o ho=>bX.ret ?_) fun h2=>?_
 ·subst h2
  exact ⟨he.1,he.2,ff.one ha,by simp [f5],by simp only [qd];simp;omega,⟨by dsimp only;omega,ho.2⟩,by simp,fun _=>rfl,by simp,by simp,fun _=>rfl⟩
 refine bX.ite (fun h3=>(nV s hn).bnd fun m hm=>(d3 s hn).bnd fun o ho=>bX.ret ?_) fun h3=>?_
 ·subst h3
  exact ⟨he.1,he.2,ff.cons ha hm,by simp [f5];omega,by simp [qd],⟨by simp,fun z hz=>by rw [Oi hz];exact ho⟩,by simp,fun _=>rfl,by simp,by simp,fun _=>rfl⟩
 have h4:kind=4:=by omega
 subst h4
 refine (nV s hn).bnd fun m hm=>(d3 s (by omega)).bnd fun k hk=>(Bh s (by simp) calls _).bnd fun c hc=>bX.ret ?_
 exact ⟨he.1,he.2,ff.cons ha hm,by simp [f5];omega,by simp [qd],⟨by simp,by simp⟩,by have:=hc.1;dsimp only;omega,fun h=>absurd rfl h,fun x hx=>hc.2 x hx,by simp,fun _=>rfl⟩
theorem Ew {z:Int} (h:0≤z∧z < 10):1≤fM.getD z.toNat 0∧fM.getD z.toNat 0≤8:=by
 have:∀k < 10,1≤fM.getD k 0∧fM.getD k 0≤8:=by decide
 exact this _ (by omega)
structure Iz (k:Nat) (o:List bf×List Int):Prop where
 len:o.1.length=k
 kinds:∀l∈o.1,1≤l.Kind∧l.Kind≤8
 none:∀l∈o.1,l.Rules=[]
 calls:∀c∈o.2,∃(i:Nat) (l:bf),c=i∧o.1[i]?=some l∧l.Kind≤4
theorem tv (k:Nat):bX (eD s k) (Iz k):=by
 refine bX.runs (fun i o=>Iz i o) k ⟨rfl,fun l hl=>(by cases hl),fun l hl=>(by cases hl),fun c hc=>(by cases hc)⟩ fun i o hi h=>(d3 s (by omega)).bnd fun z hz=>(bX.any _).bnd fun y _=>bX.ret ?_
 have hkz:=Ew hz
 have hold:∀c∈o.2,∃(i:Nat) (l:bf),c=i∧(o.1++[⟨fM.getD z.toNat 0,decide (y=0),[]⟩])[i]?=some l∧l.Kind≤4:=fun c hc=>by
  obtain ⟨j,l,h1,h2,h3⟩:=h.calls c hc
  exact ⟨j,l,h1,by rw [List.getElem?_append_left (Ol h2).1];exact h2,h3⟩
 refine ⟨by simp [h.len],fun l hl=>?_,fun l hl=>?_,fun c hc=>?_⟩
 ·rcases Oj hl with hl | hl
  ·exact h.kinds l hl
  ·rw [Oi hl];exact hkz
 ·rcases Oj hl with hl | hl
  ·exact h.none l hl
  ·rw [Oi hl]
 ·dsimp only at hc ⊢
  split at hc
  ·rename_i h4
   rcases Oj hc with hc | hc
   ·exact hold c hc
   ·exact ⟨i,_,Oi hc,by rw [←h.len,List.getElem?_append_right (Nat.le_refl _),Nat.sub_self];rfl,h4⟩
  ·exact hold c hc
structure D0 (n:Int) (calls:List Int) (kinds:List Int) (l:List bf):Prop where
 kind:l.map bf.Kind=kinds
 few:∀q∈l,q.Rules.length≤3
 none:∀q∈l,7≤q.Kind→q.Rules=[]
 rule:∀q∈l,∀r∈q.Rules,vn n q.Kind calls r
theorem E5 {n:Int} (hn:0 < n) (calls kinds:List Int) (hkd:∀z∈kinds,1≤z∧z≤8) {l:List bf} (hl:D0 n calls kinds l) (hno:∀q∈l,q.Rules=[]) (k:Nat):bX (fk s n calls l k) (D0 n calls kinds):=by
 refine (bX.runs (fun i q=>D0 n calls kinds q∧∀(j:Nat) x,i≤j→q[j]?=some x→x.Rules=[]) k ⟨hl,fun j x _ hx=>hno x (Ow hx)⟩ fun i q hi ⟨h,h0⟩=>?_).mono fun _ h=>h.1
 cases hq:q[i]? with
 | none=>exact bX.ret ⟨h,fun j x hj hx=>h0 j x (by omega) hx⟩
 | some x=>
  dsimp only
  refine bX.ite (fun h7=>bX.ret ⟨h,fun j x hj hx=>h0 j x (by omega) hx⟩) fun h7=>(d3 s (by omega)).bnd fun c hc=>?_
  have hxm:=Ow hq
  have hxk:x.Kind∈kinds:=by rw [←h.kind];exact List.mem_map_of_mem hxm
  have hxk:=hkd _ hxk
  have hr:bX (f6 s n x.Kind calls (1+c).toNat) fun rs=>rs.length≤3∧∀r∈rs,vn n x.Kind calls r:=by
   refine (bX.runs (fun i rs=>rs.length=i∧∀r∈rs,vn n x.Kind calls r) (1+c).toNat ⟨rfl,fun r hr=>by cases hr⟩ fun i rs _ ⟨h1,h2⟩=>(Fz s hn (by omega) calls).bnd fun r hr=>bX.ret ⟨by simp [h1],fun y hy=>?_⟩).mono fun rs ⟨h1,h2⟩=>⟨by omega,h2⟩
   rcases Oj hy with hy | hy
   ·exact h2 y hy
   ·rw [Oi hy];exact hr
  refine hr.bnd fun rs ⟨hr1,hr2⟩=>bX.ret ⟨⟨?_,fun y hy=>?_,fun y hy h7'=>?_,fun y hy r hr=>?_⟩,fun j y hj hy=>?_⟩
  ·rw [←h.kind]
   apply List.ext_getElem?
   intro j
   rw [List.getElem?_map,List.getElem?_map]
   by_cases e:i=j
   ·subst e
    rw [List.getElem?_set_self (Ol hq).1,hq]
    rfl
   ·rw [List.getElem?_set_ne e]
  ·rcases List.mem_or_eq_of_mem_set hy with hy | hy
   ·exact h.few y hy
   ·rw [hy];exact hr1
  ·rcases List.mem_or_eq_of_mem_set hy with hy | hy
   ·exact h.none y hy h7'
   ·rw [hy] at h7';exact absurd h7' h7
  ·rcases List.mem_or_eq_of_mem_set hy with hy | hy
   ·exact h.rule y hy r hr
   ·rw [hy] at hr ⊢;exact hr2 r hr
  ·rw [List.getElem?_set_ne (by omega)] at hy
   exact h0 j y (by omega) hy
structure D1 (n:Int) (l:List bf):Prop where
 len:l.length≤6
 kinds:∀q∈l,1≤q.Kind∧q.Kind≤8
 few:∀q∈l,q.Rules.length≤3
 none:∀q∈l,7≤q.Kind→q.Rules=[]
 rule:∀q∈l,∀r∈q.Rules,∃calls,vn n q.Kind calls r∧∀c∈calls,∃(i:Nat) (x:bf),c=i∧l[i]?=some x∧x.Kind≤4
theorem pI {n:Int} (hn:0 < n):bX (iT s n) (D1 n):=by
 refine (d3 s (by omega)).bnd fun k hk=>(tv s k.toNat).bnd fun o ho=>?_
 refine (E5 s hn o.2 (o.1.map bf.Kind) (fun z hz=>?_) (l:=o.1) ⟨rfl,fun q hq=>by rw [ho.none q hq];exact Nat.zero_le _,fun q hq _=>ho.none q hq,fun q hq r hr=>by rw [ho.none q hq] at hr;cases hr⟩ ho.none k.toNat).mono fun l hl=>?_
 ·obtain ⟨q,hq,rfl⟩:=List.mem_map.1 hz
  exact ho.kinds q hq
 have hlen:l.length=o.1.length:=by have:=congrArg List.length hl.kind;simpa using this
 have hat:∀(i:Nat) (y:bf),o.1[i]?=some y→∃x,l[i]?=some x∧x.Kind=y.Kind:=fun i y hy=>by
  have hi:i < l.length:=by rw [hlen];exact (Ol hy).1
  refine ⟨_,Oz hi,?_⟩
  have:=congrArg (fun q:List Int=>q[i]?) hl.kind
  simp only [List.getElem?_map,hy,Oz hi,Option.map_some] at this
  exact Option.some.inj this
 refine ⟨by rw [hlen,ho.len];omega,fun q hq=>?_,hl.few,hl.none,fun q hq r hr=>⟨o.2,hl.rule q hq r hr,fun c hc=>?_⟩⟩
 ·have:q.Kind∈o.1.map bf.Kind:=by rw [←hl.kind];exact List.mem_map_of_mem hq
  obtain ⟨y,hy,he⟩:=List.mem_map.1 this
  rw [←he]
  exact ho.kinds y hy
 ·obtain ⟨i,y,h1,h2,h3⟩:=ho.calls c hc
  obtain ⟨x,h4,h5⟩:=hat i y h2
  exact ⟨i,x,h1,h4,by omega⟩
end Go.Proofs.YtamjlkdanllgjaaGreatDoor
namespace Go.Proofs.YtamjlkdanllgjaaGreatDoor
open Go.RowKit
attribute [local irreducible] AT bF AX AO Av Kt b8 d9 DA cu
set_option maxRecDepth 8000
variable (s:List Int) (hs:s.length≤1000000) (F:MF)
include hs
set_option maxHeartbeats 2000000 in
theorem tw (n fn most:Int) (hn:0≤n∧n≤1000) (hf:fn≤1000) (hm:0 < most∧most≤6):sB 52 [aG n,aG fn,aG most] s F (nw s n fn most) jE:=by
 intro b m
 refine aQ Tryz.func52 rfl Tryz.ntmps52 rfl fun B=>?_
 refine W01 ?_
 refine cL ?_
 have hk:=co s hs m.a (n:=most) (by omega)
 have hk:0≤(dr s most m).1∧(dr s most m).1 < most:=hk
 generalize e1:dr s most m=p1 at hk ⊢
 obtain ⟨k,hkk⟩:∃k:Nat,p1.1=k:=⟨p1.1.toNat,by omega⟩
 have hlen:∀i,(fI s n fn i p1.2).1.length≤9 * i:=fun i=>(bX.runs (fun i l=>ke (9 * i) l) i ⟨Nat.le_refl _,fun i hi=>by cases hi⟩ (fun i l _ h=>(tL s hn hf).bnd fun p hp=>bX.ret ⟨by rw [List.length_append];have:=h.1;have:=hp.1;omega,fun x hx=>by
  rcases Oj hx with hx | hx
  ·exact h.2 x hx
  ·exact hp.2 x hx⟩) p1.2).1
 rw [hkk]
 refine W03 ?_
 refine bM (bq (t:=9) (c':= .vec none 2 []) rfl fun σ v h=>cM 2 h) ?_
 refine aJ [0,1,2,10] (α:=Nat×Option (Nat×Nat)) (fun x=>[(11,aG x.1),(9,.vec x.2 2 ((fI s n fn x.1 p1.2).1.map dX))]) (fun x=>x.1≤k) (fun x=>ee b s F (fI s n fn x.1 p1.2).2::tok x.2 126 2 ((fI s n fn x.1 p1.2).1.map dX).length) (fun x=>k - x.1) (0,none) rfl ⟨rfl,rfl,trivial⟩ (Nat.zero_le _) (fun _ _ h=>h) ?_
 rintro ⟨i,q⟩ hi
 dsimp only at hi ⊢
 try dsimp only [Oq,Oo,Om,Oh]
 refine W01 ?_
 refine aw rfl (fun h=>?_) (fun h=>?_)
 ·have hil:i < k:=by have:=Oy h;omega
  have hstep:fI s n fn (i+1) p1.2=((fI s n fn i p1.2).1++(cP s n fn (fI s n fn i p1.2).2).1,(cP s n fn (fI s n fn i p1.2).2).2):=rfl
  have hl1:=hlen i
  have hl2:=hlen (i+1)
  rw [hstep] at hl2
  rw [List.length_append] at hl2
  generalize fI s n fn i p1.2=st at hl1 hl2 hstep ⊢
  refine W03 ?_
  refine wo (yw s hs F n fn (by omega) (by omega)) ?_
  generalize cP s n fn st.2=pc at hl2 hstep ⊢
  unfold jE
  refine bA a7 [ee b s F pc.2] rfl rfl rfl rfl (List.perm_append_comm (l₁:=[ee b s F pc.2])) (by simp;omega) (by simp;omega) rfl fun q'=>?_
  refine aX (aW List.perm_append_comm) ?_
  rw [←List.map_append]
  refine W02 ?_
  exact aD (i+1,q') rfl ⟨by rw [Ov];rfl,by rw [hstep];rfl,trivial⟩ (by dsimp only;omega) (by dsimp only;omega) (fun _ _ h=>by dsimp only;rw [hstep];exact h)
 have hil:i=k:=by have:=Ox h;omega
 subst hil
 refine W01 ?_
 refine b7 (bS (L':=[ee b s F (fI s n fn i p1.2).2]) (List.Sublist.cons_cons _ (List.nil_sublist _))) ?_
 refine b7 (bq (t:=8) (c':= .imm 2 ((fI s n fn i p1.2).1.map dX)) rfl fun σ v h=>VR.im h) (OK KN ?_)
 have hv:nw s n fn most m=fI s n fn i p1.2:=by
  unfold nw c8
  rw [e1]
  dsimp only
  rw [hkk]
  rfl
 rw [hv]
 exact ⟨rfl,rfl⟩
end Go.Proofs.YtamjlkdanllgjaaGreatDoor
namespace Go.Proofs.YtamjlkdanllgjaaGreatDoor
open Go.RowKit
attribute [local irreducible] AT bF AX AO Av Kt b8 d9 DA cu
set_option maxRecDepth 8000
variable (s:List Int) (hs:s.length≤1000000) (F:MF)
include hs
abbrev bV:AV:= .sc (.slice none 0 0)
set_option maxHeartbeats 8000000 in
theorem uN:sB 82 [] s F (jN s) M3:=by
 intro b m
 refine aQ Tryz.func82 rfl Tryz.ntmps82 rfl fun B=>?_
 refine W1q ?_
 intros
 rename_i rb ob
 refine aX (aW (L':=ee b s F m::(ob,.box [bV,bV] 61)::(rb,.box [bV,bV] 61)::[]) (List.perm_append_comm (l₁:=[_,_]))) ?_
 refine aX (bB 1 (cs':=[.vec none 3 [],.vec none 1 []]) rfl fun σ vs h=>l8.vrs (a:=[bV,bV]) (b:=[.vec none 3 [],.vec none 1 []]) ⟨d5.vecN 3,d5.vecN 1,trivial⟩ h) ?_
 refine cL ?_
 have hk:=co s hs m.a (n:=3) (by omega)
 have hk:0≤(dr s 3 m).1∧(dr s 3 m).1 < 3:=hk
 generalize e1:dr s 3 m=p1 at hk ⊢
 obtain ⟨k,hkk⟩:∃k:Nat,p1.1=k:=⟨p1.1.toNat,by omega⟩
 rw [hkk]
 have hok:∀i,vl i (iq s i p1.2).1:=fun i=>wB s i p1.2
 refine W03 ?_
 refine aJ [0,2,3,4] (α:=Nat×Option (Nat×Nat)×Option (Nat×Nat)) (fun x=>[(5,aG x.1)]) (fun x=>x.1≤k) (fun x=>ee b s F (iq s x.1 p1.2).2::(ob,.box [.vec x.2.1 3 ((iq s x.1 p1.2).1.1.map dH),.vec x.2.2 1 (aL (iq s x.1 p1.2).1.2)] 61)::(rb,.box [bV,bV] 61)::(tok x.2.1 167 3 ((iq s x.1 p1.2).1.1.map dH).length++(tok x.2.2 3 1 (aL (iq s x.1 p1.2).1.2).length++[]))) (fun x=>k - x.1) (0,none,none) rfl ⟨rfl,trivial⟩ (Nat.zero_le _) (fun _ _ h=>by simpa [iq,i7,cK,tok,fN,aL] using h) ?_
 rintro ⟨i,q1,q2⟩ hi
 dsimp only at hi ⊢
 try dsimp only [Oq,Oo,Om,Oh]
 refine W01 ?_
 refine aw rfl (fun h=>?_) (fun h=>?_)
 ·have hil:i < k:=by have:=Oy h;omega
  have hoi:=hok i
  have hoi1:=hok (i+1)
  have hstep:iq s (i+1) p1.2=c8 (dr s 4) (fun k=>c8 (oW s (iq s i p1.2).1.1 (2+k).toNat) fun l=>cK (l,(iq s i p1.2).1.2++[(l.length:Int) - 1])) (iq s i p1.2).2:=rfl
  rw [hstep] at hoi1
  generalize iq s i p1.2=st at hoi hoi1 hstep ⊢
  have hln:=hoi.len
  have hle:=hoi.endl
  refine W03 ?_
  refine cL ?_
  have hc:=co s hs st.2.a (n:=4) (by omega)
  have hc:0≤(dr s 4 st.2).1∧(dr s 4 st.2).1 < 4:=hc
  unfold c8 at hstep hoi1
  generalize dr s 4 st.2=p2 at hc hstep hoi1 ⊢
  obtain ⟨c,hcc⟩:∃k:Nat,2+p2.1=k:=⟨(2+p2.1).toNat,by omega⟩
  dsimp only at hstep hoi1
  rw [hcc] at hstep hoi1
  dsimp only [Int.toNat_natCast] at hstep hoi1
  refine W0c ?_
  rw [hcc]
  have hpt:∀j,(oW s st.1.1 j p2.2).1.length=st.1.1.length+j:=fun j=>(Aj s st.1.1 hoi.pts j p2.2).1
  refine aJ [0,2,3,4,5,6] (α:=Nat×Option (Nat×Nat)) (fun x=>[(7,aG x.1)]) (fun x=>x.1≤c) (fun x=>ee b s F (oW s st.1.1 x.1 p2.2).2::(ob,.box [.vec x.2 3 ((oW s st.1.1 x.1 p2.2).1.map dH),.vec q2 1 (aL st.1.2)] 61)::(rb,.box [bV,bV] 61)::(tok x.2 167 3 ((oW s st.1.1 x.1 p2.2).1.map dH).length++(tok q2 3 1 (aL st.1.2).length++[]))) (fun x=>c - x.1) (0,q1) rfl ⟨rfl,trivial⟩ (Nat.zero_le _) (fun _ _ h=>h) ?_
  rintro ⟨j,q⟩ hj
  dsimp only at hj ⊢
  try dsimp only [Oq,Oo,Om,Oh]
  refine W01 ?_
  refine aw rfl (fun h=>?_) (fun h=>?_)
  ·have hjl:j < c:=by have:=Oy h;omega
   have hl0:=hpt j
   have hstep2:oW s st.1.1 (j+1) p2.2=((oW s st.1.1 j p2.2).1++[(J2 s j (oW s st.1.1 j p2.2).2).1],(J2 s j (oW s st.1.1 j p2.2).2).2):=rfl
   generalize oW s st.1.1 j p2.2=u at hl0 hstep2 ⊢
   refine W0z ?_
   refine dE [.cell (ob,0,.vec q 3 (u.1.map dH))] 19 [(0,.v),(1,.k),(2,.v),(6,.v),(10,.v),(11,.v),(3,.f),(4,.v),(5,.v),(7,.f),(8,.v),(9,.v),(12,.v),(13,.v),(14,.f),(15,.v),(16,.v),(17,.v),(18,.v)] none ?_ trivial rfl (by kernel_rfl) (by kernel_rfl) (by kernel_rfl) mixed (by kernel_rfl) rfl
   refine W06 ?_
   refine dU a7 0 rfl rfl rfl (bR 1 rfl rfl c6) (by first | trivial | rfl) ?_
   refine W06 ?_
   refine eO (bR 1 rfl rfl c6) ?_
   have hx:=co s hs u.2.a (n:=21) (by omega)
   have hx:0≤(dr s 21 u.2).1∧(dr s 21 u.2).1 < 21:=hx
   generalize e2:dr s 21 u.2=x1 at hx ⊢
   refine W11 ?_
   refine eO (bR 1 rfl rfl c6) ?_
   have hy:=co s hs x1.2.a (n:=21) (by omega)
   have hy:0≤(dr s 21 x1.2).1∧(dr s 21 x1.2).1 < 21:=hy
   generalize e3:dr s 21 x1.2=y1 at hy ⊢
   refine W0q ?_
   by_cases hp:j=0
   ·rw [decide_eq_true (show ((j:Int)=0) by omega)]
    refine W1a ?_
    refine JV rfl rfl ?_
    have hpd:J2 s j u.2=(⟨x1.1 * 50 - 100,y1.1 * 50 - 200,true⟩,y1.2):=by simp [J2,c8,cK,e2,e3,hp]
    rw [hpd] at hstep2
    dsimp only at hstep2
    repeat' (first|refine aE ?_|refine b6 a7 ?_|refine ec a7 ?_|refine lc rfl rfl ?_)
    refine OO [0,2,3,4,5,6,7,24,41] KN ?_
    repeat' (first|fail)
    refine bA a7 _ rfl rfl rfl rfl (eQ (A:=[_,_,_])) (by simp;omega) (by simp;omega) rfl fun q'=>?_
    refine aX (aW (eQ (A:=[_,_,_])).symm) ?_
    refine W0d ?_
    exact aD (j+1,q') rfl ⟨by rw [Ov];rfl,trivial⟩ (by dsimp only;omega) (by dsimp only;omega) (fun _ _ h=>by dsimp only;rw [hstep2];simpa [fN,eR,dH] using h)
   ·rw [decide_eq_false (show ¬((j:Int)=0) by omega)]
    refine W06 ?_
    refine eO (bR 1 rfl rfl c6) ?_
    generalize e4:dr s 4 y1.2=z1
    have hpd:J2 s j u.2=(⟨x1.1 * 50 - 100,y1.1 * 50 - 200,decide (0 < z1.1)⟩,z1.2):=by simp [J2,c8,cK,e2,e3,e4,hp]
    rw [hpd] at hstep2
    dsimp only at hstep2
    refine W0R ?_
    refine OO [0,2,3,4,5,6,7,24,41] KN ?_
    repeat' (first|fail)
    refine bA a7 _ rfl rfl rfl rfl (eQ (A:=[_,_,_])) (by simp;omega) (by simp;omega) rfl fun q'=>?_
    refine aX (aW (eQ (A:=[_,_,_])).symm) ?_
    refine W0d ?_
    exact aD (j+1,q') rfl ⟨by rw [Ov];rfl,trivial⟩ (by dsimp only;omega) (by dsimp only;omega) (fun _ _ h=>by dsimp only;rw [hstep2];simpa [fN,eR,dH] using h)
  have hjl:j=c:=by have:=Ox h;omega
  subst hjl
  have hjn:=hpt j
  generalize oW s st.1.1 j p2.2=u at hjn hstep hoi1 ⊢
  have hul:(u.1.map dH).length=u.1.length:=Ou ..
  have hel:(aL st.1.2).length=st.1.2.length:=aP _
  repeat' (first|refine O1 ?_|refine OE a7 KN ?_|(apply bU;first|refine OH a7 0 OB ?_|refine OH a7 1 OB ?_|refine OH a7 2 OB ?_|refine OH a7 3 OB ?_|refine OJ a7 0 OB ?_|refine OJ a7 1 OB ?_|refine OJ a7 2 OB ?_|refine OM a7 1 NZ (by assumption) rfl ?_|refine OM a7 0 NZ (by assumption) rfl ?_|fail)|(apply aS;refine aR ?_)|refine bO a7 ?_|fail)
  refine bA a7 _ rfl rfl rfl rfl (M9 (A:=[_,_,_])) (by simp [aP];omega) (by simp [aP];omega) rfl fun q'=>?_
  refine aX (aW (M9 (A:=[_,_,_])).symm) ?_
  refine W0d ?_
  exact aD (i+1,q,q') rfl ⟨by rw [Ov];rfl,trivial⟩ (by dsimp only;omega) (by dsimp only;omega) (fun _ _ h=>by dsimp only;rw [hstep];simpa [fN,eR,cK,aL,hul] using h)
 have hil:i=k:=by have:=Ox h;omega
 subst hil
 have hv:jN s m=iq s i p1.2:=by
  unfold jN c8
  rw [e1]
  dsimp only
  rw [hkk]
  rfl
 rw [hv]
 generalize iq s i p1.2=st
 refine W0g ?_
 refine b7 (bB 2 (cs':=[.imm 3 (st.1.1.map dH),.imm 1 (aL st.1.2)]) rfl fun σ vs h=>l8.vrs (a:=[.vec q1 3 (st.1.1.map dH),.vec q2 1 (aL st.1.2)]) (b:=[.imm 3 (st.1.1.map dH),.imm 1 (aL st.1.2)]) ⟨d5.im,d5.im,trivial⟩ h) (iv a7 2 [ee b s F st.2] rfl rfl rfl rfl rfl (List.Sublist.cons_cons _ (List.nil_sublist _)) ⟨rfl,rfl⟩)
end Go.Proofs.YtamjlkdanllgjaaGreatDoor
