/-
  Fonts of plain numbers may be: glyphs, and the font.
-/
import Derived.Test.YtpmdfoaadejmkaaGreatDoorM27
namespace Go.Proofs.YtpmdfoaadejmkaaGreatDoor
variable (s:List Int)
def mE (a:dE):Int×Int:=(a.Kind,a.Class)
structure EU (cl:Int) (mark:Bool) (l:List dE):Prop where
 sub:(l.map mE).Sublist (gC cl)
 at':∀a∈l,(0≤a.X∧a.X≤1000)∧(-200≤a.Y∧a.Y≤800)∧(a.Kind=2→mark=true)
theorem uT {cl:Int} {i:Nat} (h:i < 5):(gC cl)[i]?=some ((gC cl).getD i (0,0)):=by
 rw [List.getD_eq_getElem?_getD,Iy (show i < (gC cl).length from h)]
 rfl
theorem uU (mark:Bool) (cl:Int):bU (f7 s mark cl 5) (EU cl mark):=by
 refine (bU.runs (b:=[]) (fun i (l:List dE)=>(l.map mE).Sublist ((gC cl).take i)∧∀a∈l,(0≤a.X∧a.X≤1000)∧(-200≤a.Y∧a.Y≤800)∧(a.Kind=2→mark=true)) 5 ⟨List.nil_sublist _,fun a ha=>by cases ha⟩ fun i l hi ⟨h1,h2⟩=>(bU.any _).bnd fun z _=>bU.ite (fun h3=>(cT s (by omega)).bnd fun x hx=>(cT s (by omega)).bnd fun y hy=>bU.ret ⟨?_,fun a ha=>?_⟩) fun _=>bU.ret ⟨?_,h2⟩).mono fun l ⟨h1,h2⟩=>⟨h1,h2⟩
 ·rw [List.take_add_one,uT hi,List.map_append]
  exact h1.append (List.Sublist.refl _)
 ·rcases Ll ha with ha | ha
  ·exact h2 a ha
  ·rw [Lj ha]
   refine ⟨by dsimp only;omega,by dsimp only;omega,fun hk=>?_⟩
   rcases h3.2 with h4 | h4
   ·exact absurd hk h4
   ·exact h4
 ·rw [List.take_add_one]
  exact h1.trans (List.sublist_append_left _ _)
def JC (a b:dO):Prop:=a.Region < b.Region∨(a.Region=b.Region∧a.Point < b.Point)
structure EW (R pts:Nat) (l:List dO):Prop where
 up:l.Pairwise JC
 len:l.length≤R * (pts+1)
 dom:∀d∈l,(0≤d.Region∧d.Region < R)∧(-1≤d.Point∧d.Point < pts)∧(-20≤d.X∧d.X≤20)∧(-20≤d.Y∧d.Y≤20)∧(d.Point= -1→d.Y=0)
structure uL (r p pts:Nat) (l:List dO):Prop where
 up:l.Pairwise JC
 len:l.length≤r * (pts+1)+p
 dom:∀d∈l,(0≤d.Region∧(d.Region < r∨(d.Region=r∧d.Point < (p:Int) - 1)))∧(-1≤d.Point∧d.Point < pts)∧(-20≤d.X∧d.X≤20)∧(-20≤d.Y∧d.Y≤20)∧(d.Point= -1→d.Y=0)
theorem uL.more {r p pts:Nat} {l:List dO} (h:uL r p pts l):uL r (p+1) pts l:=⟨h.up,by have:=h.len;omega,fun d hd=>by have:=h.dom d hd;omega⟩
theorem uL.add {r p pts:Nat} {l:List dO} (h:uL r p pts l) {x y:Int} (hp:p≤pts) (hx: -20≤x∧x≤20) (hy: -20≤y∧y≤20) (h0:p=0→y=0):uL r (p+1) pts (l++[⟨r,(p:Int) - 1,x,y⟩]):=by
 refine ⟨?_,by have:=h.len;simp;omega,fun d hd=>?_⟩
 ·rw [List.pairwise_append]
  refine ⟨h.up,List.pairwise_singleton ..,fun a ha b hb=>?_⟩
  rw [Lj hb]
  have:=h.dom a ha
  unfold JC
  dsimp only
  omega
 ·rcases Ll hd with hd | hd
  ·have:=h.dom d hd;omega
  ·rw [Lj hd]
   dsimp only
   refine ⟨by omega,by omega,hx,hy,fun hq=>h0 (by omega)⟩
theorem qQ (pts R:Nat):bU (gE s pts R) (EW R pts):=by
 refine (bU.runs (fun r l=>uL r 0 pts l) R ⟨.nil,by simp,fun d hd=>by cases hd⟩ fun r l _ h=>?_).mono fun l h=>⟨h.up,h.len,fun d hd=>by have:=h.dom d hd;omega⟩
 refine (bU.runs (fun p l=>uL r p pts l) (pts+1) h fun p l hp h=>(bU.any _).bnd fun z _=>bU.ite (fun _=>(cT s (by omega)).bnd fun x hx=>bU.ite (fun h0=>bU.ret ?_) fun h0=>(cT s (by omega)).bnd fun y hy=>bU.ret ?_) fun _=>bU.ret h.more).mono fun l h=>⟨h.up,by have:=h.len;rw [Nat.add_mul];omega,fun d hd=>by have:=h.dom d hd;omega⟩
 ·subst h0
  exact h.add (by omega) (by omega) (by omega) fun _=>rfl
 ·exact h.add (by omega) (by omega) (by omega) fun e=>absurd e h0
structure zG (R n:Nat) (g:bi):Prop where
 name:g.Name=cN n
 adv:100≤g.Advance∧g.Advance≤1000
 out:∃k,k≤2∧uM k (g.Points,g.Ends)
 parts:g.Parts=[]∨(1 < n∧∃x y:Int,g.Parts=[⟨1,x,y⟩]∧(-200≤x∧x≤200)∧0≤y∧y≤200)
 anch:∃cl,(0≤cl∧cl < 2)∧EU cl g.Mark g.Anchors
 dels:EW R g.Points.length g.Deltas
 hint:iX 45 g.Hint
theorem Ax {R fn n:Nat} (hf:fn≤1000):bU (kR s R fn n) (zG R n):=by
 have hparts:bU (jd s n) fun ps=>ps=[]∨(1 < n∧∃x y:Int,ps=[⟨1,x,y⟩]∧(-200≤x∧x≤200)∧0≤y∧y≤200):=by
  refine bU.ite (fun h1=>(bU.any _).bnd fun z _=>bU.ite (fun _=>(cT s (by omega)).bnd fun x hx=>(cT s (by omega)).bnd fun y hy=>bU.ret (.inr ⟨h1,_,_,rfl,by omega,by omega⟩)) fun _=>bU.ret (.inl rfl)) fun _=>bU.ret (.inl rfl)
 refine (cT s (by omega)).bnd fun ad had=>(bU.any _).bnd fun mk _=>(px s).bnd fun o ho=>hparts.bnd fun ps hps=>(cT s (by omega)).bnd fun cl hcl=>(uU s _ cl).bnd fun an han=>(qQ s _ R).bnd fun de hde=>(bU.any _).bnd fun _ _=>?_
 have hl:o.1.length≤10:=by obtain ⟨k,h1,h2⟩:=ho;have:=h2.len;omega
 exact (vK s (n:=o.1.length) (funcs:=fn) (most:=6) (by omega) (by omega) (by omega)).bnd fun h hh=>bU.ret ⟨rfl,by dsimp only;omega,ho,hps,⟨cl,hcl,han⟩,hde,hh⟩
def oX (t:fq):Prop:=tq 0 t=0
structure gi (f:aY):Prop where
  unit:16≤f.Unit∧f.Unit≤4096
  glyN:2≤f.Glyphs.length∧f.Glyphs.length≤10
  gly:∀(i:Nat) g,f.Glyphs[i]?=some g→zG f.Regions.length i g
  chars:f.Chars.length≤16
  charR:(f.Chars.map gB.Rune).Sublist ge
  charG:∀c∈f.Chars,0≤c.Glyph∧c.Glyph < f.Glyphs.length
  looks:C5 f.Glyphs.length f.Lookups
  featN:(f.Features.map c9.Name).Sublist gc
  featL:∀t∈f.Features,t.Lookups.Pairwise (· < ·)∧t.Lookups.length≤6∧∀z∈t.Lookups,0≤z∧z < f.Lookups.length
  axes:f.Axes.length≤2
  axisN:f.Axes.map eR.Name=(List.range f.Axes.length).map (jE vf)
  axis:∀a∈f.Axes,(-200≤a.Min∧a.Min≤0)∧a.Def=0∧0≤a.Max∧a.Max≤300
  regs:f.Regions.length≤3
  reg:∀r∈f.Regions,r.length=f.Axes.length∧∀t∈r,oX t
  funcs:f.Funcs.length≤2
  func:∀c∈f.Funcs,iX 45 c
  cvt:f.Cvt.length≤3
  cvtM:∀z∈f.Cvt,-100≤z∧z < 400
theorem vI {α:Type} {l:List α} {i:Nat} (h:i < l.length) (d:α):l.getD i d∈l:=by
 rw [List.getD_eq_getElem?_getD,Iy h]
 exact List.getElem_mem h
theorem mi {α:Type} {l:List α} {i:Nat} (h:i < l.length) (d:α):l[i]?=some (l.getD i d):=by
 rw [List.getD_eq_getElem?_getD,Iy h]
 rfl
theorem DG:bU (DF s) gi:=by
  have hax:∀k:Nat,bU (ly s k) fun l=>l.length=k∧l.map eR.Name=(List.range k).map (jE vf)∧∀a∈l,(-200≤a.Min∧a.Min≤0)∧a.Def=0∧0≤a.Max∧a.Max≤300:=fun k=>by
    refine bU.runs (fun i (l:List eR)=>l.length=i∧l.map eR.Name=(List.range i).map (jE vf)∧∀a∈l,(-200≤a.Min∧a.Min≤0)∧a.Def=0∧0≤a.Max∧a.Max≤300) k ⟨rfl,rfl,fun a ha=>by cases ha⟩ fun i l _ ⟨h1,h2,h3⟩=>(cT s (by omega)).bnd fun a ha=>(cT s (by omega)).bnd fun b hb=>bU.ret ⟨by simp [h1],by simp [h2,List.range_succ],fun x hx=>?_⟩
    rcases Ll hx with hx | hx
    · exact h3 x hx
    · rw [Lj hx];dsimp only;omega
  have hrg:∀k:Nat,bU (fW s k) fun l=>l.length≤3∧∀r∈l,r.length=k∧∀t∈r,oX t:=fun k=>by
    refine bU.ite (fun _=>bU.ret ⟨Nat.zero_le _,fun r hr=>by cases hr⟩) fun _=>(cT s (by omega)).bnd fun n hn=>?_
    refine (bU.runs (fun i (l:List (List fq))=>l.length=i∧∀r∈l,r.length=k∧∀t∈r,oX t) n.toNat ⟨rfl,fun a ha=>by cases ha⟩ fun i l _ ⟨h1,h2⟩=>?_).mono fun l ⟨h1,h2⟩=>⟨by omega,h2⟩
    refine (bU.runs (fun i (r:List fq)=>r.length=i∧∀t∈r,oX t) k ⟨rfl,fun a ha=>by cases ha⟩ fun i r _ ⟨h1,h2⟩=>(cT s (by omega)).bnd fun z hz=>bU.ret ⟨by simp [h1],fun x hx=>?_⟩).bnd fun r hr=>bU.ret ⟨by simp [h1],fun x hx=>?_⟩
    · rcases Ll hx with hx | hx
      · exact h2 x hx
      · rw [Lj hx]
        have:∀t∈l9,oX t:=by unfold oX;decide
        exact this _ (vI (by simp only [l9,List.length_cons,List.length_nil];omega) _)
    · rcases Ll hx with hx | hx
      · exact h2 x hx
      · rw [Lj hx];exact hr
  have hfu:∀k:Nat,k≤1000→bU (j4 s k) fun l=>l.length=k∧∀c∈l,iX 45 c:=fun k hk=>by
    refine bU.runs (fun i (l:List (List gx))=>l.length=i∧∀c∈l,iX 45 c) k ⟨rfl,fun a ha=>by cases ha⟩ fun i l hi ⟨h1,h2⟩=>(bU.any _).bnd fun _ _=>(vK s (by omega) (by omega) (by omega)).bnd fun h hh=>bU.ret ⟨by simp [h1],fun x hx=>?_⟩
    rcases Ll hx with hx | hx
    · exact h2 x hx
    · rw [Lj hx];exact hh
  have hcv:∀k:Nat,bU (qN s k) fun l=>l.length=k∧∀z∈l,-100≤z∧z < 400:=fun k=>by
    refine bU.runs (fun i (l:List Int)=>l.length=i∧∀z∈l,-100≤z∧z < 400) k ⟨rfl,fun a ha=>by cases ha⟩ fun i l hi ⟨h1,h2⟩=>(cT s (by omega)).bnd fun z hz=>bU.ret ⟨by simp [h1],fun x hx=>?_⟩
    rcases Ll hx with hx | hx
    · exact h2 x hx
    · rw [Lj hx];omega
  have hgl:∀R fn k:Nat,fn≤1000→bU (gF s R fn k) fun l=>l.length=k∧∀(i:Nat) g,l[i]?=some g→zG R i g:=fun R fn k hf=>by
    refine bU.runs (fun i (l:List bi)=>l.length=i∧∀(j:Nat) g,l[j]?=some g→zG R j g) k ⟨rfl,fun j g h=>by simp at h⟩ fun i l hi ⟨h1,h2⟩=>(Ax s hf).bnd fun g hg=>bU.ret ⟨by simp [h1],fun j x hx=>?_⟩
    rcases Nat.lt_or_ge j l.length with h | h
    · rw [List.getElem?_append_left h] at hx
      exact h2 j x hx
    · have hj:=(Ln hx).1
      have:j=l.length:=by simp at hj;omega
      subst this
      rw [List.getElem?_append_right (Nat.le_refl _),Nat.sub_self] at hx
      cases hx
      rw [h1]
      exact hg
  have hch:∀n:Int,0 < n→bU (iv s n 16) fun l=>(l.map gB.Rune).Sublist ge∧∀c∈l,0≤c.Glyph∧c.Glyph < n:=fun n hn=>by
    refine (bU.runs (b:=[]) (fun i (l:List gB)=>(l.map gB.Rune).Sublist (ge.take i)∧∀c∈l,0≤c.Glyph∧c.Glyph < n) 16 ⟨List.nil_sublist _,fun a ha=>by cases ha⟩ fun i l hi ⟨h1,h2⟩=>(bU.any _).bnd fun z _=>bU.ite (fun _=>(cT s hn).bnd fun g hg=>bU.ret ⟨?_,fun x hx=>?_⟩) fun _=>bU.ret ⟨?_,h2⟩).mono fun l h=>h
    · rw [List.take_add_one,mi (l:=ge) (i:=i) hi 0,List.map_append]
      exact h1.append (List.Sublist.refl _)
    · rcases Ll hx with hx | hx
      · exact h2 x hx
      · rw [Lj hx];exact hg
    · rw [List.take_add_one]
      exact h1.trans (List.sublist_append_left _ _)
  have hft:∀n:Nat,n≤6→bU (ix s n 8) fun l=>(l.map c9.Name).Sublist gc∧∀t∈l,t.Lookups.Pairwise (· < ·)∧t.Lookups.length≤6∧∀z∈t.Lookups,0≤z∧z < n:=fun n hn=>by
    have hask:bU (oy s n) fun l=>l.Pairwise (· < ·)∧l.length≤n∧∀z∈l,0≤z∧z < n:=by
      refine bU.runs (fun i (l:List Int)=>l.Pairwise (· < ·)∧l.length≤i∧∀z∈l,0≤z∧z < i) n ⟨.nil,Nat.le_refl _,fun a ha=>by cases ha⟩ fun i l hi ⟨h1,h2,h3⟩=>(bU.any _).bnd fun z _=>bU.ret ?_
      split
      · refine ⟨?_,by simp;omega,fun x hx=>?_⟩
        · rw [List.pairwise_append]
          exact ⟨h1,List.pairwise_singleton ..,fun a ha b hb=>by rw [Lj hb];have:=h3 a ha;omega⟩
        · rcases Ll hx with hx | hx
          · have:=h3 x hx;omega
          · rw [Lj hx];omega
      · exact ⟨h1,by omega,fun x hx=>by have:=h3 x hx;omega⟩
    refine (bU.runs (b:=[]) (fun i (l:List c9)=>(l.map c9.Name).Sublist (gc.take i)∧∀t∈l,t.Lookups.Pairwise (· < ·)∧t.Lookups.length≤6∧∀z∈t.Lookups,0≤z∧z < n) 8 ⟨List.nil_sublist _,fun a ha=>by cases ha⟩ fun i l hi ⟨h1,h2⟩=>hask.bnd fun r hr=>(bU.any _).bnd fun z _=>bU.ret ?_).mono fun l h=>h
    split
    · refine ⟨?_,fun x hx=>?_⟩
      · rw [List.take_add_one,mi (l:=gc) (i:=i) hi ByteArray.empty,List.map_append]
        exact h1.append (List.Sublist.refl _)
      · rcases Ll hx with hx | hx
        · exact h2 x hx
        · rw [Lj hx];exact ⟨hr.1,by have:=hr.2.1;dsimp only;omega,hr.2.2⟩
    · rw [List.take_add_one]
      exact ⟨h1.trans (List.sublist_append_left _ _),h2⟩
  refine (cT s (by omega)).bnd fun u hu=>(cT s (by omega)).bnd fun k hk=>(hax _).bnd fun ax ⟨ha1,ha2,ha3⟩=>(hrg _).bnd fun rg ⟨hr1,hr2⟩=>(cT s (by omega)).bnd fun k2 hk2=>(hfu _ (by omega)).bnd fun fu ⟨hf1,hf2⟩=>(cT s (by omega)).bnd fun k3 hk3=>(hcv _).bnd fun cv ⟨hc1,hc2⟩=>(cT s (by omega)).bnd fun k4 hk4=>(hgl _ _ _ (by omega)).bnd fun gl ⟨hg1,hg2⟩=>(hch gl.length (by omega)).bnd fun ch ⟨hh1,hh2⟩=>(pu s (n:=gl.length) (by omega)).bnd fun lk hlk=>(hft lk.length hlk.len).bnd fun ft ⟨ht1,ht2⟩=>bU.ret ?_
  refine ⟨?_,by dsimp only;omega,hg2,?_,hh1,hh2,hlk,ht1,ht2,by dsimp only;omega,by dsimp only;rw [ha1];exact ha2,ha3,hr1,fun r hr=>⟨by dsimp only;rw [ha1];exact (hr2 r hr).1,(hr2 r hr).2⟩,by dsimp only;omega,hf2,by dsimp only;omega,hc2⟩
  · have:∀j < 4,16≤n7.getD j 0∧n7.getD j 0≤4096:=by decide
    exact this _ (by omega)
  · have:=hh1.length_le
    simpa [ge] using this
theorem G0:gi (pv s):=DG s ⟨0,0⟩
end Go.Proofs.YtpmdfoaadejmkaaGreatDoor
namespace Go.Proofs.YtpmdfoaadejmkaaGreatDoor
open Go.RowKit
attribute [local irreducible] AT br AX AO Av Kt b7 dm DA cA
variable (s:List Int) (hs:s.length≤1000000) (F:MF)
theorem zY (a c:UInt8):(⟨#[a]⟩:ByteArray)++(⟨#[c]⟩:ByteArray)=bytes [a,c]:=by
 apply ByteArray.ext
 simp [bytes]
theorem zZ (a b c:UInt8):(⟨#[a,b]⟩:ByteArray)++(⟨#[c]⟩:ByteArray)=bytes [a,b,c]:=by
 apply ByteArray.ext
 simp [bytes]
theorem Jx {z:Int} (h:0≤z∧z < 256):IntKind.wrap .u8 z=z:=by
 unfold IntKind.wrap
 simp [IntKind.signed,IntKind.bits]
 try omega
theorem vQ (n:Nat) (h:n < 100):IntKind.wrap .u8 (97+(n:Int))=97+(n:Int):=Jx (by omega)
theorem yX (n:Nat) (h:n < 100):UInt8.ofNat (97+(n:Int)).toNat=(97+n).toUInt8:=by
 rw [show ((97+(n:Int))).toNat=97+n by omega]
theorem Jn {a c:Nat×AB} {T:AL}:(a::(T++[])++[c]).Perm ([a,c]++(T++[])):=List.Perm.cons a (List.perm_append_comm (l₁:=T++[]))
def lL (nm:ByteArray) (ad:Int) (mk:Bool) (o:List f3×List Int) (ps an de hi:AV):List AV:=[wG nm,aI ad,eo mk,.imm 3 (o.1.map dL),.imm 1 (aQ o.2),ps,an,de,hi]
theorem zN (mark:Bool) (cl:Int) (m:MS) (k:Nat):(f7 s mark cl k m).1.length≤k:=by
 refine (bU.runs (fun i (l:List dE)=>l.length≤i) k (Nat.le_refl _) fun i l _ h=>(bU.any _).bnd fun z _=>bU.ite (fun _=>(bU.any _).bnd fun x _=>(bU.any _).bnd fun y _=>bU.ret (by simp;omega)) fun _=>bU.ret (by omega)) m
theorem xf (r:Nat) (l:List dO) (m:MS) (k:Nat):(iw s r l k m).1.length≤l.length+k:=by
 refine (bU.runs (fun i (q:List dO)=>q.length≤l.length+i) k (Nat.le_refl _) fun i q _ h=>(bU.any _).bnd fun z _=>bU.ite (fun _=>(bU.any _).bnd fun x _=>bU.ite (fun _=>bU.ret (by simp;omega)) fun _=>(bU.any _).bnd fun y _=>bU.ret (by simp;omega)) fun _=>bU.ret (by omega)) m
def kC (cl:Int):List (List AV):=(gC cl).map fun p=>[aI p.1,aI p.2]
abbrev ER (F:MF) (v:AV):MF:={ F with gl:=v }
include hs
set_option maxHeartbeats 16000000 in
theorem Di {kg:Option (Nat×Nat)} {gl rg fu:List (List AV)} (hF:F.gl= .vec kg 9 gl) (hrg:F.rg= .imm 1 rg) (hfu:F.fu= .imm 1 fu) (R fn n:Nat) (hR:rg.length=R) (hfn:fu.length=fn) (hg:gl.length≤1000) (hRl:R≤1000) (hfl:fn≤1000) (hn:n < 100) (b:Nat) (m:MS):AC Tryz.prog 91 [yk b,aI n] ([dA b s F m]++(tok kg 76 9 gl.length++[])) fun _ L=>∃kg',L=[dA b s (ER F (.vec kg' 9 (gl++[bI (kR s R fn n m).1]))) (kR s R fn n m).2]++(tok kg' 76 9 (gl++[bI (kR s R fn n m).1]).length++[]):=by
 refine aS Tryz.func91 rfl Tryz.ntmps91 rfl fun B=>?_
 repeat' (first|refine a9 ?_)
 refine bz 15 [(0,.v),(1,.v),(2,.v),(3,.v),(4,.v),(5,.v),(6,.v),(10,.v),(7,.e),(8,.v),(9,.v),(11,.e),(12,.v),(13,.v)] (some (14,.box _ 76)) ?_ ⟨_,rfl,rfl,fun _ _ _=>nd (f5 a5 rfl) rfl⟩ rfl (by kernel_rfl) (by kernel_rfl) (by kernel_rfl) bX (by kernel_rfl) rfl
 refine W1i ?_
 refine CT a5 ?_
 rw [vQ n hn]
 refine W1e ?_
 refine yG a5 ?_
 rw [yX n hn]
 repeat' (first|refine aD ?_|fail)
 refine GX (hs:=Nat.le_of_ble_eq_true rfl) ?_
 rw [zY]
 refine W0a ?_
 refine tL ?_
 have had:=cq s hs m.a (n:=19) (by omega)
 have had:0≤(dr s 19 m).1∧(dr s 19 m).1 < 19:=had
 generalize e1:dr s 19 m=ad at had ⊢
 refine W1U ?_
 refine tL ?_
 generalize e2:dr s 4 ad.2=mk
 refine W0a ?_
 refine yL [0,1,4,23] (fun _=>_) (fun _=>rfl) rfl fun _=>?_
 rename_i gb
 refine aE (aH (L':=[dA b s F mk.2,(gb,.box [.sc (.string ⟨#[]⟩),aI 0,eo false,bO,bO,bO,bO,bO,bO] 76)]++(tok kg 76 9 gl.length++[])) Jn) ?_
 refine W0p ?_
 refine qz [0,1,4] ([dA b s F mk.2,(gb,.box [wG (cN n),aI (100+ad.1 * 50),eo (decide (mk.1=0) && decide (n≠0)),bO,bO,.vec none 3 [],.vec none 4 [],.vec none 4 [],bO] 76)]++(tok kg 76 9 gl.length++[])) rfl (fun Q' K=>?_) ?_
 ·refine ar rfl (fun h=>?_) (fun h=>?_)
  ·have h:n=0:=by have:=Lz h;omega
   have hm:(decide (mk.1=0) && decide (n≠0))=false:=by simp [h]
   have hgn:cN n=E3:=if_pos h
   rw [hm,hgn] at K
   refine W0p ?_
   refine bc (bC 1 rfl fun σ vs h=>cz (k:=5) (c':= .vec none 3 []) (cz (k:=6) (c':= .vec none 4 []) (cz (k:=7) (c':= .vec none 4 []) h rfl fun v hv=>cC 4 hv) rfl fun v hv=>cC 4 hv) rfl fun v hv=>cC 3 hv) ?_
   exact K _ rfl
  ·have h:¬n=0:=by have:=Ly h;omega
   have hm:(decide (mk.1=0) && decide (n≠0))=decide (mk.1=0):=by simp [h]
   have hgn:cN n=jE Ko n:=if_neg h
   rw [hm,hgn] at K
   repeat' (first|refine aj ?_)
   refine bc (bC 1 rfl fun σ vs h=>cz (k:=5) (c':= .vec none 3 []) (cz (k:=6) (c':= .vec none 4 []) (cz (k:=7) (c':= .vec none 4 []) h rfl fun v hv=>cC 4 hv) rfl fun v hv=>cC 4 hv) rfl fun v hv=>cC 3 hv) ?_
   exact K _ rfl
 generalize hmk:(decide (mk.1=0) && decide (n≠0))=mb
 refine W0k ?_
 refine G6 (um s hs F) ?_
 have ho:=px s mk.2
 generalize e3:ka s mk.2=o at ho ⊢
 obtain ⟨ko,hko,hoo⟩:=ho
 have hol:=hoo.len
 unfold Jj
 refine LG a5 KZ ?_
 (apply aM;refine LH a5 1 LE ?_)
 refine a7 ?_
 refine a6 ?_
 refine a9 ?_
 refine qz [0,4] ([dA b s F (jd s n o.2).2,(gb,.box (lL (cN n) (100+ad.1 * 50) mb o.1 (.imm 3 ((jd s n o.2).1.map f0)) (.vec none 4 []) (.vec none 4 []) bO) 76)]++(tok kg 76 9 gl.length++[])) rfl (fun Q' K=>?_) ?_
 ·refine W0k ?_
  by_cases hn1:1 < n
  ·rw [decide_eq_true (show (1:Int) < (n:Int) by omega)]
   refine W1N ?_
   refine cF ?_
   generalize e4:dr s 4 o.2=z
   refine W1w ?_
   refine ar rfl (fun h=>?_) (fun h=>?_)
   ·have h:=Lz h
    repeat' (first|fail)
    refine dx [.cell (gb,5,.vec none 3 [])] 11 [(0,.v),(1,.k),(2,.v),(6,.v),(3,.f),(4,.v),(5,.v),(7,.f),(8,.v),(9,.v),(10,.v)] none ?_ trivial rfl (by kernel_rfl) (by kernel_rfl) (by kernel_rfl) bX (by kernel_rfl) rfl
    refine W0a ?_
    refine dP a5 0 rfl rfl rfl (bL 1 rfl rfl c8) (by first | trivial | rfl) ?_
    refine W0a ?_
    refine f4 (bL 1 rfl rfl c8) ?_
    have hx:=cq s hs z.2.a (n:=9) (by omega)
    have hx:0≤(dr s 9 z.2).1∧(dr s 9 z.2).1 < 9:=hx
    generalize e5:dr s 9 z.2=x at hx ⊢
    refine W1U ?_
    refine f4 (bL 1 rfl rfl c8) ?_
    have hy:=cq s hs x.2.a (n:=5) (by omega)
    have hy:0≤(dr s 5 x.2).1∧(dr s 5 x.2).1 < 5:=hy
    generalize e6:dr s 5 x.2=y at hy ⊢
    refine W2i ?_
    refine LQ [0,4,39,48] KZ ?_
    repeat' (first|fail)
    refine bE a5 _ rfl rfl rfl rfl (Lm _) (by simp) (by simp) rfl fun q'=>?_
    refine aE (bP (List.sublist_append_right _ _)) ?_
    refine W0M ?_
    have hv:jd s n o.2=([⟨1,x.1 * 50 - 200,y.1 * 50⟩],y.2):=by simp [jd,cg,ret,hn1,e4,e5,e6,h]
    rw [hv] at K
    refine bc (bC 1 rfl fun σ vs h=>cz (k:=5) (c':= .imm 3 ([(⟨1,x.1 * 50 - 200,y.1 * 50⟩:dX)].map f0)) h rfl fun v hv=>VR.im hv) ?_
    exact K _ rfl
   ·have h:=Ly h
    repeat' (first|refine aj ?_)
    have hv:jd s n o.2=([],z.2):=by simp [jd,cg,ret,hn1,e4,h]
    rw [hv] at K
    refine bc (bC 1 rfl fun σ vs h=>cz (k:=5) (c':= .imm 3 []) h rfl fun v hv=>VR.im hv) ?_
    exact K _ rfl
  ·rw [decide_eq_false (show ¬(1:Int) < (n:Int) by omega)]
   repeat' (first|refine aj ?_|refine a6 ?_|refine a7 ?_|refine LG a5 KZ ?_|refine LP LB ?_|refine bB rfl ?_)
   have hv:jd s n o.2=([],o.2):=by simp [jd,ret,hn1]
   rw [hv] at K
   refine bc (bC 1 rfl fun σ vs h=>cz (k:=5) (c':= .imm 3 []) h rfl fun v hv=>VR.im hv) ?_
   exact K _ rfl
 generalize e4:jd s n o.2=ps
 refine W0k ?_
 refine cF ?_
 have hcl:=cq s hs ps.2.a (n:=2) (by omega)
 have hcl:0≤(dr s 2 ps.2).1∧(dr s 2 ps.2).1 < 2:=hcl
 generalize e5:dr s 2 ps.2=cl at hcl ⊢
 repeat' (first|refine a9 ?_|refine a4 ?_|refine ai ?_|refine a6 ?_|refine a7 ?_|refine LG a5 KZ ?_|refine bQ a5 ?_|fail)
 refine aN [0,4,5] (α:=Nat×Option (Nat×Nat)) (fun x=>[(6,aI x.1),(5,.imm 2 (kC cl.1))]) (fun x=>x.1≤5) (fun x=>[dA b s F (f7 s mb cl.1 x.1 cl.2).2,(gb,.box (lL (cN n) (100+ad.1 * 50) mb o.1 (.imm 3 (ps.1.map f0)) (.vec x.2 4 ((f7 s mb cl.1 x.1 cl.2).1.map dp)) (.vec none 4 []) bO) 76)]++(tok x.2 113 4 ((f7 s mb cl.1 x.1 cl.2).1.map dp).length++(tok kg 76 9 gl.length++[]))) (fun x=>5 - x.1) (0,none) rfl ⟨rfl,rfl,trivial⟩ (Nat.zero_le _) (fun _ _ h=>h) ?_
 rintro ⟨i,q⟩ hi
 dsimp only at hi ⊢
 have hal:=zN s mb cl.1 cl.2 i
 have hstep:f7 s mb cl.1 (i+1) cl.2=(cg (dr s 3) fun z=>if z=0∧(((gC cl.1).getD i (0,0)).1≠2∨mb=true) then cg (dr s 21) fun x=>cg (dr s 21) fun y=>ret ((f7 s mb cl.1 i cl.2).1++[(⟨((gC cl.1).getD i (0,0)).1,((gC cl.1).getD i (0,0)).2,x * 50,y * 50 - 200⟩:dE)]) else ret (f7 s mb cl.1 i cl.2).1) (f7 s mb cl.1 i cl.2).2:=rfl
 try dsimp only [Lr,Lq,Lp,Li]
 refine W01 ?_
 refine ar rfl (fun h=>?_) (fun h=>?_)
 ·have hil:i < 5:=by have:=Lz h;omega
  have hka:(kC cl.1)[i]?=some [aI ((gC cl.1).getD i (0,0)).1,aI ((gC cl.1).getD i (0,0)).2]:=by
   unfold kC
   rw [List.getElem?_map,uT hil]
   rfl
  generalize f7 s mb cl.1 i cl.2=st at hal hstep ⊢
  have halm:(st.1.map dp).length=st.1.length:=Lu ..
  generalize (gC cl.1).getD i (0,0)=pr at hka hstep
  refine W0v ?_
  refine cF ?_
  unfold cg at hstep
  generalize dr s 3 st.2=z at hstep ⊢
  dsimp only at hstep
  repeat' (first|refine LG a5 KZ ?_)
  refine dz (t:=77) [0,4,5,6] (z.1=0∧(pr.1≠2∨mb=true)) rfl (fun Q' K=>?_) ?_
  ·by_cases hz:z.1=0
   ·rw [decide_eq_true hz]
    repeat' (first|refine LG a5 KZ ?_|refine LO KZ ?_|(apply aL;first|refine aJ a5 ?_|refine aF a5 ?_)|fail)
    refine Jh a5 0 ?_
    refine W1N ?_
    by_cases h2:pr.1≠2
    ·rw [decide_eq_true h2]
     repeat' (first|refine a7 ?_|refine LG a5 KZ ?_|refine LO KZ ?_|refine LP LB ?_)
     exact K _ _ rfl rfl (by simp [hz,h2])
    ·rw [decide_eq_false h2]
     repeat' (first|refine a7 ?_|refine LG a5 KZ ?_|refine LO KZ ?_|(apply bq;first|refine LJ a5 0 LC ?_|refine LJ a5 1 LC ?_|refine LJ a5 2 LC ?_|refine LJ a5 3 LC ?_|refine LK a5 0 LC ?_|refine LK a5 1 LC ?_|refine LK a5 2 LC ?_|refine LL a5 1 LA (by assumption) rfl ?_|refine LL a5 0 LA (by assumption) rfl ?_|fail)|fail)
     exact K _ _ rfl rfl (by simp only [ne_eq,Decidable.not_not] at h2;simp [hz,h2])
   ·rw [decide_eq_false hz]
    repeat' (first|refine a7 ?_|refine LG a5 KZ ?_|refine LP LB ?_|refine dK rfl rfl rfl ?_)
    exact K _ _ rfl rfl (by simp [hz])
  repeat' (first|refine a6 ?_)
  refine ar rfl (fun h=>?_) (fun h=>?_)
  ·have h:=Lz h
   rw [if_pos h] at hstep
   repeat' (first|fail)
   refine dx [.cell (gb,6,.vec q 4 (st.1.map dp))] 21 [(0,.v),(1,.k),(2,.v),(3,.v),(4,.v),(5,.v),(6,.v),(7,.v),(8,.v),(9,.v),(10,.v),(11,.v),(12,.v),(15,.v),(13,.f),(14,.v),(16,.f),(17,.v),(18,.v),(19,.v),(20,.v)] none ?_ trivial rfl (by kernel_rfl) (by kernel_rfl) (by kernel_rfl) bX (by kernel_rfl) rfl
   refine W0a ?_
   refine dP a5 0 rfl rfl rfl (bL 1 rfl rfl c8) (by first | trivial | rfl) ?_
   refine W18 ?_
   refine GW a5 0 ?_
   refine W18 ?_
   refine GW a5 1 ?_
   refine W0a ?_
   refine f4 (bL 1 rfl rfl c8) ?_
   have hx:=cq s hs z.2.a (n:=21) (by omega)
   have hx:0≤(dr s 21 z.2).1∧(dr s 21 z.2).1 < 21:=hx
   generalize dr s 21 z.2=x at hx hstep ⊢
   try dsimp only at hstep
   refine W1U ?_
   refine f4 (bL 1 rfl rfl c8) ?_
   have hy:=cq s hs x.2.a (n:=21) (by omega)
   have hy:0≤(dr s 21 x.2).1∧(dr s 21 x.2).1 < 21:=hy
   generalize dr s 21 x.2=y at hy hstep ⊢
   try dsimp only [ret] at hstep
   refine W2i ?_
   refine LQ [0,4,5,6,79,98] KZ ?_
   repeat' (first|fail)
   refine bE a5 _ rfl rfl rfl rfl (eK (A:=[_,_])) (by simp;omega) (by simp;omega) rfl fun q'=>?_
   refine aE (aH (eK (A:=[_,_])).symm) ?_
   refine W0g ?_
   exact aC (i+1,q') rfl ⟨by rw [Lv];rfl,rfl,trivial⟩ (by dsimp only;omega) (by dsimp only;omega) (fun _ _ h=>by dsimp only;rw [hstep];dsimp only;rw [List.map_append];exact h)
  ·have h:=Ly h
   rw [if_neg h] at hstep
   dsimp only [ret] at hstep
   refine W06 ?_
   exact aC (i+1,q) rfl ⟨by rw [Lv];rfl,rfl,trivial⟩ (by dsimp only;omega) (by dsimp only;omega) (fun _ _ h=>by dsimp only;rw [hstep];exact h)
 have hil:i=5:=by have:=Ly h;omega
 subst hil
 clear hstep hal
 generalize e6:f7 s mb cl.1 5 cl.2=an
 refine bM (bC 1 rfl fun σ vs h=>cz (k:=6) (c':= .imm 4 (an.1.map dp)) h rfl fun v hv=>VR.im hv) ?_
 refine bM (bP (L':=[dA b s F an.2,(gb,.box (lL (cN n) (100+ad.1 * 50) mb o.1 (.imm 3 (ps.1.map f0)) (.imm 4 (an.1.map dp)) (.vec none 4 []) bO) 76)]++(tok kg 76 9 gl.length++[])) (List.Sublist.cons_cons _ (List.Sublist.cons_cons _ (List.sublist_append_right _ _)))) ?_
 have hpl:(o.1.1.map dL).length=o.1.1.length:=Lu ..
 refine W0w ?_
 refine aN [0,4] (α:=Nat×Option (Nat×Nat)) (fun x=>[(7,aI x.1)]) (fun x=>x.1≤R) (fun x=>[dA b s F (gE s o.1.1.length x.1 an.2).2,(gb,.box (lL (cN n) (100+ad.1 * 50) mb o.1 (.imm 3 (ps.1.map f0)) (.imm 4 (an.1.map dp)) (.vec x.2 4 ((gE s o.1.1.length x.1 an.2).1.map ev)) bO) 76)]++(tok x.2 115 4 ((gE s o.1.1.length x.1 an.2).1.map ev).length++(tok kg 76 9 gl.length++[]))) (fun x=>R - x.1) (0,none) rfl ⟨rfl,trivial⟩ (Nat.zero_le _) (fun _ _ h=>h) ?_
 rintro ⟨r,q⟩ hr
 dsimp only at hr ⊢
 have hdl:=(qQ s o.1.1.length r an.2).len
 have hdl:(gE s o.1.1.length r an.2).1.length≤11000:=Nat.le_trans hdl (Nat.le_trans (Nat.mul_le_mul (show r≤1000 by omega) (show o.1.1.length+1≤11 by omega)) (by omega))
 have hstep:gE s o.1.1.length (r+1) an.2=iw s r (gE s o.1.1.length r an.2).1 (o.1.1.length+1) (gE s o.1.1.length r an.2).2:=rfl
 try dsimp only [Lr,Lq,Lp,Li]
 refine W0o ?_
 rw [hrg]
 refine W0r ?_
 rw [hR]
 refine ar rfl (fun h=>?_) (fun h=>?_)
 ·have hrl:r < R:=by have:=Lz h;omega
  generalize gE s o.1.1.length r an.2=D at hdl hstep ⊢
  refine W0x ?_
  refine aN [0,4,7] (α:=Nat×Option (Nat×Nat)) (fun x=>[(8,aI ((x.1:Int) - 1))]) (fun x=>x.1≤o.1.1.length+1) (fun x=>[dA b s F (iw s r D.1 x.1 D.2).2,(gb,.box (lL (cN n) (100+ad.1 * 50) mb o.1 (.imm 3 (ps.1.map f0)) (.imm 4 (an.1.map dp)) (.vec x.2 4 ((iw s r D.1 x.1 D.2).1.map ev)) bO) 76)]++(tok x.2 115 4 ((iw s r D.1 x.1 D.2).1.map ev).length++(tok kg 76 9 gl.length++[]))) (fun x=>o.1.1.length+1 - x.1) (0,q) rfl ⟨rfl,trivial⟩ (Nat.zero_le _) (fun _ _ h=>h) ?_
  rintro ⟨p,q⟩ hp
  dsimp only at hp ⊢
  have hel:=xf s r D.1 D.2 p
  have hst2:iw s r D.1 (p+1) D.2=(cg (dr s 3) fun z=>if z=0 then cg (dr s 41) fun x=>if p=0 then ret ((iw s r D.1 p D.2).1++[(⟨r,-1,x - 20,0⟩:dO)]) else cg (dr s 41) fun y=>ret ((iw s r D.1 p D.2).1++[(⟨r,(p:Int) - 1,x - 20,y - 20⟩:dO)]) else ret (iw s r D.1 p D.2).1) (iw s r D.1 p D.2).2:=rfl
  try dsimp only [Lr,Lq,Lp,Li]
  refine W0d ?_
  refine ar rfl (fun h=>?_) (fun h=>?_)
  ·have hpp:p < o.1.1.length+1:=by have:=Lz h;rw [hpl] at this;omega
   generalize iw s r D.1 p D.2=E at hel hst2 ⊢
   have hElm:(E.1.map ev).length=E.1.length:=Lu ..
   refine W0v ?_
   refine cF ?_
   unfold cg at hst2
   generalize dr s 3 E.2=z at hst2 ⊢
   dsimp only at hst2
   refine W0r ?_
   refine ar rfl (fun hz=>?_) (fun hz=>?_)
   ·rw [if_pos (Lz hz)] at hst2
    refine W0k ?_
    refine cF ?_
    have hx:=cq s hs z.2.a (n:=41) (by omega)
    have hx:0≤(dr s 41 z.2).1∧(dr s 41 z.2).1 < 41:=hx
    generalize dr s 41 z.2=x at hx hst2 ⊢
    try dsimp only at hst2
    repeat' (first|refine a9 ?_|refine a4 ?_|refine a6 ?_|refine a7 ?_|refine LG a5 KZ ?_|(apply aU;refine aT ?_)|(apply aM;first|refine LH a5 0 LE ?_|refine LH a5 1 LE ?_|refine LH a5 2 LE ?_|refine LH a5 3 LE ?_|fail)|refine bf a5 fun _=>?_|fail)
    refine bM (aH (List.perm_middle (l₁:=[_,_])).symm) ?_
    refine ar rfl (fun h0=>?_) (fun h0=>?_)
    ·have h0:¬p=0:=by have:=Lz h0;omega
     rw [if_neg h0] at hst2
     refine W1f ?_
     refine cF ?_
     have hy:=cq s hs x.2.a (n:=41) (by omega)
     have hy:0≤(dr s 41 x.2).1∧(dr s 41 x.2).1 < 41:=hy
     generalize dr s 41 x.2=y at hy hst2 ⊢
     try dsimp only [ret] at hst2
     repeat' (first|refine a4 ?_|refine a6 ?_|refine a7 ?_|refine LG a5 KZ ?_|(apply bq;first|refine LJ a5 0 LC ?_|refine LJ a5 1 LC ?_|refine LJ a5 2 LC ?_|refine LJ a5 3 LC ?_|refine LK a5 0 LC ?_|refine LK a5 1 LC ?_|refine LK a5 2 LC ?_|refine LL a5 1 LA (by assumption) rfl ?_|refine LL a5 0 LA (by assumption) rfl ?_|fail)|(apply aU;refine aT ?_)|(apply aM;first|refine LH a5 0 LE ?_|refine LH a5 1 LE ?_|refine LH a5 2 LE ?_|refine LH a5 3 LE ?_|fail)|refine bQ a5 ?_|fail)
     refine bE a5 _ rfl rfl rfl rfl (eK (A:=[_,_,_])) (by simp;omega) (by simp;omega) rfl fun q'=>?_
     refine aE (aH (eK (A:=[_,_,_])).symm) ?_
     refine W0g ?_
     exact aC (p+1,q') rfl ⟨by dsimp only;rw [show ((p+1:Nat):Int) - 1=(p:Int) - 1+1 by omega];rfl,trivial⟩ (by dsimp only;omega) (by dsimp only;omega) (fun _ _ h=>by dsimp only;rw [hst2];dsimp only;rw [List.map_append];exact h.sublist (List.Sublist.cons_cons _ (List.Sublist.cons_cons _ (List.sublist_cons_self ..))))
    ·have h0:p=0:=by have:=Ly h0;omega
     rw [if_pos h0] at hst2
     try dsimp only [ret] at hst2
     repeat' (first|refine a4 ?_|refine aj ?_|refine a6 ?_|refine LG a5 KZ ?_|(apply bq;first|refine LJ a5 0 LC ?_|refine LJ a5 1 LC ?_|refine LJ a5 2 LC ?_|refine LJ a5 3 LC ?_|refine LK a5 0 LC ?_|refine LK a5 1 LC ?_|refine LK a5 2 LC ?_|refine LL a5 1 LA (by assumption) rfl ?_|refine LL a5 0 LA (by assumption) rfl ?_|fail)|refine bQ a5 ?_|fail)
     refine bE a5 _ rfl rfl rfl rfl (eK (A:=[_,_,_])) (by simp;omega) (by simp;omega) rfl fun q'=>?_
     refine aE (aH (eK (A:=[_,_,_])).symm) ?_
     refine W0g ?_
     subst h0
     exact aC (0+1,q') rfl ⟨rfl,trivial⟩ (by dsimp only;omega) (by dsimp only;omega) (fun _ _ h=>by dsimp only;rw [hst2];dsimp only;rw [List.map_append];exact h.sublist (List.Sublist.cons_cons _ (List.Sublist.cons_cons _ (List.sublist_cons_self ..))))
   ·rw [if_neg (Ly hz)] at hst2
    try dsimp only [ret] at hst2
    refine W06 ?_
    exact aC (p+1,q) rfl ⟨by dsimp only;rw [show ((p+1:Nat):Int) - 1=(p:Int) - 1+1 by omega];rfl,trivial⟩ (by dsimp only;omega) (by dsimp only;omega) (fun _ _ h=>by dsimp only;rw [hst2];exact h)
  have hpp:p=o.1.1.length+1:=by have:=Ly h;rw [hpl] at this;omega
  subst hpp
  refine W0y ?_
  exact aC (r+1,q) rfl ⟨by rw [Lv];rfl,trivial⟩ (by dsimp only;omega) (by dsimp only;omega) (fun _ _ h=>by dsimp only;rw [hstep];exact h)
 have hrl:r=R:=by have:=Ly h;omega
 subst hrl
 clear hstep hdl
 generalize e7:gE s o.1.1.length r an.2=de
 repeat' (first|refine a9 ?_|refine a4 ?_|refine aP ?_|refine a6 ?_|refine aq ?_|refine ay ?_|refine au ?_|refine a7 ?_|refine LG a5 KZ ?_|(apply aM;first|refine LH a5 0 LE ?_|refine LH a5 1 LE ?_|refine LH a5 2 LE ?_|refine LH a5 3 LE ?_|fail))
 refine bM (aH (L':=[dA b s F (il 2 de.2).2,(gb,.box (lL (cN n) (100+ad.1 * 50) mb o.1 (.imm 3 (ps.1.map f0)) (.imm 4 (an.1.map dp)) (.vec q 4 (de.1.map ev)) bO) 76)]++(tok q 115 4 (de.1.map ev).length++(tok kg 76 9 gl.length++[]))) (Lm _)) ?_
 refine bM (bC 1 rfl fun σ vs h=>cz (k:=7) (c':= .imm 4 (de.1.map ev)) h rfl fun v hv=>VR.im hv) ?_
 refine bM (bP (L':=[dA b s F (il 2 de.2).2,(gb,.box (lL (cN n) (100+ad.1 * 50) mb o.1 (.imm 3 (ps.1.map f0)) (.imm 4 (an.1.map dp)) (.imm 4 (de.1.map ev)) bO) 76)]++(tok kg 76 9 gl.length++[])) (List.Sublist.cons_cons _ (List.Sublist.cons_cons _ (List.sublist_append_right _ _)))) ?_
 generalize e8:(il 2 de.2).2=w
 refine bz 11 [(0,.v),(1,.v),(2,.v),(3,.l),(4,.v),(5,.v),(6,.v),(7,.v),(8,.v),(9,.l),(10,.v)] none ?_ trivial rfl (by kernel_rfl) (by kernel_rfl) (by kernel_rfl) bX (by kernel_rfl) rfl
 repeat' (first|refine aD ?_|refine b6 a5 ?_|refine cf a5 0 rfl rfl rfl rfl (by first|trivial|rfl) ?_|refine cf a5 1 rfl rfl rfl rfl (by first|trivial|rfl) ?_)
 rw [hfu]
 repeat' (first|refine b6 a5 ?_|fail)
 rw [hfn,hpl]
 refine LQ [0,4,143,147,153] KZ ?_
 refine G6 (sW s hs F (n:=o.1.1.length) (fn:=fn) (most:=6) (by omega) (by omega) (by omega)) ?_
 generalize e9:nE s o.1.1.length fn 6 w=hi
 unfold jR
 repeat' (first|refine a6 ?_|refine a7 ?_|refine LG a5 KZ ?_|(apply aM;first|refine LH a5 0 LE ?_|refine LH a5 1 LE ?_|refine LH a5 2 LE ?_|refine LH a5 3 LE ?_|fail))
 refine bM (aH (L':=[dA b s F hi.2,(gb,.box (lL (cN n) (100+ad.1 * 50) mb o.1 (.imm 3 (ps.1.map f0)) (.imm 4 (an.1.map dp)) (.imm 4 (de.1.map ev)) (.imm 2 (hi.1.map fj))) 76)]++(tok kg 76 9 gl.length++[])) (Lm _)) ?_
 refine bz 9 [(0,.v),(1,.v),(2,.v),(3,.v),(4,.v),(5,.l),(6,.l),(7,.v),(8,.e)] none ?_ trivial rfl (by kernel_rfl) (by kernel_rfl) (by kernel_rfl) bX (by kernel_rfl) rfl
 repeat' (first|refine aD ?_|refine b6 a5 ?_|refine ei a5 ?_|refine cf a5 0 rfl rfl rfl rfl (by first|trivial|rfl) ?_|refine nl a5 1 rfl rfl rfl rfl (by first|trivial|rfl) ?_)
 rw [hF]
 refine eS a5 _ rfl rfl rfl rfl (eK (A:=[_,_])) (by simp;omega) (by simp;omega) (by first | trivial | rfl) fun q'=>?_
 refine LQ [156,164] KZ ?_
 refine aE (aH (eK (A:=[_,_])).symm) ?_
 refine W0M ?_
 have hv:kR s r fn n m=(⟨cN n,100+ad.1 * 50,mb,o.1.1,o.1.2,ps.1,an.1,de.1,hi.1⟩,hi.2):=by
  unfold kR cg
  rw [e1]
  try dsimp only
  rw [e2]
  try dsimp only
  rw [e3]
  try dsimp only
  rw [e4]
  try dsimp only
  rw [e5,hmk]
  try dsimp only
  rw [e6]
  try dsimp only
  rw [e7]
  try dsimp only
  rw [e8,e9]
  rfl
 rw [hv]
 exact bc (bP (L':=[dA b s (ER F (.vec q' 9 (gl++[bI ⟨cN n,100+ad.1 * 50,mb,o.1.1,o.1.2,ps.1,an.1,de.1,hi.1⟩]))) hi.2]++(tok q' 76 9 (gl++[bI ⟨cN n,100+ad.1 * 50,mb,o.1.1,o.1.2,ps.1,an.1,de.1,hi.1⟩]).length++[])) (List.Sublist.cons_cons _ (List.sublist_cons_self ..))) (cJ rfl ⟨q',rfl⟩)
end Go.Proofs.YtpmdfoaadejmkaaGreatDoor
namespace Go.Proofs.YtpmdfoaadejmkaaGreatDoor
open Go.RowKit
attribute [local irreducible] AT br AX AO Av Kt b7 dm DA cA
variable (s:List Int) (hs:s.length≤1000000)
theorem Eb {a c:Nat×AB} {T:AL}:([a,c]++T).Perm (([a]++(T++[]))++[c]):=by
 rw [List.append_nil]
 exact List.Perm.cons a (List.perm_append_comm (l₁:=[c]))
theorem Jl {A T:AL} {c:Nat×AB}:((A++T)++[c]).Perm ((A++[c])++T):=by
 rw [List.append_assoc,List.append_assoc]
 exact List.Perm.append_left _ List.perm_append_comm
theorem Bu:c5 Tryz.prog 92 [] (.imm 1 (aQ ge)):=by
 refine aS Tryz.func92 rfl Tryz.ntmps92 rfl fun B=>?_
 refine W22 ?_
 exact LN LA
theorem w1:c5 Tryz.prog 94 [] (.imm 1 (EB gc)):=by
 refine aS Tryz.func94 rfl Tryz.ntmps94 rfl fun B=>?_
 refine W22 ?_
 exact LN LA
theorem sD (k:Nat) (m:MS):(ly s k m).1.length=k:=by
 exact (bU.runs (fun i (l:List eR)=>l.length=i) k rfl fun i l _ h=>(bU.any _).bnd fun a _=>(bU.any _).bnd fun b _=>bU.ret (by simp [h])) m
theorem yb (k:Nat) (m:MS):(iB s k m).1.length=k:=by
 exact (bU.runs (fun i (l:List fq)=>l.length=i) k rfl fun i l _ h=>(bU.any _).bnd fun a _=>bU.ret (by simp [h])) m
theorem tc (x k:Nat) (m:MS):(lh s x k m).1.length=k:=by
 exact (bU.runs (fun i (l:List (List fq))=>l.length=i) k rfl fun i l _ h=>(bU.any _).bnd fun a _=>bU.ret (by simp [h])) m
theorem xm (k:Nat) (m:MS):(j4 s k m).1.length=k:=by
 exact (bU.runs (fun i (l:List (List gx))=>l.length=i) k rfl fun i l _ h=>(bU.any _).bnd fun a _=>(bU.any _).bnd fun b _=>bU.ret (by simp [h])) m
theorem CP (k:Nat) (m:MS):(qN s k m).1.length=k:=by
 exact (bU.runs (fun i (l:List Int)=>l.length=i) k rfl fun i l _ h=>(bU.any _).bnd fun a _=>bU.ret (by simp [h])) m
theorem vJ (R fn k:Nat) (m:MS):(gF s R fn k m).1.length=k:=by
 exact (bU.runs (fun i (l:List bi)=>l.length=i) k rfl fun i l _ h=>(bU.any _).bnd fun a _=>bU.ret (by simp [h])) m
theorem x7 (n:Int) (k:Nat) (m:MS):(iv s n k m).1.length≤k:=by
 exact (bU.runs (fun i (l:List gB)=>l.length≤i) k (Nat.le_refl _) fun i l _ h=>(bU.any _).bnd fun a _=>bU.ite (fun _=>(bU.any _).bnd fun b _=>bU.ret (by simp;omega)) fun _=>bU.ret (by omega)) m
theorem Cv (k:Nat) (m:MS):(oy s k m).1.length≤k:=by
 exact (bU.runs (fun i (l:List Int)=>l.length≤i) k (Nat.le_refl _) fun i l _ h=>(bU.any _).bnd fun a _=>bU.ret (by
  split
  ·simp;omega
  ·omega)) m
theorem xh (n k:Nat) (m:MS):(ix s n k m).1.length≤k:=by
 exact (bU.runs (fun i (l:List c9)=>l.length≤i) k (Nat.le_refl _) fun i l _ h=>(bU.any _).bnd fun a _=>(bU.any _).bnd fun b _=>bU.ret (by
  split
  ·simp;omega
  ·omega)) m
abbrev tB (tb:Nat):Nat×AB:=(tb,.box [aI 0,bO,bO,bO,bO,bO,bO,bO,bO] 32)
include hs
end Go.Proofs.YtpmdfoaadejmkaaGreatDoor
