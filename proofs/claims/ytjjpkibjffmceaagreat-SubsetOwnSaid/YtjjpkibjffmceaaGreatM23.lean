/-
  The program: Glyphs.
-/
import Derived.Test.YtjjpkibjffmceaaGreatM22
import Derived.Test.YtjjpkibjffmceaaGreatM14
import Derived.Test.YtjjpkibjffmceaaGreatM07
import Derived.Test.YtjjpkibjffmceaaGreatM05
import Derived.Test.YtjjpkibjffmceaaGreatM06
import Derived.Test.YtjjpkibjffmceaaGreatM21
namespace Go.Proofs.YtjjpkibjffmceaaGreat
open Go.RowKit
attribute [local irreducible] AT bW AX AO Av Kt bA eI DA dl
open Go.MapKept
theorem qz:∀{S T:List Int},S.Nodup→(∀z∈S,z∈T)→S.length≤T.length
 | [],_,_,_=>Nat.zero_le _
 | z::S,T,h,hs=>by
  have hz:=hs z (List.mem_cons_self ..)
  rw [List.nodup_cons] at h
  have h1:=qz (S:=S) (T:=T.erase z) h.2 fun y hy=>(List.mem_erase_of_ne (fun e=>h.1 (by rw [←e];exact hy))).2 (hs y (Is _ hy))
  have h2:=List.length_erase_of_mem hz
  have h3:=List.length_pos_of_mem hz
  rw [List.length_cons]
  omega
theorem ow {f:aL} {S:List Int} {hs:List jn} (hS:ci f.Glyphs.length S):∀z∈S,z∈ej f S hs:=by
 intro z hz
 have:=hS.dom z hz
 refine gy.2 (Or.inr ⟨List.mem_append.2 (Or.inl (List.mem_flatMap.2 ⟨z,hz,List.mem_cons_self ..⟩)),this.1,this.2⟩)
def ga (f:aL):Nat→List Int→List jn→List Int
 | 0,S,_=>S
 | k+1,S,hs=>if (ej f S hs).length=S.length then S else ga f k (ej f S hs) (hs.map (adv f S))
def CR (rs:List Int) (cs:List eN):List Int:=(cs.filter fun c=>decide (c.Rune∈rs)).map eN.Glyph
def dg (f:aL) (rs:List Int):List Int:=di f.Glyphs.length [] (0::CR rs f.Chars)
noncomputable def nd (f:aL) (rs:List Int) (fs:List ByteArray):List Int:=ga f (f.Glyphs.length+1) (dg f rs) (eZ f (di f.Lookups.length [] (cW f fs)))
def nU (z:Int):Bool:=decide (z < 0∨z > 1114111)
def GB:AV:= .sc (.slice none 0 0)
noncomputable def n5 (f:aL) (rs:List Int) (fs:List ByteArray):AV:=if (lL f).1=0 then (if rs.any nU=true then .tup [GB,aP 80] else .tup [.imm 1 (aZ (dW (nd f rs fs))),aP 0]) else .tup [GB,aP 1]
def jR (rs:List Int) (fs:List ByteArray):AV:= .agg [.imm 1 (aZ rs),.imm 1 (gg fs)]
theorem rA (rs:List Int) {cs:List eN} {i:Nat} {c:eN} (h:cs[i]?=some c):CR rs (cs.take (i+1))=CR rs (cs.take i)++if decide (c.Rune∈rs)=true then [c.Glyph] else []:=by
 unfold CR
 rw [List.take_add_one,h,Option.toList_some,List.filter_append,List.map_append]
 congr 1
 by_cases e:c.Rune∈rs <;> simp [e]
theorem nK.adv {f:aL} {S:List Int} {hs:List jn} (h:nK hs):nK (hs.map (adv f S)):=by
 intro x hx
 obtain ⟨y,hy,rfl⟩:=List.mem_map.1 hx
 exact h y hy
structure GS where
 k:Nat
 p:Nat
 b:Nat
 ka:Option (Nat×Nat)
 S:List Int
 hq:HQ
def Gp (f:aL) (T:List Int) (x:GS):Prop:=f.Glyphs.length < x.S.length+x.k∧ci f.Glyphs.length x.S∧nK (x.hq.map (·.2))∧x.hq.length≤100000000∧ga f x.k x.S (x.hq.map (·.2))=T
def FW (p b n:Nat) (k:Option (Nat×Nat)) (S:List Int):Nat×AB:=(p,.box [.sc (.slice (some ⟨b,0,none⟩) n n),.vec k 1 (aZ S)] 131)
def H1 (b n:Nat) (k:Option (Nat×Nat)) (S:List Int):AL:=(b,.box (gL S n) 4)::tok k 124 1 (aZ S).length
theorem uY {p b n:Nat} {k:Option (Nat×Nat)} {S:List Int}:bJ p b n k S=FW p b n k S::H1 b n k S:=rfl
theorem uM {f:aL} {gp:Nat} {kg:Option (Nat×Nat)} {hq:HQ} {p b p' b' n:Nat} {k k':Option (Nat×Nat)} {S S':List Int}:(fZ f gp kg hq (bJ p b n k S++bJ p' b' n k' S')).Perm (FW p' b' n k' S'::FW p b n k S::(H1 b' n k' S'++(H1 b n k S++fZ f gp kg hq []))):=by
 have h1:=uo (f:=f) (gp:=gp) (k:=kg) (hq:=hq) (A:=[]) (X:=bJ p b n k S) (M:=bJ p' b' n k' S')
 have h2:=uo (f:=f) (gp:=gp) (k:=kg) (hq:=hq) (A:=[]) (X:=bJ p' b' n k' S') (M:=[])
 simp only [Iq,List.append_nil] at h1 h2
 refine h1.trans ((List.Perm.append_left _ h2).trans ((List.perm_append_comm_assoc _ _ _).trans ?_))
 rw [uY,uY]
 refine List.Perm.cons _ ?_
 rw [Ir]
 exact List.perm_middle
set_option maxHeartbeats 4000000 in
theorem vn (f:aL) (hs:ev f) (hR:bV Tryz.prog 41 [cr f] (cx (decide ((lL f).1=0)))) (rs:List Int) (fs:List ByteArray):bV Tryz.prog 12 [cr f,jR rs fs] (n5 f rs fs):=by
 refine aS Tryz.func12 rfl Tryz.ntmps12 rfl fun B=>?_
 have hGl:=hs.glyphs
 unfold jR
 repeat' (first|refine go ?_|refine HK a6 FS ?_|refine bh ?_|fail)
 refine bg (hc:=⟨hR⟩) ?_
 repeat' (first|refine go ?_|refine HK a6 FS ?_)
 unfold n5
 refine ay rfl (fun h=>?_) (fun h=>?_)
 ·have h:¬(lL f).1=0:=by simpa using h
  rw [if_neg h]
  repeat' (first|refine go ?_|refine HK a6 FS ?_)
  exact be rfl rfl rfl rfl
 have h:(lL f).1=0:=by simpa using h
 rw [if_pos h]
 clear h
 repeat' (first|refine go ?_|fail)
 refine eQ KJ fun m=>?_
 rw [mt]
 repeat' (first|refine go ?_|refine ak ?_|refine HK a6 FS ?_)
 refine cH 19 rfl rfl fun hlen=>?_
 rw [aQ] at hlen
 refine aJ [2,3,6,19,20] (α:=Nat) (fun i=>[(21,aP i)]) (fun i=>i≤rs.length∧(rs.take i).any nU=false) (fun i=>[(m,cj KJ (dU (rs.take i)))]) (fun i=>rs.length - i) 0 rfl ⟨rfl,trivial⟩ ⟨Nat.zero_le _,rfl⟩ (fun _ _ h=>h) ?_
 rintro i ⟨hi,ha⟩
 try dsimp only [Ir,Iq,Ip,Ij]
 repeat' (first|refine go ?_|refine HK a6 FS ?_)
 refine ay rfl (fun h=>?_) (fun h=>?_)
 ·have hil:i < rs.length:=by have:=Iy h;simp [aQ] at this;omega
  obtain ⟨z,hz⟩:∃z,rs[i]?=some z:=⟨_,Iz hil⟩
  have hzg:=bT hz
  repeat' (first|refine go ?_|refine ak ?_|refine HK a6 FS ?_|(apply aU;first|refine aT a6 ?_|refine aM a6 ?_)|fail)
  refine du (t:=30) [2,3,6,8,19,20,21] (z < 0∨z > 1114111) rfl (fun Q' K=>?_) ?_
  ·repeat' (first|refine go ?_|refine HK a6 FS ?_|refine HV FS ?_|refine HW HF ?_|refine bk rfl rfl rfl (fun _=>?_) (fun _=>?_))
   all_goals exact K _ _ rfl rfl (by clear K;simp_all <;> omega)
  repeat' (first|refine go ?_|fail)
  refine ay rfl (fun h2=>?_) (fun h2=>?_)
  ·have:rs.any nU=true:=List.any_eq_true.2 ⟨z,Iw hz,h2⟩
   rw [if_pos this]
   repeat' (first|refine go ?_|refine HK a6 FS ?_)
   exact be rfl rfl rfl rfl
  repeat' (first|refine go ?_|refine HK a6 FS ?_)
  refine dB 0 (dU (rs.take (i+1))) Tryz.underlying120 Tryz.underlying3 rfl rfl rfl rfl rfl (mr hz) (lj hz) ?_
  repeat' (first|refine go ?_|refine HK a6 FS ?_|(apply aW;refine aV ?_)|fail)
  refine aB (i+1) rfl ⟨by rw [Iv];rfl,trivial⟩ ⟨by omega,?_⟩ (by omega) (fun _ _ h=>h)
  rw [List.take_add_one,hz,List.any_append,ha]
  have:nU z=false:=h2
  simp [this]
 have hil:i=rs.length:=by have:=Ix h;simp [aQ] at this;omega
 subst hil
 rw [List.take_length] at ha
 rw [List.take_length,if_neg (by rw [ha];exact fun e=>by cases e)]
 clear h hi ha hlen
 repeat' (first|refine go ?_|refine HK a6 FS ?_|refine bG a6 ?_|fail)
 refine ba [] _ (uZ f hs [0]) rfl rfl (Im _) rfl fun c L1 ⟨p,b,ka,hc,hL⟩=>?_
 subst hc;subst hL
 refine aO (aK List.perm_append_comm) ?_
 repeat' (first|refine go ?_|refine ak ?_|refine HK a6 FS ?_)
 refine cH 38 rfl rfl fun hcl=>?_
 rw [It] at hcl
 refine aJ [2,3,6,9,38,39] (α:=Nat×Option (Nat×Nat)) (fun x=>[(40,aP x.1)]) (fun x=>x.1≤f.Chars.length) (fun x=>[(m,cj KJ (dU rs))]++bJ p b f.Glyphs.length x.2 (dg { f with Chars:=f.Chars.take x.1 } rs)) (fun x=>f.Chars.length - x.1) (0,ka) rfl ⟨rfl,trivial⟩ (Nat.zero_le _) (fun _ _ h=>h) ?_
 rintro ⟨i,k⟩ hi
 dsimp only at hi ⊢
 have hok:ci f.Glyphs.length (dg { f with Chars:=f.Chars.take i } rs):=ci.nil.add _
 try dsimp only [Ir,Iq,Ip,Ij]
 repeat' (first|refine go ?_|refine HK a6 FS ?_)
 refine ay rfl (fun h=>?_) (fun h=>?_)
 ·have hil:i < f.Chars.length:=by have:=Iy h;simp at this;omega
  obtain ⟨t,ht⟩:∃z,f.Chars[i]?=some z:=⟨_,Iz hil⟩
  have htg:=bi (c:=cy) ht
  have had:=rA rs ht
  repeat' (first|refine go ?_|refine ak ?_|refine HK a6 FS ?_|(apply aU;first|refine aT a6 ?_|refine aM a6 ?_)|(apply aG;first|refine HN 11 a6 0 HJ ?_|refine HN 11 a6 1 HJ ?_|refine HN 11 a6 2 HJ ?_|refine HM a6 0 HH ?_|refine HM a6 1 HH ?_|refine HM a6 2 HH ?_|refine HM a6 3 HH ?_|fail)|refine aX a6 fun _=>?_|fail)
  refine qu 0 (.bool false) Tryz.underlying120 Tryz.underlying3 rfl rfl rfl rfl (by kernel_rfl) rfl ?_
  have hM:((dU rs (.int .i64 t.Rune)).getD (.sc (.bool false)))=cx (decide (t.Rune∈rs)):=by
   unfold dU
   simp only
   by_cases e:t.Rune∈rs <;> simp [e]
  rw [hM]
  repeat' (first|refine go ?_|fail)
  refine ay rfl (fun h2=>?_) (fun h2=>?_)
  ·rw [if_pos h2] at had
   repeat' (first|refine go ?_|refine HK a6 FS ?_|refine bG a6 ?_|fail)
   refine ba (bJ p b f.Glyphs.length k (dg { f with Chars:=f.Chars.take i } rs)) [(m,cj KJ (dU rs))] (lJ p b f.Glyphs.length k _ [t.Glyph] (by omega) hok) rfl rfl (List.perm_append_comm (l₁:=[(m,cj KJ (dU rs))])) rfl fun c L1 ⟨k',hL1⟩=>?_
   subst hL1
   have hst:di f.Glyphs.length (dg { f with Chars:=f.Chars.take i } rs) [t.Glyph]=dg { f with Chars:=f.Chars.take (i+1) } rs:=by
    unfold dg
    dsimp only
    rw [had,f7,Ir]
   rw [hst]
   refine aO (aK List.perm_append_comm) ?_
   repeat' (first|refine go ?_|refine HK a6 FS ?_|(apply aW;refine aV ?_)|fail)
   exact aB (i+1,k') rfl ⟨by rw [Iv];rfl,trivial⟩ (by dsimp only;omega) (by dsimp only;omega) (fun _ _ h=>h)
  ·rw [h2] at had
   simp only [Bool.false_eq_true,if_false,List.append_nil] at had
   have hst:dg { f with Chars:=f.Chars.take (i+1) } rs=dg { f with Chars:=f.Chars.take i } rs:=by
    unfold dg
    dsimp only
    rw [had]
   repeat' (first|refine go ?_|refine HK a6 FS ?_|(apply aW;refine aV ?_)|fail)
   exact aB (i+1,k) rfl ⟨by rw [Iv];rfl,trivial⟩ (by dsimp only;omega) (by dsimp only;omega) (fun _ _ h=>by dsimp only;rw [hst];exact h)
 have hil:i=f.Chars.length:=by have:=Ix h;simp at this;omega
 subst hil
 rw [List.take_length] at hok ⊢
 clear h hi
 refine bH (ck (List.sublist_cons_self ..)) ?_
 haveI:AD Tryz.prog 13 [cr f,.imm 1 (gg fs)] (.imm 1 (aZ (cW f fs))):=⟨iG f fs hs⟩
 repeat' (first|refine go ?_|fail)
 refine bn 5 [(0,.v),(1,.v),(2,.v),(3,.v),(4,.v)] none ?_ trivial rfl (by kernel_rfl) (by kernel_rfl) (by kernel_rfl) mixed (by kernel_rfl) rfl
 repeat' (first|refine aC ?_|refine b7 a6 ?_|(apply bE;refine bS ?_)|fail)
 refine HU [9,54,58] FS ?_
 repeat' (first|fail)
 refine ba [] (bJ p b f.Glyphs.length k (dg f rs)) (nj f hs (cW f fs)) rfl rfl (Im _) rfl fun c L1 ⟨gp,kg,hq,hc,hL,hh⟩=>?_
 subst hc;subst hL
 have hok:ci f.Glyphs.length (dg f rs):=hok
 have hg0:fZ f gp kg hq []++bJ p b f.Glyphs.length k (dg f rs)=fZ f gp kg hq (bJ p b f.Glyphs.length k (dg f rs)):=by unfold fZ;simp
 rw [hg0]
 repeat' (first|refine ak ?_|refine go ?_|refine HK a6 FS ?_)
 refine aJ [12] (α:=GS) (fun x=>[(9,g9 x.p)]) (Gp f (nd f rs fs)) (fun x=>fZ f gp kg x.hq (bJ x.p x.b f.Glyphs.length x.ka x.S)) (fun x=>x.k) ⟨f.Glyphs.length+1,p,b,k,dg f rs,hq⟩ rfl ⟨rfl,trivial⟩ ⟨by dsimp only;omega,hok,by dsimp only;rw [hh];exact x8 hs _,Bd hs hh,by dsimp only;rw [hh];rfl⟩ (fun _ _ h=>h) ?_
 clear hh hg0 hok
 rintro ⟨r,p,b,ka,S,hq⟩ ⟨h1,hS,h3,h4,h5⟩
 dsimp only at h1 hS h3 h4 h5 ⊢
 have tx:=hS.len
 obtain ⟨r,rfl⟩:∃r',r=r'+1:=⟨r - 1,by omega⟩
 have hS':=nD f S (hq.map (·.2))
 have hS'l:=hS'.len
 try dsimp only [Ir,Iq,Ip,Ij]
 repeat' (first|refine go ?_|refine ak ?_|refine HK a6 FS ?_)
 refine ba (fZ f gp kg hq (bJ p b f.Glyphs.length ka S)) [] (xy f hs gp p b kg ka hq S hS h3 h4) rfl rfl (by rw [List.append_nil]) rfl fun c L1 ⟨np,nb,kn,hq',hc,hL,h6,h7⟩=>?_
 subst hc;subst hL
 rw [List.append_nil]
 refine aO (aK uM) ?_
 unfold FW
 repeat' (first|refine go ?_|refine HK a6 FS ?_)
 refine bn 10 [(0,.v),(1,.v),(2,.v),(3,.l),(4,.v),(5,.v),(6,.v),(7,.v),(8,.l),(9,.v)] none ?_ trivial rfl (by kernel_rfl) (by kernel_rfl) (by kernel_rfl) mixed (by kernel_rfl) rfl
 repeat' (first|refine aC ?_|refine b7 a6 ?_|refine dt a6 0 rfl rfl rfl rfl (by first|trivial|rfl) ?_|refine dt a6 1 rfl rfl rfl rfl (by first|trivial|rfl) ?_)
 refine HU [9,12,13,67,72] FS ?_
 repeat' (first|refine go ?_|refine aa ?_|refine HK a6 FS ?_)
 refine bH (aK (L':=fZ f gp kg hq' (bJ p b f.Glyphs.length ka S++bJ np nb f.Glyphs.length kn (ej f S (hq.map (·.2))))) uM.symm) ?_
 refine ay rfl (fun h2=>?_) (fun h2=>?_)
 ·have he:(ej f S (hq.map (·.2))).length=S.length:=by
   simp [aQ] at h2
   exact Int.ofNat.inj h2
  rw [ga,if_pos he] at h5
  repeat' (first|refine go ?_|refine HK a6 FS ?_)
  refine ba (bJ p b f.Glyphs.length ka S) (fZ f gp kg hq' (bJ np nb f.Glyphs.length kn (ej f S (hq.map (·.2))))) (C2 p b f.Glyphs.length ka S (by omega)) rfl rfl (by simpa using uo (f:=f) (gp:=gp) (k:=kg) (hq:=hq') (A:=[]) (X:=bJ p b f.Glyphs.length ka S) (M:=bJ np nb f.Glyphs.length kn (ej f S (hq.map (·.2))))) rfl fun c L1 ⟨hc,hL⟩=>?_
  subst hc;subst hL
  rw [h5]
  repeat' (first|refine go ?_|refine HK a6 FS ?_)
  exact be rfl rfl rfl rfl
 ·have he:¬(ej f S (hq.map (·.2))).length=S.length:=by
   simp [aQ] at h2
   exact fun e=>h2 (congrArg Int.ofNat e)
  rw [ga,if_neg he] at h5
  have hle:=qz hS.nodup (ow (hs:=hq.map (·.2)) hS)
  repeat' (first|refine go ?_|refine HK a6 FS ?_)
  refine aB ⟨r,np,nb,kn,ej f S (hq.map (·.2)),hq'⟩ rfl ⟨rfl,trivial⟩ ⟨by dsimp only;omega,hS',?_,?_,?_⟩ (by dsimp only;omega) (fun _ _ hw=>?_)
  ·dsimp only
   rw [h7]
   exact h3.adv
  ·dsimp only
   have:=congrArg List.length h6
   simp only [It] at this
   omega
  ·dsimp only
   rw [h7]
   exact h5
  ·dsimp only
   refine hw.sublist ?_
   unfold fZ
   exact ((((List.sublist_append_right _ _).append_left _).append_left _).cons_cons _)
theorem rp (f:aL) (hs:ev f) (hA:(cE 400 f.Glyphs (eE f)).1=0→kG f.Glyphs.length (prt f)) (rs:List Int) (fs:List ByteArray):bV Tryz.prog 12 [cr f,jR rs fs] (n5 f rs fs):=vn f hs (uT f hA) rs fs
end Go.Proofs.YtjjpkibjffmceaaGreat
namespace Go.Proofs.YtjjpkibjffmceaaGreat
open Go.RowKit
attribute [local irreducible] AT bW AX AO Av Kt bA eI DA dl
def dH (a b:AV):Prop:=∀σ v,VR σ a v→VR σ b v
def nN:List AV→List AV→Prop
 | [],[]=>True
 | a::r,b::q=>dH a b∧nN r q
 | _,_=>False
def EQ:List (List AV)→List (List AV)→Prop
 | [],[]=>True
 | a::r,b::q=>nN a b∧EQ r q
 | _,_=>False
theorem dH.refl (a:AV):dH a a:=fun _ _ h=>h
theorem dH.nil (n:Nat):dH (.sc (.slice none 0 0)) (.imm n []):=fun _ _ h=>fX n h
theorem nN.len:∀{a b:List AV},nN a b→a.length=b.length
 | [],[],_=>rfl
 | _::_,_::_,h=>by simp [h.2.len]
theorem nN.at:∀{a b:List AV},nN a b→∀(i:Nat) c c',a[i]?=some c→b[i]?=some c'→dH c c'
 | x::a,y::b,h,0,c,c',h1,h2=>by
  simp at h1 h2
  subst h1;subst h2
  exact h.1
 | _::a,_::b,h,i+1,c,c',h1,h2=>h.2.at i c c' (by simpa using h1) (by simpa using h2)
theorem nN.vrs {a b:List AV} (h:nN a b) {σ:ce} {vs:List Value} (hv:dx σ a vs):dx σ b vs:=xB h.len (fun i c c' h1 h2=>h.at i c c' h1 h2 σ) hv
theorem EQ.len:∀{a b:List (List AV)},EQ a b→a.length=b.length
 | [],[],_=>rfl
 | _::_,_::_,h=>by simp [h.2.len]
theorem EQ.at:∀{a b:List (List AV)},EQ a b→∀(i:Nat) c c',a[i]?=some c→b[i]?=some c'→nN c c'
 | x::a,y::b,h,0,c,c',h1,h2=>by
  simp at h1 h2
  subst h1;subst h2
  exact h.1
 | _::a,_::b,h,i+1,c,c',h1,h2=>h.2.at i c c' (by simpa using h1) (by simpa using h2)
theorem dH.agg {a b:List AV} (h:nN a b):dH (.agg a) (.agg b):=fun σ v hv=>by
 cases hv with
 | agg _ vs hl hx h1=>exact .agg _ _ (h.len▸hl) (fun i c u hc hu=>(h.vrs (σ:=σ) ⟨hl,hx⟩).2 i c u hc hu) h1
theorem dH.imm {s:Nat} {a b:List (List AV)} (h:EQ a b):dH (.imm s a) (.imm s b):=fun σ v hv=>by
 cases hv with
 | imm _ _ A cap hc hm hs ha hx hh=>
  have hl:=h.len
  rw [hl]
  have get:∀{i:Nat} {e:List AV},b[i]?=some e→∃e',a[i]?=some e'∧nN e' e:=fun {i e} he=>by
   have hi:i < a.length:=by rw [hl];exact (Io he).1
   exact ⟨_,Iz hi,h.at i _ _ (Iz hi) he⟩
  refine .imm s b A cap (hl▸hc) hm (fun e he=>?_) (fun hb=>ha fun e=>hb (List.eq_nil_of_length_eq_zero (by rw [←hl,e];rfl))) (fun i b' off j hA hi hj=>hx i b' off j hA (hl▸hi) hj) fun i e b' off j c u he hA hj hu=>?_
  ·obtain ⟨i,hi⟩:=List.mem_iff_getElem?.1 he
   obtain ⟨e',h1,h2⟩:=get hi
   rw [←h2.len]
   exact hs _ (Iw h1)
  ·obtain ⟨e',h1,h2⟩:=get he
   have hj':j < e'.length:=by rw [h2.len];exact (Io hj).1
   exact h2.at j _ c (Iz hj') hj σ u (hh i e' b' off j _ u h1 hA (Iz hj') hu)
theorem dH.trans {a b c:AV} (h:dH a b) (k:dH b c):dH a c:=fun σ v hv=>k σ v (h σ v hv)
theorem AC.args {P:Program} {f:FuncId} {a b:List AV} {L:AL} {Post:AV→AL→Prop} (h:AC P f b L Post) (k:nN a b):AC P f a L Post:=fun σ w vs hv hs=>h σ w vs (k.vrs hv) hs
section
variable {P:Program} {nt:Nat} {fr:cu} {B:Bs} {L:AL}
theorem tk {fn:Func} {t:Tmp} {e:TypeId} {b k:Nat} {cs:List Value} {tmps:Array Value} {w:World} [Ek P e k] (h:fn.results=#[.cell t e]) (ht:tmps.getD t undef= .pointer (some ⟨b,0,none⟩)) (hl:cs.length=k) (hc:∀j v,cs[j]?=some v→w.cell? ⟨b,0+j,none⟩=some v):
  (results fn tmps).run P w= .ok (.agg cs.toArray) w:=by
 rw [Array.getD_eq_getD_getElem?] at ht
 simp [results,h,ht,asAddr,fK hl hc]
end
end Go.Proofs.YtjjpkibjffmceaaGreat
namespace Go.Proofs.YtjjpkibjffmceaaGreat
open Go.RowKit
attribute [local irreducible] AT bW AX AO Av Kt bA eI DA dl
def Bj (name:ByteArray) (mark:Bool) (parts:List cP):br:=⟨name,0,mark,[],[],parts,[],[],[]⟩
def sT:aL:=⟨1000,[Bj ⟨#[46,110,111,116,100,101,102]⟩ false [],Bj ⟨#[97]⟩ false [],Bj ⟨#[98]⟩ false [],Bj ⟨#[99]⟩ false [⟨1,0,0⟩],Bj ⟨#[109]⟩ true []],[⟨1,1⟩,⟨2,2⟩,⟨3,3⟩],
 [⟨3,false,[⟨[],[[1],[2]],[],[3],[],0⟩]⟩,⟨4,false,[⟨[],[[1]],[],[],[⟨0,0⟩],0⟩]⟩],[⟨⟨#[108,105,103,97]⟩,[0]⟩,⟨⟨#[99,97,108,116]⟩,[1]⟩],[],[],[],[]⟩
section
variable {P:Program} {tt:TT} {nt:Nat} {fr:cu} {B:Bs} {L L':AL}
theorem jb (ok:fp P tt) (i:Nat) (L':AL) {fn:Func} {Post:AV→AL→Prop} {t:Tmp} {e e':TypeId} {b k:Nat} {cs:List AV} (hr:fn.results=#[.cell t e]) (hk:FU tt e=some k) (hv:cw fr t=some (.sc (.pointer (some ⟨b,0,none⟩)))) (hL:L[i]?=some (b,.box cs e')) (hl:Nat.beq cs.length k=true) (hs:L'.Sublist L) (h:Post (.agg cs) L'):
  AX P .ret (bodyPost P fn (j8 B Post)) nt [] fr B L:=by
 unfold AX
 intro σ a w ha hw
 haveI:=ct ok hk
 obtain ⟨vs,hb,hs',h1⟩:=hw.boxCell hL
 have hl:=Nat.eq_of_beq_eq_true hl
 refine ⟨ha.defers,_,tk (cs:=vs) hr (ha.look t _ hv).sc_inv (hs'.1.symm.trans hl) (fun j v hj=>by rw [ep hb,Nat.zero_add];simpa using hj),_,σ,_,L',rfl,.agg cs vs hs'.1 hs'.2 h1,hw.sublist hs,h⟩
theorem dH.im {k:Option (Nat×Nat)} {sz:Nat} {l:List (List AV)}:dH (.vec k sz l) (.imm sz l):=fun _ _ h=>VR.im h
theorem dH.vecN (n:Nat):dH (.sc (.slice none 0 0)) (.vec none n []):=fun _ _ h=>cq n h
end
section
variable {P:Program} {r:Option Nat} {Q:Exit→Act→World→Prop} {nt:Nat} {D:List Deferred} {fr fr1:cu} {B:Bs} {L:AL}
theorem sy {A C:Code} (ks:List Nat) (L1:AL) (hk:i6 fr ks=some fr1) (hA:∀Q',(∀fr',i6 fr' ks=some fr1→AX P .normal Q' nt D fr' B L1)→AT P r A Q' nt D fr B L) (hB:AT P r C Q nt D fr1 B L1):AT P r A (Kt P r C Q) nt D fr B L:=
 hA _ fun _ h=>a8 (CS ks h hB)
end
theorem fi {A T R:AL}:(A++(T++R)).Perm (T++(A++R)):=List.perm_append_comm_assoc ..
theorem GG {A T1 T R:AL}:(A++(T1++(T++R))).Perm (T++(A++(T1++R))):=by
 have:=fi (A:=A++T1) (T:=T) (R:=R)
 simpa [List.append_assoc] using this
end Go.Proofs.YtjjpkibjffmceaaGreat
