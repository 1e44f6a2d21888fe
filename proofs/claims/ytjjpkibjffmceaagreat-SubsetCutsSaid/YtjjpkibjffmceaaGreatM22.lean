/-
  The program: Glyphs.
-/
import Derived.Test.YtjjpkibjffmceaaGreatM21
import Derived.Test.YtjjpkibjffmceaaGreatM13
import Derived.Test.YtjjpkibjffmceaaGreatM06
import Derived.Test.YtjjpkibjffmceaaGreatM05
import Derived.Test.YtjjpkibjffmceaaGreatM20
namespace Go.Proofs.YtjjpkibjffmceaaGreat
open Go.RowKit
attribute [local irreducible] AT cg AX AO Av Kt bJ eC DA du
open Go.MapKept
theorem sK:∀{S T:List Int},S.Nodup→(∀z∈S,z∈T)→S.length≤T.length
 | [],_,_,_=>Nat.zero_le _
 | z::S,T,h,hs=>by
  have hz:=hs z (List.mem_cons_self ..)
  rw [List.nodup_cons] at h
  have h1:=sK (S:=S) (T:=T.erase z) h.2 fun y hy=>(List.mem_erase_of_ne (fun e=>h.1 (by rw [←e];exact hy))).2 (hs y (Js _ hy))
  have h2:=List.length_erase_of_mem hz
  have h3:=List.length_pos_of_mem hz
  rw [List.length_cons]
  omega
theorem rQ {f:aL} {S:List Int} {hs:List jq} (hS:cJ f.Glyphs.length S):∀z∈S,z∈eZ f S hs:=by
 intro z hz
 have:=hS.dom z hz
 refine gD.2 (Or.inr ⟨List.mem_append.2 (Or.inl (List.mem_flatMap.2 ⟨z,hz,List.mem_cons_self ..⟩)),this.1,this.2⟩)
def ij (f:aL):Nat→List Int→List jq→List Int
 | 0,S,_=>S
 | k+1,S,hs=>if (eZ f S hs).length=S.length then S else ij f k (eZ f S hs) (hs.map (adv f S))
def De (rs:List Int) (cs:List ey):List Int:=(cs.filter fun c=>decide (c.Rune∈rs)).map ey.Glyph
def fg (f:aL) (rs:List Int):List Int:=dJ f.Glyphs.length [] (0::De rs f.Chars)
noncomputable def q9 (f:aL) (rs:List Int) (fs:List ByteArray):List Int:=ij f (f.Glyphs.length+1) (fg f rs) (eX f (dJ f.Lookups.length [] (dG f fs)))
def vw (z:Int):Bool:=decide (z < 0∨z > 1114111)
def zw:AV:= .sc (.slice none 0 0)
noncomputable def lw (f:aL) (rs:List Int) (fs:List ByteArray):AV:=if (ii f).1=0 then (if rs.any vw=true then .tup [zw,aP 80] else .tup [.imm 1 (aS (eD (q9 f rs fs))),aP 0]) else .tup [zw,aP 1]
def kM (rs:List Int) (fs:List ByteArray):AV:= .agg [.imm 1 (aS rs),.imm 1 (gP fs)]
theorem yh (rs:List Int) {cs:List ey} {i:Nat} {c:ey} (h:cs[i]?=some c):De rs (cs.take (i+1))=De rs (cs.take i)++if decide (c.Rune∈rs)=true then [c.Glyph] else []:=by
 unfold De
 rw [List.take_add_one,h,Option.toList_some,List.filter_append,List.map_append]
 congr 1
 by_cases e:c.Rune∈rs <;> simp [e]
theorem nG.adv {f:aL} {S:List Int} {hs:List jq} (h:nG hs):nG (hs.map (adv f S)):=by
 intro x hx
 obtain ⟨y,hy,rfl⟩:=List.mem_map.1 hx
 exact h y hy
structure GS where
 k:Nat
 p:Nat
 b:Nat
 ka:Option (Nat×Nat)
 S:List Int
 hq:HQ
def HZ (f:aL) (T:List Int) (x:GS):Prop:=f.Glyphs.length < x.S.length+x.k∧cJ f.Glyphs.length x.S∧nG (x.hq.map (·.2))∧x.hq.length≤100000000∧ij f x.k x.S (x.hq.map (·.2))=T
def HH (p b n:Nat) (k:Option (Nat×Nat)) (S:List Int):Nat×AB:=(p,.box [.sc (.slice (some ⟨b,0,none⟩) n n),.vec k 1 (aS S)] 131)
def Ie (b n:Nat) (k:Option (Nat×Nat)) (S:List Int):AL:=(b,.box (gR S n) 4)::tok k 124 1 (aS S).length
theorem v7 {p b n:Nat} {k:Option (Nat×Nat)} {S:List Int}:ca p b n k S=HH p b n k S::Ie b n k S:=rfl
theorem Fe {f:aL} {gp:Nat} {kg:Option (Nat×Nat)} {hq:HQ} {p b p' b' n:Nat} {k k':Option (Nat×Nat)} {S S':List Int}:(gB f gp kg hq (ca p b n k S++ca p' b' n k' S')).Perm (HH p' b' n k' S'::HH p b n k S::(Ie b' n k' S'++(Ie b n k S++gB f gp kg hq []))):=by
 have h1:=ul (f:=f) (gp:=gp) (k:=kg) (hq:=hq) (A:=[]) (X:=ca p b n k S) (M:=ca p' b' n k' S')
 have h2:=ul (f:=f) (gp:=gp) (k:=kg) (hq:=hq) (A:=[]) (X:=ca p' b' n k' S') (M:=[])
 simp only [Jq,List.append_nil] at h1 h2
 refine h1.trans ((List.Perm.append_left _ h2).trans ((List.perm_append_comm_assoc _ _ _).trans ?_))
 rw [v7,v7]
 refine List.Perm.cons _ ?_
 rw [Jr]
 exact List.perm_middle
set_option maxHeartbeats 4000000 in
theorem pt (f:aL) (hs:dP f) (hR:bZ Tryz.prog 41 [cr f] (cM (decide ((ii f).1=0)))) (rs:List Int) (fs:List ByteArray):bZ Tryz.prog 12 [cr f,kM rs fs] (lw f rs fs):=by
 refine aX Tryz.func12 rfl Tryz.ntmps12 rfl fun B=>?_
 have hGl:=hs.glyphs
 unfold kM
 repeat' (first|refine go ?_|refine IG a6 EV ?_|refine bD ?_|fail)
 refine bq (hc:=⟨hR⟩) ?_
 repeat' (first|refine go ?_|refine IG a6 EV ?_)
 unfold lw
 refine au rfl (fun h=>?_) (fun h=>?_)
 ·have h:¬(ii f).1=0:=by simpa using h
  rw [if_neg h]
  repeat' (first|refine go ?_|refine IG a6 EV ?_)
  exact bk rfl rfl rfl rfl
 have h:(ii f).1=0:=by simpa using h
 rw [if_pos h]
 clear h
 repeat' (first|refine go ?_|fail)
 refine eG KJ fun m=>?_
 rw [kx]
 repeat' (first|refine go ?_|refine am ?_|refine IG a6 EV ?_)
 refine cN 19 rfl rfl fun hlen=>?_
 rw [aF] at hlen
 refine aO [2,3,6,19,20] (α:=Nat) (fun i=>[(21,aP i)]) (fun i=>i≤rs.length∧(rs.take i).any vw=false) (fun i=>[(m,cn KJ (cU (rs.take i)))]) (fun i=>rs.length - i) 0 rfl ⟨rfl,trivial⟩ ⟨Nat.zero_le _,rfl⟩ (fun _ _ h=>h) ?_
 rintro i ⟨hi,ha⟩
 try dsimp only [Jr,Jq,Jp,Jk]
 repeat' (first|refine go ?_|refine IG a6 EV ?_)
 refine au rfl (fun h=>?_) (fun h=>?_)
 ·have hil:i < rs.length:=by have:=Jy h;simp [aF] at this;omega
  obtain ⟨z,hz⟩:∃z,rs[i]?=some z:=⟨_,Jz hil⟩
  have hzg:=bQ hz
  repeat' (first|refine go ?_|refine am ?_|refine IG a6 EV ?_|(apply aV;first|refine aU a6 ?_|refine aN a6 ?_)|fail)
  refine dH (t:=30) [2,3,6,8,19,20,21] (z < 0∨z > 1114111) rfl (fun Q' K=>?_) ?_
  ·repeat' (first|refine go ?_|refine IG a6 EV ?_|refine IR EV ?_|refine IT IC ?_|refine bF rfl rfl rfl (fun _=>?_) (fun _=>?_))
   all_goals exact K _ _ rfl rfl (by clear K;simp_all <;> omega)
  repeat' (first|refine go ?_|fail)
  refine au rfl (fun h2=>?_) (fun h2=>?_)
  ·have:rs.any vw=true:=List.any_eq_true.2 ⟨z,Jw hz,h2⟩
   rw [if_pos this]
   repeat' (first|refine go ?_|refine IG a6 EV ?_)
   exact bk rfl rfl rfl rfl
  repeat' (first|refine go ?_|refine IG a6 EV ?_)
  refine dl 0 (cU (rs.take (i+1))) Tryz.underlying120 Tryz.underlying3 rfl rfl rfl rfl rfl (qA hz) (oT hz) ?_
  repeat' (first|refine go ?_|refine IG a6 EV ?_|(apply aW;refine aT ?_)|fail)
  refine aB (i+1) rfl ⟨by rw [Jv];rfl,trivial⟩ ⟨by omega,?_⟩ (by omega) (fun _ _ h=>h)
  rw [List.take_add_one,hz,List.any_append,ha]
  have:vw z=false:=h2
  simp [this]
 have hil:i=rs.length:=by have:=Jx h;simp [aF] at this;omega
 subst hil
 rw [List.take_length] at ha
 rw [List.take_length,if_neg (by rw [ha];exact fun e=>by cases e)]
 clear h hi ha hlen
 repeat' (first|refine go ?_|refine IG a6 EV ?_|refine bG a6 ?_|fail)
 refine bn [] _ (CD f hs [0]) rfl rfl (Jn _) rfl fun c L1 ⟨p,b,ka,hc,hL⟩=>?_
 subst hc;subst hL
 refine aK (aM List.perm_append_comm) ?_
 repeat' (first|refine go ?_|refine am ?_|refine IG a6 EV ?_)
 refine cN 38 rfl rfl fun hcl=>?_
 rw [Jt] at hcl
 refine aO [2,3,6,9,38,39] (α:=Nat×Option (Nat×Nat)) (fun x=>[(40,aP x.1)]) (fun x=>x.1≤f.Chars.length) (fun x=>[(m,cn KJ (cU rs))]++ca p b f.Glyphs.length x.2 (fg { f with Chars:=f.Chars.take x.1 } rs)) (fun x=>f.Chars.length - x.1) (0,ka) rfl ⟨rfl,trivial⟩ (Nat.zero_le _) (fun _ _ h=>h) ?_
 rintro ⟨i,k⟩ hi
 dsimp only at hi ⊢
 have hok:cJ f.Glyphs.length (fg { f with Chars:=f.Chars.take i } rs):=cJ.nil.add _
 try dsimp only [Jr,Jq,Jp,Jk]
 repeat' (first|refine go ?_|refine IG a6 EV ?_)
 refine au rfl (fun h=>?_) (fun h=>?_)
 ·have hil:i < f.Chars.length:=by have:=Jy h;simp at this;omega
  obtain ⟨t,ht⟩:∃z,f.Chars[i]?=some z:=⟨_,Jz hil⟩
  have htg:=bA (c:=cm) ht
  have had:=yh rs ht
  repeat' (first|refine go ?_|refine am ?_|refine IG a6 EV ?_|(apply aV;first|refine aU a6 ?_|refine aN a6 ?_)|(apply aJ;first|refine II 11 a6 0 IF ?_|refine II 11 a6 1 IF ?_|refine II 11 a6 2 IF ?_|refine IH a6 0 IE ?_|refine IH a6 1 IE ?_|refine IH a6 2 IE ?_|refine IH a6 3 IE ?_|fail)|refine bc a6 fun _=>?_|fail)
  refine jJ 0 (.bool false) Tryz.underlying120 Tryz.underlying3 rfl rfl rfl rfl (by kernel_rfl) rfl ?_
  have hM:((cU rs (.int .i64 t.Rune)).getD (.sc (.bool false)))=cM (decide (t.Rune∈rs)):=by
   unfold cU
   simp only
   by_cases e:t.Rune∈rs <;> simp [e]
  rw [hM]
  repeat' (first|refine go ?_|fail)
  refine au rfl (fun h2=>?_) (fun h2=>?_)
  ·rw [if_pos h2] at had
   repeat' (first|refine go ?_|refine IG a6 EV ?_|refine bG a6 ?_|fail)
   refine bn (ca p b f.Glyphs.length k (fg { f with Chars:=f.Chars.take i } rs)) [(m,cn KJ (cU rs))] (mM p b f.Glyphs.length k _ [t.Glyph] (by omega) hok) rfl rfl (List.perm_append_comm (l₁:=[(m,cn KJ (cU rs))])) rfl fun c L1 ⟨k',hL1⟩=>?_
   subst hL1
   have hst:dJ f.Glyphs.length (fg { f with Chars:=f.Chars.take i } rs) [t.Glyph]=fg { f with Chars:=f.Chars.take (i+1) } rs:=by
    unfold fg
    dsimp only
    rw [had,fp,Jr]
   rw [hst]
   refine aK (aM List.perm_append_comm) ?_
   repeat' (first|refine go ?_|refine IG a6 EV ?_|(apply aW;refine aT ?_)|fail)
   exact aB (i+1,k') rfl ⟨by rw [Jv];rfl,trivial⟩ (by dsimp only;omega) (by dsimp only;omega) (fun _ _ h=>h)
  ·rw [h2] at had
   simp only [Bool.false_eq_true,if_false,List.append_nil] at had
   have hst:fg { f with Chars:=f.Chars.take (i+1) } rs=fg { f with Chars:=f.Chars.take i } rs:=by
    unfold fg
    dsimp only
    rw [had]
   repeat' (first|refine go ?_|refine IG a6 EV ?_|(apply aW;refine aT ?_)|fail)
   exact aB (i+1,k) rfl ⟨by rw [Jv];rfl,trivial⟩ (by dsimp only;omega) (by dsimp only;omega) (fun _ _ h=>by dsimp only;rw [hst];exact h)
 have hil:i=f.Chars.length:=by have:=Jx h;simp at this;omega
 subst hil
 rw [List.take_length] at hok ⊢
 clear h hi
 refine bN (bM (List.sublist_cons_self ..)) ?_
 haveI:AD Tryz.prog 13 [cr f,.imm 1 (gP fs)] (.imm 1 (aS (dG f fs))):=⟨ku f fs hs⟩
 repeat' (first|refine go ?_|fail)
 refine br 5 [(0,.v),(1,.v),(2,.v),(3,.v),(4,.v)] none ?_ trivial rfl (by kernel_rfl) (by kernel_rfl) (by kernel_rfl) mixed (by kernel_rfl) rfl
 repeat' (first|refine aC ?_|refine aY a6 ?_|(apply bK;refine bR ?_)|fail)
 refine IQ [9,54,58] EV ?_
 repeat' (first|fail)
 refine bn [] (ca p b f.Glyphs.length k (fg f rs)) (sL f hs (dG f fs)) rfl rfl (Jn _) rfl fun c L1 ⟨gp,kg,hq,hc,hL,hh⟩=>?_
 subst hc;subst hL
 have hok:cJ f.Glyphs.length (fg f rs):=hok
 have hg0:gB f gp kg hq []++ca p b f.Glyphs.length k (fg f rs)=gB f gp kg hq (ca p b f.Glyphs.length k (fg f rs)):=by unfold gB;simp
 rw [hg0]
 repeat' (first|refine am ?_|refine go ?_|refine IG a6 EV ?_)
 refine aO [12] (α:=GS) (fun x=>[(9,gj x.p)]) (HZ f (q9 f rs fs)) (fun x=>gB f gp kg x.hq (ca x.p x.b f.Glyphs.length x.ka x.S)) (fun x=>x.k) ⟨f.Glyphs.length+1,p,b,k,fg f rs,hq⟩ rfl ⟨rfl,trivial⟩ ⟨by dsimp only;omega,hok,by dsimp only;rw [hh];exact E5 hs _,G4 hs hh,by dsimp only;rw [hh];rfl⟩ (fun _ _ h=>h) ?_
 clear hh hg0 hok
 rintro ⟨r,p,b,ka,S,hq⟩ ⟨h1,hS,h3,h4,h5⟩
 dsimp only at h1 hS h3 h4 h5 ⊢
 have uo:=hS.len
 obtain ⟨r,rfl⟩:∃r',r=r'+1:=⟨r - 1,by omega⟩
 have hS':=qJ f S (hq.map (·.2))
 have hS'l:=hS'.len
 try dsimp only [Jr,Jq,Jp,Jk]
 repeat' (first|refine go ?_|refine am ?_|refine IG a6 EV ?_)
 refine bn (gB f gp kg hq (ca p b f.Glyphs.length ka S)) [] (EL f hs gp p b kg ka hq S hS h3 h4) rfl rfl (by rw [List.append_nil]) rfl fun c L1 ⟨np,nb,kn,hq',hc,hL,h6,h7⟩=>?_
 subst hc;subst hL
 rw [List.append_nil]
 refine aK (aM Fe) ?_
 unfold HH
 repeat' (first|refine go ?_|refine IG a6 EV ?_)
 refine br 10 [(0,.v),(1,.v),(2,.v),(3,.l),(4,.v),(5,.v),(6,.v),(7,.v),(8,.l),(9,.v)] none ?_ trivial rfl (by kernel_rfl) (by kernel_rfl) (by kernel_rfl) mixed (by kernel_rfl) rfl
 repeat' (first|refine aC ?_|refine aY a6 ?_|refine dg a6 0 rfl rfl rfl rfl (by first|trivial|rfl) ?_|refine dg a6 1 rfl rfl rfl rfl (by first|trivial|rfl) ?_)
 refine IQ [9,12,13,67,72] EV ?_
 repeat' (first|refine go ?_|refine aa ?_|refine IG a6 EV ?_)
 refine bN (aM (L':=gB f gp kg hq' (ca p b f.Glyphs.length ka S++ca np nb f.Glyphs.length kn (eZ f S (hq.map (·.2))))) Fe.symm) ?_
 refine au rfl (fun h2=>?_) (fun h2=>?_)
 ·have he:(eZ f S (hq.map (·.2))).length=S.length:=by
   simp [aF] at h2
   exact Int.ofNat.inj h2
  rw [ij,if_pos he] at h5
  repeat' (first|refine go ?_|refine IG a6 EV ?_)
  refine bn (ca p b f.Glyphs.length ka S) (gB f gp kg hq' (ca np nb f.Glyphs.length kn (eZ f S (hq.map (·.2))))) (Cp p b f.Glyphs.length ka S (by omega)) rfl rfl (by simpa using ul (f:=f) (gp:=gp) (k:=kg) (hq:=hq') (A:=[]) (X:=ca p b f.Glyphs.length ka S) (M:=ca np nb f.Glyphs.length kn (eZ f S (hq.map (·.2))))) rfl fun c L1 ⟨hc,hL⟩=>?_
  subst hc;subst hL
  rw [h5]
  repeat' (first|refine go ?_|refine IG a6 EV ?_)
  exact bk rfl rfl rfl rfl
 ·have he:¬(eZ f S (hq.map (·.2))).length=S.length:=by
   simp [aF] at h2
   exact fun e=>h2 (congrArg Int.ofNat e)
  rw [ij,if_neg he] at h5
  have hle:=sK hS.nodup (rQ (hs:=hq.map (·.2)) hS)
  repeat' (first|refine go ?_|refine IG a6 EV ?_)
  refine aB ⟨r,np,nb,kn,eZ f S (hq.map (·.2)),hq'⟩ rfl ⟨rfl,trivial⟩ ⟨by dsimp only;omega,hS',?_,?_,?_⟩ (by dsimp only;omega) (fun _ _ hw=>?_)
  ·dsimp only
   rw [h7]
   exact h3.adv
  ·dsimp only
   have:=congrArg List.length h6
   simp only [Jt] at this
   omega
  ·dsimp only
   rw [h7]
   exact h5
  ·dsimp only
   refine hw.sublist ?_
   unfold gB
   exact ((((List.sublist_append_right _ _).append_left _).append_left _).cons_cons _)
theorem y9 (f:aL) (hs:dP f) (hA:(dq 400 f.Glyphs (eS f)).1=0→jx f.Glyphs.length (prt f)) (rs:List Int) (fs:List ByteArray):bZ Tryz.prog 12 [cr f,kM rs fs] (lw f rs fs):=pt f hs (Cm f hA) rs fs
end Go.Proofs.YtjjpkibjffmceaaGreat
namespace Go.Proofs.YtjjpkibjffmceaaGreat
open Go.RowKit
attribute [local irreducible] AT cg AX AO Av Kt bJ eC DA du
def dt (a b:AV):Prop:=∀σ v,VR σ a v→VR σ b v
def mH:List AV→List AV→Prop
 | [],[]=>True
 | a::r,b::q=>dt a b∧mH r q
 | _,_=>False
def GE:List (List AV)→List (List AV)→Prop
 | [],[]=>True
 | a::r,b::q=>mH a b∧GE r q
 | _,_=>False
theorem dt.refl (a:AV):dt a a:=fun _ _ h=>h
theorem dt.nil (n:Nat):dt (.sc (.slice none 0 0)) (.imm n []):=fun _ _ h=>gm n h
theorem mH.len:∀{a b:List AV},mH a b→a.length=b.length
 | [],[],_=>rfl
 | _::_,_::_,h=>by simp [h.2.len]
theorem mH.at:∀{a b:List AV},mH a b→∀(i:Nat) c c',a[i]?=some c→b[i]?=some c'→dt c c'
 | x::a,y::b,h,0,c,c',h1,h2=>by
  simp at h1 h2
  subst h1;subst h2
  exact h.1
 | _::a,_::b,h,i+1,c,c',h1,h2=>h.2.at i c c' (by simpa using h1) (by simpa using h2)
theorem mH.vrs {a b:List AV} (h:mH a b) {σ:cP} {vs:List Value} (hv:dR σ a vs):dR σ b vs:=y5 h.len (fun i c c' h1 h2=>h.at i c c' h1 h2 σ) hv
theorem GE.len:∀{a b:List (List AV)},GE a b→a.length=b.length
 | [],[],_=>rfl
 | _::_,_::_,h=>by simp [h.2.len]
theorem GE.at:∀{a b:List (List AV)},GE a b→∀(i:Nat) c c',a[i]?=some c→b[i]?=some c'→mH c c'
 | x::a,y::b,h,0,c,c',h1,h2=>by
  simp at h1 h2
  subst h1;subst h2
  exact h.1
 | _::a,_::b,h,i+1,c,c',h1,h2=>h.2.at i c c' (by simpa using h1) (by simpa using h2)
theorem dt.agg {a b:List AV} (h:mH a b):dt (.agg a) (.agg b):=fun σ v hv=>by
 cases hv with
 | agg _ vs hl hx h1=>exact .agg _ _ (h.len▸hl) (fun i c u hc hu=>(h.vrs (σ:=σ) ⟨hl,hx⟩).2 i c u hc hu) h1
theorem dt.imm {s:Nat} {a b:List (List AV)} (h:GE a b):dt (.imm s a) (.imm s b):=fun σ v hv=>by
 cases hv with
 | imm _ _ A cap hc hm hs ha hx hh=>
  have hl:=h.len
  rw [hl]
  have get:∀{i:Nat} {e:List AV},b[i]?=some e→∃e',a[i]?=some e'∧mH e' e:=fun {i e} he=>by
   have hi:i < a.length:=by rw [hl];exact (Jo he).1
   exact ⟨_,Jz hi,h.at i _ _ (Jz hi) he⟩
  refine .imm s b A cap (hl▸hc) hm (fun e he=>?_) (fun hb=>ha fun e=>hb (List.eq_nil_of_length_eq_zero (by rw [←hl,e];rfl))) (fun i b' off j hA hi hj=>hx i b' off j hA (hl▸hi) hj) fun i e b' off j c u he hA hj hu=>?_
  ·obtain ⟨i,hi⟩:=List.mem_iff_getElem?.1 he
   obtain ⟨e',h1,h2⟩:=get hi
   rw [←h2.len]
   exact hs _ (Jw h1)
  ·obtain ⟨e',h1,h2⟩:=get he
   have hj':j < e'.length:=by rw [h2.len];exact (Jo hj).1
   exact h2.at j _ c (Jz hj') hj σ u (hh i e' b' off j _ u h1 hA (Jz hj') hu)
section
variable {P:Program} {nt:Nat} {fr:cw} {B:Bs} {L:AL}
theorem sU {fn:Func} {t:Tmp} {e:TypeId} {b k:Nat} {cs:List Value} {tmps:Array Value} {w:World} [Fj P e k] (h:fn.results=#[.cell t e]) (ht:tmps.getD t undef= .pointer (some ⟨b,0,none⟩)) (hl:cs.length=k) (hc:∀j v,cs[j]?=some v→w.cell? ⟨b,0+j,none⟩=some v):
  (results fn tmps).run P w= .ok (.agg cs.toArray) w:=by
 rw [Array.getD_eq_getD_getElem?] at ht
 simp [results,h,ht,asAddr,gL hl hc]
end
end Go.Proofs.YtjjpkibjffmceaaGreat
namespace Go.Proofs.YtjjpkibjffmceaaGreat
open Go.RowKit
attribute [local irreducible] AT cg AX AO Av Kt bJ eC DA du
def BD (name:ByteArray) (mark:Bool) (parts:List cD):bL:=⟨name,0,mark,[],[],parts,[],[],[]⟩
def sA:aL:=⟨1000,[BD ⟨#[46,110,111,116,100,101,102]⟩ false [],BD ⟨#[97]⟩ false [],BD ⟨#[98]⟩ false [],BD ⟨#[99]⟩ false [⟨1,0,0⟩],BD ⟨#[109]⟩ true []],[⟨1,1⟩,⟨2,2⟩,⟨3,3⟩],
 [⟨3,false,[⟨[],[[1],[2]],[],[3],[],0⟩]⟩,⟨4,false,[⟨[],[[1]],[],[],[⟨0,0⟩],0⟩]⟩],[⟨⟨#[108,105,103,97]⟩,[0]⟩,⟨⟨#[99,97,108,116]⟩,[1]⟩],[],[],[],[]⟩
section
variable {P:Program} {tt:TT} {nt:Nat} {fr:cw} {B:Bs} {L L':AL}
theorem jh (ok:f6 P tt) (i:Nat) (L':AL) {fn:Func} {Post:AV→AL→Prop} {t:Tmp} {e e':TypeId} {b k:Nat} {cs:List AV} (hr:fn.results=#[.cell t e]) (hk:H6 tt e=some k) (hv:cF fr t=some (.sc (.pointer (some ⟨b,0,none⟩)))) (hL:L[i]?=some (b,.box cs e')) (hl:Nat.beq cs.length k=true) (hs:L'.Sublist L) (h:Post (.agg cs) L'):
  AX P .ret (bodyPost P fn (jW B Post)) nt [] fr B L:=by
 unfold AX
 intro σ a w ha hw
 haveI:=cV ok hk
 obtain ⟨vs,hb,hs',h1⟩:=hw.boxCell hL
 have hl:=Nat.eq_of_beq_eq_true hl
 refine ⟨ha.defers,_,sU (cs:=vs) hr (ha.look t _ hv).sc_inv (hs'.1.symm.trans hl) (fun j v hj=>by rw [ez hb,Nat.zero_add];simpa using hj),_,σ,_,L',rfl,.agg cs vs hs'.1 hs'.2 h1,hw.sublist hs,h⟩
theorem dt.im {k:Option (Nat×Nat)} {sz:Nat} {l:List (List AV)}:dt (.vec k sz l) (.imm sz l):=fun _ _ h=>VR.im h
theorem dt.vecN (n:Nat):dt (.sc (.slice none 0 0)) (.vec none n []):=fun _ _ h=>cO n h
end
section
variable {P:Program} {r:Option Nat} {Q:Exit→Act→World→Prop} {nt:Nat} {D:List Deferred} {fr fr1:cw} {B:Bs} {L:AL}
theorem sd {A C:Code} (ks:List Nat) (L1:AL) (hk:gE fr ks=some fr1) (hA:∀Q',(∀fr',gE fr' ks=some fr1→AX P .normal Q' nt D fr' B L1)→AT P r A Q' nt D fr B L) (hB:AT P r C Q nt D fr1 B L1):AT P r A (Kt P r C Q) nt D fr B L:=
 hA _ fun _ h=>a8 (sb ks h hB)
end
theorem fc {A T R:AL}:(A++(T++R)).Perm (T++(A++R)):=List.perm_append_comm_assoc ..
theorem Hu {A T1 T R:AL}:(A++(T1++(T++R))).Perm (T++(A++(T1++R))):=by
 have:=fc (A:=A++T1) (T:=T) (R:=R)
 simpa [List.append_assoc] using this
end Go.Proofs.YtjjpkibjffmceaaGreat
