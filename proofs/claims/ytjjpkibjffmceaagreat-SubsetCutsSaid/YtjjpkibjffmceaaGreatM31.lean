/-
  The document: places among numbers, sets with new numbers, glyphs.
-/
import Derived.Test.YtjjpkibjffmceaaGreatM13
import Derived.Test.YtjjpkibjffmceaaGreatM06
import Derived.Test.YtjjpkibjffmceaaGreatM22
import Derived.Test.YtjjpkibjffmceaaGreatM11
import Derived.Test.YtjjpkibjffmceaaGreatM23
namespace Go.Proofs.YtjjpkibjffmceaaGreat
open Go.RowKit
attribute [local irreducible] AT cg AX AO Av Kt bJ eC DA du
theorem wu {l:List Int} {i:Nat} {z:Int} (h:l[i]?=some z) (hn:z∉l.take i):di l z=some (i:Int):=by
 obtain ⟨hi,hz⟩:=Jo h
 unfold di
 rw [if_pos (Jw h)]
 have e:l=l.take i++z::l.drop (i+1):=by rw [←hz,List.getElem_cons_drop,List.take_append_drop]
 rw [e,List.idxOf_append,if_neg hn,List.idxOf_cons_self,List.length_take,Nat.min_eq_left (by omega),Nat.zero_add]
theorem zH {l:List Int} {z:Int} (h:z∉l):di l z=none:=by unfold di;rw [if_neg h]
theorem pn (l:List Int) (z:Int):decide ((di l z).getD (-1)≥0)=(di l z).isSome:=by
 unfold di
 by_cases h:z∈l
 ·rw [if_pos h];simp
 ·rw [if_neg h];rfl
theorem jj {α β:Type} (g:α→Option β) {l:List α} {i:Nat} {z:α} (h:l[i]?=some z):(l.take (i+1)).filterMap g=(l.take i).filterMap g++(g z).toList:=by
 rw [List.take_add_one,h,List.filterMap_append]
 cases hg:g z <;> simp [hg]
theorem oG {α β:Type} (g:α→Option β) (l:List α) (i:Nat):((l.take i).filterMap g).length≤i:=Nat.le_trans (List.length_filterMap_le ..) (by rw [List.length_take];omega)
theorem A7 {α:Type} {o:Option α} (d:α) (h:o.isSome=true):o.toList=[o.getD d]:=by cases o <;> first | rfl | cases h
theorem uG {α:Type} {o:Option α} (h:o.isSome=false):o.toList=[]:=by cases o <;> first | rfl | cases h
theorem FM (l:List Int) (n:Int):bZ Tryz.prog 54 [.imm 1 (aS l),aP n] (aP ((di l n).getD (-1))):=by
 refine aX Tryz.func54 rfl Tryz.ntmps54 rfl fun B=>?_
 refine cN 0 rfl rfl fun hlen=>?_
 rw [aF] at hlen
 repeat' (first|refine go ?_|refine am ?_|refine IG a6 EV ?_)
 refine aO [0,1] (α:=Nat) (fun i=>[(5,aP i)]) (fun i=>i≤l.length∧n∉l.take i) (fun _=>[]) (fun i=>l.length - i) 0 rfl ⟨rfl,trivial⟩ ⟨Nat.zero_le _,by simp⟩ (fun _ _ h=>h) fun i hi=>?_
 try dsimp only [Jr,Jq,Jp,Jk]
 repeat' (first|refine go ?_|refine IG a6 EV ?_)
 refine au rfl (fun h=>?_) (fun h=>?_)
 ·have hil:i < l.length:=by have:=Jy h;rw [aF] at this;omega
  obtain ⟨z,hz⟩:∃z,l[i]?=some z:=⟨_,Jz hil⟩
  have hzg:=bQ hz
  repeat' (first|refine go ?_|refine am ?_|refine IG a6 EV ?_|(apply aV;first|refine aU a6 ?_|refine aN a6 ?_)|fail)
  refine au rfl (fun h2=>?_) (fun h2=>?_)
  ·have h2':=Jy h2
   subst h2'
   have hp:=wu hz hi.2
   repeat' (first|refine go ?_|refine IG a6 EV ?_)
   refine IM EV ?_
   rw [hp]
   rfl
  ·have h2':=Jx h2
   repeat' (first|refine go ?_|refine IG a6 EV ?_|(apply aW;refine aT ?_)|fail)
   refine aB (i+1) rfl ⟨by rw [Jv];rfl,trivial⟩ ⟨by omega,?_⟩ (by omega) (fun _ _ h=>h)
   rw [List.take_add_one,hz]
   intro hm
   rcases Jm hm with hm | hm
   ·exact hi.2 hm
   ·simp at hm;exact h2' hm.symm
 ·have hil:i=l.length:=by have:=Jx h;rw [aF] at this;omega
  subst hil
  rw [List.take_length] at hi
  have hp:=zH hi.2
  repeat' (first|refine go ?_|refine IG a6 EV ?_)
  refine IM EV ?_
  rw [hp]
  rfl
instance (l:List Int) (n:Int):AD Tryz.prog 54 [.imm 1 (aS l),aP n] (aP ((di l n).getD (-1))):=⟨FM l n⟩
theorem wR (k l:List Int) (hl:l.length≤1000000):to Tryz.prog 57 [.imm 1 (aS k),.imm 1 (aS l)] 3 1 (aS (l.filterMap (di k))):=by
 refine aX Tryz.func57 rfl Tryz.ntmps57 rfl fun B=>?_
 have hil:=aF l
 repeat' (first|refine go ?_|refine am ?_|refine IG a6 EV ?_|refine eK (n:=0) a6 fun _=>?_|fail)
 rename_i b
 refine aO [0,1] (α:=Nat×Option (Nat×Nat)) (fun x=>[(5,.vec x.2 1 (aS ((l.take x.1).filterMap (di k)))),(6,aP x.1)]) (fun x=>x.1≤l.length) (fun x=>tok x.2 3 1 (aS ((l.take x.1).filterMap (di k))).length) (fun x=>l.length - x.1) (0,some (b,0)) rfl ⟨rfl,rfl,trivial⟩ (Nat.zero_le _) (fun _ _ h=>h) ?_
 rintro ⟨i,q⟩ hi
 dsimp only at hi ⊢
 have hsl:=oG (di k) l i
 try dsimp only [Jr,Jq,Jp,Jk]
 repeat' (first|refine go ?_|refine IG a6 EV ?_)
 refine au rfl (fun h=>?_) (fun h=>?_)
 ·have hi2:i < l.length:=by have:=Jy h;omega
  obtain ⟨z,hz⟩:∃z,l[i]?=some z:=⟨_,Jz hi2⟩
  have hzg:=bQ hz
  have hs:=jj (di k) hz
  have hge:=pn k z
  clear h
  repeat' (first|refine go ?_|refine am ?_|refine IG a6 EV ?_|(apply aV;first|refine aU a6 ?_|refine aN a6 ?_)|(apply bB;refine bq ?_)|fail)
  refine au rfl (fun h2=>?_) (fun h2=>?_)
  ·rw [hge] at h2
   rw [A7 (-1) h2] at hs
   repeat' (first|refine go ?_|refine IG a6 EV ?_|refine bG a6 ?_|fail)
   refine IS a6 [] IC (by simp) (by rw [aF];simp;omega) (by rw [aF];simp;omega) rfl fun q'=>?_
   repeat' (first|refine go ?_|refine IG a6 EV ?_|(apply aW;refine aT ?_)|fail)
   rw [show aS ((l.take i).filterMap (di k))++[[aP ((di k z).getD (-1))]]=aS ((l.take (i+1)).filterMap (di k)) by rw [hs,←eh];rfl]
   exact aB (i+1,q') rfl ⟨rfl,by rw [Jv];rfl,trivial⟩ (by dsimp only;omega) (by dsimp only;omega) (fun _ _ h=>by simpa using h)
  ·rw [hge] at h2
   rw [uG h2,List.append_nil] at hs
   repeat' (first|refine go ?_|refine IG a6 EV ?_|(apply aW;refine aT ?_)|fail)
   exact aB (i+1,q) rfl ⟨by dsimp only;rw [hs];rfl,by rw [Jv];rfl,trivial⟩ (by dsimp only;omega) (by dsimp only;omega) (fun _ _ h=>by dsimp only;rw [hs];exact h)
 ·have hi2:i=l.length:=by have:=Jx h;omega
  subst hi2
  rw [List.take_length]
  repeat' (first|refine go ?_|refine IG a6 EV ?_)
  exact IM EV ⟨_,rfl,rfl⟩
theorem mE (k l:List Int) (hl:l.length≤1000000):bZ Tryz.prog 57 [.imm 1 (aS k),.imm 1 (aS l)] (.imm 1 (aS (l.filterMap (di k)))):=(wR k l hl).det
theorem uM (k:List Int) (p:cD):(eQ k p).toList=if (di k p.Glyph).isSome=true then [{ p with Glyph:=(di k p.Glyph).getD (-1) }] else []:=by
 unfold eQ
 cases di k p.Glyph <;> rfl
def zG:List AV:=[gW ⟨#[]⟩,aP 0,cM false,.sc (.slice none 0 0),.sc (.slice none 0 0),.sc (.slice none 0 0),.sc (.slice none 0 0),.sc (.slice none 0 0),.sc (.slice none 0 0)]
set_option maxHeartbeats 2000000 in
theorem ui (k:List Int) (g:bL) (hg:g.Parts.length≤1000000):bZ Tryz.prog 53 [.agg (bh g),.imm 1 (aS k)] (.agg (bh (f8 k g))):=by
 refine aX Tryz.func53 rfl Tryz.ntmps53 rfl fun B=>?_
 have hpl:(g.Parts.map ct).length=g.Parts.length:=Jt ..
 repeat' (first|refine go ?_|refine am ?_|refine IG a6 EV ?_|refine qk (d:=2) fun _=>?_|refine bc a6 fun _=>?_|refine eK (d:=8) a6 fun _=>?_|fail)
 rename_i b2 b4 b5
 refine bN (aM (L':=[(b4,.box zG 63),(b2,.box (bh g) 63)]++[(b5,.vec 65 3 0 0)]) ((List.Perm.swap _ _ _).trans (List.Perm.cons _ (List.Perm.swap _ _ _)))) ?_
 refine aO [1,2,4] (α:=Nat×Option (Nat×Nat)) (fun x=>[(5,.vec x.2 3 (((g.Parts.take x.1).filterMap (eQ k)).map ct)),(6,aP x.1)]) (fun x=>x.1≤g.Parts.length) (fun x=>[(b4,.box zG 63),(b2,.box (bh g) 63)]++tok x.2 65 3 (((g.Parts.take x.1).filterMap (eQ k)).map ct).length) (fun x=>g.Parts.length - x.1) (0,some (b5,0)) rfl ⟨rfl,rfl,trivial⟩ (Nat.zero_le _) (fun _ _ h=>h) ?_
 rintro ⟨i,q⟩ hi
 dsimp only at hi ⊢
 have hsl:=oG (eQ k) g.Parts i
 have hsm:(((g.Parts.take i).filterMap (eQ k)).map ct).length=((g.Parts.take i).filterMap (eQ k)).length:=Jt ..
 try dsimp only [Jr,Jq,Jp,Jk]
 repeat' (first|refine go ?_|refine IG a6 EV ?_|(apply bH;first|refine IJ a6 0 ID ?_|refine IJ a6 1 ID ?_|refine IJ a6 2 ID ?_|refine IJ a6 3 ID ?_|refine IK a6 0 ID ?_|refine IK a6 1 ID ?_|refine IK a6 2 ID ?_|refine IL a6 1 IB (by assumption) rfl ?_|refine IL a6 0 IB (by assumption) rfl ?_|fail)|fail)
 refine au rfl (fun h=>?_) (fun h=>?_)
 ·have hi2:i < g.Parts.length:=by have:=Jy h;omega
  obtain ⟨p,hp⟩:∃z,g.Parts[i]?=some z:=⟨_,Jz hi2⟩
  have hpg:=bA (c:=ct) hp
  have hs:=jj (eQ k) hp
  rw [uM] at hs
  have hge:=pn k p.Glyph
  clear h
  repeat' (first|refine go ?_|refine am ?_|refine IG a6 EV ?_|(apply bH;first|refine IJ a6 0 ID ?_|refine IJ a6 1 ID ?_|refine IJ a6 2 ID ?_|refine IJ a6 3 ID ?_|refine IK a6 0 ID ?_|refine IK a6 1 ID ?_|refine IK a6 2 ID ?_|refine IL a6 1 IB (by assumption) rfl ?_|refine IL a6 0 IB (by assumption) rfl ?_|fail)|(apply aV;first|refine aU a6 ?_|refine aN a6 ?_)|(apply aJ;first|refine IH a6 0 IE ?_|refine IH a6 1 IE ?_|refine IH a6 2 IE ?_|refine IH a6 3 IE ?_|fail)|refine bc a6 fun _=>?_|(apply bB;refine bq ?_)|fail)
  rename_i b7
  refine bN (bM (L':=(b7,.box (ct { p with Glyph:=(di k p.Glyph).getD (-1) }) 65)::([(b4,.box zG 63),(b2,.box (bh g) 63)]++tok q 65 3 (((g.Parts.take i).filterMap (eQ k)).map ct).length)) (List.Sublist.refl _)) ?_
  refine au rfl (fun h2=>?_) (fun h2=>?_)
  ·rw [hge] at h2
   rw [if_pos h2] at hs
   repeat' (first|refine go ?_|refine IG a6 EV ?_|(apply bH;first|refine IJ a6 0 ID ?_|refine IJ a6 1 ID ?_|refine IJ a6 2 ID ?_|refine IJ a6 3 ID ?_|refine IK a6 0 ID ?_|refine IK a6 1 ID ?_|refine IK a6 2 ID ?_|refine IL a6 1 IB (by assumption) rfl ?_|refine IL a6 0 IB (by assumption) rfl ?_|fail)|refine bG a6 ?_|fail)
   refine aK (bM (L':=[(b4,.box zG 63),(b2,.box (bh g) 63)]++tok q 65 3 (((g.Parts.take i).filterMap (eQ k)).map ct).length) (List.sublist_cons_self ..)) ?_
   refine IS a6 _ IC (List.perm_append_comm (l₁:=[_,_])) (by simp;omega) (by simp;omega) rfl fun q'=>?_
   refine aK (aM (List.perm_append_comm (l₂:=[_,_]))) ?_
   repeat' (first|refine go ?_|refine IG a6 EV ?_|(apply aW;refine aT ?_)|fail)
   exact aB (i+1,q') rfl ⟨by dsimp only;rw [hs,List.map_append];rfl,by rw [Jv];rfl,trivial⟩ (by dsimp only;omega) (by dsimp only;omega) (fun _ _ h=>by dsimp only;rw [hs,List.map_append];exact h)
  ·rw [hge] at h2
   rw [if_neg (by rw [h2];decide),List.append_nil] at hs
   repeat' (first|refine go ?_|refine IG a6 EV ?_|(apply aW;refine aT ?_)|fail)
   refine cQ (L':=[(b4,.box zG 63),(b2,.box (bh g) 63)]++tok q 65 3 (((g.Parts.take i).filterMap (eQ k)).map ct).length) (List.sublist_cons_self ..) ?_
   exact aB (i+1,q) rfl ⟨by dsimp only;rw [hs];rfl,by rw [Jv];rfl,trivial⟩ (by dsimp only;omega) (by dsimp only;omega) (fun _ _ h=>by dsimp only;rw [hs];exact h)
 have hi2:i=g.Parts.length:=by have:=Jx h;omega
 subst hi2
 rw [List.take_length]
 repeat' (first|refine go ?_|refine IG a6 EV ?_|(apply bH;first|refine IJ a6 0 ID ?_|refine IJ a6 1 ID ?_|refine IJ a6 2 ID ?_|refine IJ a6 3 ID ?_|refine IK a6 0 ID ?_|refine IK a6 1 ID ?_|refine IK a6 2 ID ?_|refine IL a6 1 IB (by assumption) rfl ?_|refine IL a6 0 IB (by assumption) rfl ?_|fail)|(apply aJ;first|refine IH a6 0 IE ?_|refine IH a6 1 IE ?_|refine IH a6 2 IE ?_|refine IH a6 3 IE ?_|fail))
 refine ba (bC 0 (cs':=bh (f8 k g)) rfl fun σ vs h=>mH.vrs (a:=iq (bh g) (0+5) [.vec q 3 ((g.Parts.filterMap (eQ k)).map ct)]) (b:=bh (f8 k g)) ⟨dt.refl _,dt.refl _,dt.refl _,dt.refl _,dt.refl _,dt.im,dt.refl _,dt.refl _,dt.refl _,trivial⟩ h) ?_
 exact er (cs:=[.agg (bh (f8 k g))]) [] ⟨⟨_,0,_,_,rfl,rfl,.inr ⟨cV a6 rfl,rfl⟩⟩,trivial⟩ (List.nil_sublist _) rfl
def ff (f:aL) (ig:Bool) (k:List Int):List Int:=k.filter fun z=> !(ig && jH f z)
theorem A3 (f:aL) (ig:Bool) {k:List Int} {i:Nat} {z:Int} (h:k[i]?=some z):ff f ig (k.take (i+1))=ff f ig (k.take i)++if (!(ig && jH f z))=true then [z] else []:=by
 unfold ff
 rw [List.take_add_one,h,List.filter_append]
 congr 1
 show List.filter _ [z]=_
 rw [List.filter_cons]
 rfl
theorem Eu (f:aL) (ig:Bool) (k:List Int) (i:Nat):(ff f ig (k.take i)).length≤i:=Nat.le_trans (List.length_filter_le ..) (by rw [List.length_take];omega)
set_option maxHeartbeats 4000000 in
theorem wD (f:aL) (l:bj) (k:List Int) (hk:∀z∈k,0≤z∧z < f.Glyphs.length) (hl:k.length≤1000000):to Tryz.prog 56 [cr f,.agg (bi l),.imm 1 (aS k)] 3 1 (aS (ff f l.Ignore k)):=by
 refine aX Tryz.func56 rfl Tryz.ntmps56 rfl fun B=>?_
 have hil:=aF k
 repeat' (first|refine go ?_|refine am ?_|refine IG a6 EV ?_|refine bD ?_|refine eK (n:=0) a6 fun _=>?_|fail)
 rename_i b
 refine aO [2,3,4] (α:=Nat×Option (Nat×Nat)) (fun x=>[(7,.vec x.2 1 (aS (ff f l.Ignore (k.take x.1)))),(8,aP x.1)]) (fun x=>x.1≤k.length) (fun x=>tok x.2 3 1 (aS (ff f l.Ignore (k.take x.1))).length) (fun x=>k.length - x.1) (0,some (b,0)) rfl ⟨rfl,rfl,trivial⟩ (Nat.zero_le _) (fun _ _ h=>h) ?_
 rintro ⟨i,q⟩ hi
 dsimp only at hi ⊢
 have hsl:=Eu f l.Ignore k i
 have hsm:=aF (ff f l.Ignore (k.take i))
 try dsimp only [Jr,Jq,Jp,Jk]
 repeat' (first|refine go ?_|refine IG a6 EV ?_)
 refine au rfl (fun h=>?_) (fun h=>?_)
 ·have hi2:i < k.length:=by have:=Jy h;omega
  obtain ⟨z,hz⟩:∃z,k[i]?=some z:=⟨_,Jz hi2⟩
  have hzg:=bQ hz
  have hzd:=hk z (Jw hz)
  obtain ⟨g,hg⟩:∃x,f.Glyphs[z.toNat]?=some x:=⟨_,Jz (by omega)⟩
  have hgg:=bA (c:=bh) hg
  have hs:=A3 f l.Ignore hz
  have hm:jH f z=g.Mark:=by unfold jH;rw [hg]
  rw [hm] at hs
  clear h
  repeat' (first|refine go ?_|refine am ?_)
  refine br 15 [(0,.v),(1,.v),(2,.v),(3,.v),(4,.v),(5,.v),(6,.v),(7,.v),(8,.v),(9,.v),(10,.v),(11,.v),(12,.v),(13,.v),(14,.v)] none ?_ trivial rfl (by kernel_rfl) (by kernel_rfl) (by kernel_rfl) mixed (by kernel_rfl) rfl
  repeat' (first|refine aC ?_|refine aY a6 ?_|fail)
  cases hi:l.Ignore with
  | true=>
   rw [hi] at hs hsl hsm
   repeat' (first|refine aC ?_|refine aY a6 ?_|(apply bS;refine ce a6 ?_)|fail)
   refine IQ [2,3,4,7,8,30] EV ?_
   repeat' (first|refine go ?_|refine aa ?_|fail)
   cases hmk:g.Mark with
   | true=>
    rw [hmk] at hs
    rw [if_neg (by decide),List.append_nil] at hs
    repeat' (first|refine go ?_|refine IG a6 EV ?_|(apply aW;refine aT ?_)|refine bP rfl ?_)
    exact aB (i+1,q) rfl ⟨by dsimp only;rw [hs];rfl,by rw [Jv];rfl,trivial⟩ (by dsimp only;omega) (by dsimp only;omega) (fun _ _ h=>by dsimp only;rw [hs];exact h)
   | false=>
    rw [hmk] at hs
    rw [if_pos (by decide)] at hs
    repeat' (first|refine go ?_|refine IG a6 EV ?_|(apply aV;first|refine aU a6 ?_|refine aN a6 ?_)|refine bG a6 ?_|refine cf rfl ?_)
    refine IS a6 [] IC (by simp) (by rw [hsm];simp;omega) (by rw [hsm];simp;omega) rfl fun q'=>?_
    repeat' (first|refine go ?_|refine IG a6 EV ?_|(apply aW;refine aT ?_)|fail)
    exact aB (i+1,q') rfl ⟨by dsimp only;rw [hs,←eh];rfl,by rw [Jv];rfl,trivial⟩ (by dsimp only;omega) (by dsimp only;omega) (fun _ _ h=>by dsimp only;rw [hs,←eh];rw [List.append_nil] at h;exact h)
  | false=>
   rw [hi] at hs hsl hsm
   rw [if_pos (show (!(false && g.Mark))=true from rfl)] at hs
   repeat' (first|refine aC ?_|refine aY a6 ?_|refine iU rfl rfl ?_)
   refine IQ [2,3,4,7,8,30] EV ?_
   repeat' (first|refine go ?_|refine aa ?_|refine IG a6 EV ?_|(apply aV;first|refine aU a6 ?_|refine aN a6 ?_)|refine bG a6 ?_|refine cf rfl ?_)
   refine IS a6 [] IC (by simp) (by rw [hsm];simp;omega) (by rw [hsm];simp;omega) rfl fun q'=>?_
   repeat' (first|refine go ?_|refine IG a6 EV ?_|(apply aW;refine aT ?_)|fail)
   exact aB (i+1,q') rfl ⟨by dsimp only;rw [hs,←eh];rfl,by rw [Jv];rfl,trivial⟩ (by dsimp only;omega) (by dsimp only;omega) (fun _ _ h=>by dsimp only;rw [hs,←eh];rw [List.append_nil] at h;exact h)
 ·have hi2:i=k.length:=by have:=Jx h;omega
  subst hi2
  rw [List.take_length]
  repeat' (first|refine go ?_|refine IG a6 EV ?_)
  exact IM EV ⟨_,rfl,rfl⟩
end Go.Proofs.YtjjpkibjffmceaaGreat
namespace Go.Proofs.YtjjpkibjffmceaaGreat
open Go.RowKit
section
variable {P:Program} {tt:TT} {r:Option Nat} {ops:Array Oper} {Q:Exit→Act→World→Prop} {nt:Nat} {D:List Deferred} {fr:cw} {B:Bs} {L:AL} {rest:List Oper} {d:Nat} {ty t t':TypeId} {pos:String} {af:Array Edge} {g:Option (Nat×Bool)} {x y z:Operand} {u:AV}
theorem eM {a b:ByteArray} (hx:bU fr x=some (.sc (.string a))) (hy:bU fr y=some (.sc (.string b))) (hs:a.size+b.size≤1000000) (hd:Nat.ble nt d=false) (h:cg P r ops Q nt D rest ((d,.sc (.string (a++b)))::fr) B L):
  cg P r ops Q nt D (⟨some d,.binOp .add t x y t',ty,pos,af,none⟩::rest) fr B L:=dT (EZ hx hy hs) hd rfl h
theorem C0 (ok:f6 P tt) {a:Int} {q q':IntKind} {ti ti':TI} (hx:bU fr x=some (.sc (.int q a))) (ht:dZ tt t=some ti) (hk:ti.k= .int q) (ht':dZ tt t'=some ti') (hk':ti'.k= .int q') (hd:Nat.ble nt d=false) (h:cg P r ops Q nt D rest ((d,.sc (.int q' (q'.wrap a)))::fr) B L):
  cg P r ops Q nt D (⟨some d,.convert t t' x,ty,pos,af,none⟩::rest) fr B L:=by
 haveI:=ok.int ht hk
 haveI:=ok.int ht' hk'
 exact dT (rd hx) hd rfl h
theorem xF (ok:f6 P tt) {e by_:Nat} {c:Int} {ti ti':TI} (hx:bU fr x=some u) (hu:gZ u=some (1,[[.sc (.int .u8 c)]])) (ht:kN tt t=some (e,1,by_)) (he:dZ tt e=some ti) (hk:ti.k= .int .u8) (ht':dZ tt t'=some ti') (hk':ti'.k= .str) (hd:Nat.ble nt d=false) (h:cg P r ops Q nt D rest ((d,.sc (.string ⟨#[UInt8.ofNat c.toNat]⟩))::fr) B L):
  cg P r ops Q nt D (⟨some d,.convert t t' x,ty,pos,af,none⟩::rest) fr B L:=dT (wX (bW ok ht).1 (ok.int he hk) (ok.str ht' hk') hx (cS hu)) hd rfl h
end
end Go.Proofs.YtjjpkibjffmceaaGreat
namespace Go.Proofs.YtjjpkibjffmceaaGreat
open Go.RowKit
attribute [local irreducible] AT cg AX AO Av Kt bJ eC DA du
class iv (z:Int):Prop where
 ok:NB z
theorem yL (m:Nat):mf m=(if m / 10=0 then ⟨#[]⟩ else mf (m / 10))++oE (m % 10):=by
 conv=>lhs;rw [mf]
 by_cases h:m < 10
 ·rw [if_pos h,if_pos (by omega),Nat.mod_eq_of_lt h]
  exact ByteArray.empty_append.symm
 ·rw [if_neg h,if_neg (by omega)]
def mV (k:Int) (s:ByteArray):Prop:=k≠0∨s=⟨#[]⟩
instance (k:Int) (s:ByteArray):Decidable (mV k s):=inferInstanceAs (Decidable (_∨_))
theorem CM:∀n < 10,UInt8.ofNat (IntKind.u8.wrap (48+((n:Nat):Int))).toNat=UInt8.ofNat (48+n):=by decide
theorem sm {m:Nat} {s:ByteArray}:(oE m++s).size≠0:=by rw [Ju,me];omega
set_option maxHeartbeats 2000000 in
theorem vJ (z:Int) (hz:NB z):bZ Tryz.prog 58 [aP z] (gW (cG z)):=by
  refine aX Tryz.func58 rfl Tryz.ntmps58 rfl fun B=>?_
  have hs9:=Bd (m:=z.natAbs) (by have:=hz.1;have:=hz.2;omega)
  repeat' (first|refine go ?_|refine am ?_|refine IG a6 EV ?_)
  refine aO [0] (α:=Int×ByteArray) (fun x=>[(4,aP x.1),(3,gW x.2)]) (fun x=>mf z.natAbs=(if mV x.1 x.2 then mf x.1.natAbs else ⟨#[]⟩)++x.2∧x.1.natAbs≤999999999) (fun _=>[]) (fun x=>x.1.natAbs+(if x.2.size=0 then 1 else 0)) (z,⟨#[]⟩) rfl ⟨rfl,rfl,trivial⟩ ⟨?_,by have:=hz.1;have:=hz.2;dsimp only;omega⟩ (fun _ _ h=>h) ?_
  · dsimp only
    rw [if_pos (.inr rfl)]
    exact ByteArray.append_empty.symm
  rintro ⟨k,s⟩ ⟨hI,hk⟩
  dsimp only at hI hk ⊢
  try dsimp only [Jr,Jq,Jp,Jk]
  repeat' (first|refine go ?_|refine IG a6 EV ?_)
  refine dH (t:=12) [0,3,4] (mV k s) rfl (fun Q' K=>?_) ?_
  · repeat' (first|refine go ?_|refine IG a6 EV ?_|refine IR EV ?_|refine IT IC ?_|refine bF rfl rfl rfl (fun _=>?_) (fun _=>?_))
    all_goals exact K _ _ rfl rfl (by clear K;unfold mV;simp_all <;> omega)
  repeat' (first|refine go ?_|fail)
  refine au rfl (fun hc=>?_) (fun hc=>?_)
  · have hC:=Jy hc
    rw [if_pos hC] at hI
    have hsz:s.size≤9:=by
      have:=congrArg ByteArray.size hI
      rw [Ju] at this
      omega
    have hm:(k.tmod 10).natAbs=k.natAbs % 10:=Int.natAbs_tmod k 10
    have hq:(k.tdiv 10).natAbs=k.natAbs / 10:=Int.natAbs_tdiv k 10
    have hq2:IntKind.i64.wrap (k.tdiv 10)=k.tdiv 10:=nV (by omega)
    have hC2:k≠0∨s.size=0:=hC.imp id fun h=>by rw [h];rfl
    have hlt:k.natAbs % 10 < 10:=Nat.mod_lt _ (by omega)
    have hfin:∀t:ByteArray,t=oE (k.natAbs % 10)++s→mf z.natAbs=(if mV (k.tdiv 10) t then mf (k.tdiv 10).natAbs else ⟨#[]⟩)++t:=fun t ht=>by
      subst ht
      rw [hI,yL k.natAbs,ByteArray.append_assoc,hq]
      refine congrArg (·++_) ?_
      by_cases h0:k.natAbs / 10=0
      · rw [if_pos h0,if_neg]
        rintro (h | h)
        · exact h (by omega)
        · exact sm (congrArg ByteArray.size h)
      · rw [if_neg h0,if_pos (.inl fun h=>h0 (by rw [h] at hq;exact hq.symm))]
    clear hc
    repeat' (first|refine go ?_|refine am ?_|refine IG a6 EV ?_)
    refine gT ?_ rfl rfl (by omega) rfl
    repeat' (first|refine go ?_|refine IG a6 EV ?_)
    refine au rfl (fun hd=>?_) (fun hd=>?_)
    · have hd:=Jy hd
      have hdg:(0:Int) - k.tmod 10=((k.natAbs % 10:Nat):Int):=by omega
      repeat' (first|refine go ?_|refine IG a6 EV ?_|(apply aW;refine aT ?_)|fail)
      rw [hdg]
      repeat' (first|fail)
      refine C0 a6 rfl rfl rfl rfl rfl rfl ?_
      repeat' (first|refine bG a6 ?_|fail)
      refine xF a6 rfl rfl rfl rfl rfl rfl rfl rfl ?_
      rw [CM _ hlt]
      repeat' (first|refine IG a6 EV ?_)
      refine eM rfl rfl (by rw [show (⟨#[UInt8.ofNat (48+k.natAbs % 10)]⟩:ByteArray).size=1 from rfl];omega) rfl ?_
      repeat' (first|refine go ?_|refine IG a6 EV ?_)
      refine aT ?_ (xa rfl rfl (by omega)) rfl
      rw [hq2]
      repeat' (first|refine go ?_|refine IG a6 EV ?_)
      refine aB (k.tdiv 10,oE (k.natAbs % 10)++s) rfl ⟨rfl,rfl,trivial⟩ ⟨hfin _ rfl,by dsimp only;omega⟩ ?_ (fun _ _ h=>h)
      dsimp only
      rw [if_neg sm]
      split <;> omega
    · have hd:=Jx hd
      have hdg:k.tmod 10=((k.natAbs % 10:Nat):Int):=by omega
      rw [hdg]
      repeat' (first|refine go ?_|refine IG a6 EV ?_|(apply aW;refine aT ?_)|fail)
      refine C0 a6 rfl rfl rfl rfl rfl rfl ?_
      repeat' (first|refine bG a6 ?_|fail)
      refine xF a6 rfl rfl rfl rfl rfl rfl rfl rfl ?_
      rw [CM _ hlt]
      repeat' (first|refine IG a6 EV ?_)
      refine eM rfl rfl (by rw [show (⟨#[UInt8.ofNat (48+k.natAbs % 10)]⟩:ByteArray).size=1 from rfl];omega) rfl ?_
      repeat' (first|refine go ?_|refine IG a6 EV ?_)
      refine aT ?_ (xa rfl rfl (by omega)) rfl
      rw [hq2]
      repeat' (first|refine go ?_|refine IG a6 EV ?_)
      refine aB (k.tdiv 10,oE (k.natAbs % 10)++s) rfl ⟨rfl,rfl,trivial⟩ ⟨hfin _ rfl,by dsimp only;omega⟩ ?_ (fun _ _ h=>h)
      dsimp only
      rw [if_neg sm]
      split <;> omega
  have hC:=Jx hc
  rw [if_neg hC] at hI
  have hI:mf z.natAbs=s:=by rw [hI];exact ByteArray.empty_append
  subst hI
  clear hc hC hk
  repeat' (first|refine go ?_|refine IG a6 EV ?_)
  unfold cG jt we
  refine au rfl (fun hn=>?_) (fun hn=>?_)
  · rw [if_pos (Jy hn)]
    repeat' (first|refine go ?_|refine IG a6 EV ?_)
    refine eM rfl rfl (by rw [show (⟨#[45]⟩:ByteArray).size=1 from rfl];omega) rfl ?_
    repeat' (first|fail)
    refine eM rfl rfl (by rw [Ju,show (⟨#[45]⟩:ByteArray).size=1 from rfl,show (⟨#[32]⟩:ByteArray).size=1 from rfl];omega) rfl ?_
    repeat' (first|refine go ?_|refine IG a6 EV ?_)
    exact IP IB
  · rw [if_neg (Jx hn)]
    repeat' (first|refine go ?_|refine IG a6 EV ?_)
    refine eM rfl rfl (by rw [show (⟨#[32]⟩:ByteArray).size=1 from rfl];omega) rfl ?_
    repeat' (first|refine go ?_|refine IG a6 EV ?_)
    exact IP IB
instance (z:Int) [h:iv z]:AD Tryz.prog 58 [aP z] (gW (cG z)):=⟨vJ z h.ok⟩
theorem ET (b:Bool):bZ Tryz.prog 59 [cM b] (gW (th b)):=by
 refine aX Tryz.func59 rfl Tryz.ntmps59 rfl fun B=>?_
 repeat' (first|refine go ?_|refine IG a6 EV ?_)
 cases b with
 | true=>
  repeat' (first|refine go ?_|refine IG a6 EV ?_|refine cf rfl ?_)
  exact IP IB
 | false=>
  repeat' (first|refine go ?_|refine IG a6 EV ?_|refine bP rfl ?_)
  exact IP IB
instance (b:Bool):AD Tryz.prog 59 [cM b] (gW (th b)):=⟨ET b⟩
theorem jM {n:Nat} (h:n≤999999999):iv (n:Int):=⟨⟨by omega,by omega⟩⟩
theorem Cs (l:List Int) (h:Ad l):bZ Tryz.prog 60 [.imm 1 (aS l)] (gW (pa l)):=by
 refine aX Tryz.func60 rfl Tryz.ntmps60 rfl fun B=>?_
 have hil:=aF l
 have hl:=h.1
 haveI:iv (((aS l).length:Nat):Int):=jM (by omega)
 have e0:cG (((aS l).length:Nat):Int)=ev l.length:=by rw [hil];rfl
 have h0:=cT (n:=l.length) (by omega)
 repeat' (first|refine go ?_|refine am ?_|refine IG a6 EV ?_|(apply bB;refine bq ?_)|fail)
 rw [e0]
 repeat' (first|fail)
 refine aO [0] (α:=Nat) (fun i=>[(4,aP i),(3,gW ((l.take i).foldl rP (ev l.length)))]) (fun i=>i≤l.length) (fun _=>[]) (fun i=>l.length - i) 0 rfl ⟨rfl,rfl,trivial⟩ (Nat.zero_le _) (fun _ _ h=>h) ?_
 intro i hi
 try dsimp only [Jr,Jq,Jp,Jk]
 repeat' (first|refine go ?_|refine IG a6 EV ?_)
 refine au rfl (fun hh=>?_) (fun hh=>?_)
 ·have hil:i < l.length:=by have:=Jy hh;omega
  obtain ⟨z,hz⟩:∃z,l[i]?=some z:=⟨_,Jz hil⟩
  have hzi:=bQ hz
  have hzn:=h.2 z (Jw hz)
  haveI:iv z:=⟨hzn⟩
  have k1:=be hzn
  have k2:=cZ (n:=16) (m:=11) i (qG h.2) h.1 h0
  have hst:(l.take (i+1)).foldl rP (ev l.length)=(l.take i).foldl rP (ev l.length)++cG z:=dN hz
  repeat' (first|refine go ?_|refine am ?_|refine IG a6 EV ?_|(apply aV;first|refine aU a6 ?_|refine aN a6 ?_)|(apply bB;refine bq ?_)|fail)
  refine eM rfl rfl (by omega) rfl ?_
  repeat' (first|refine go ?_|refine IG a6 EV ?_|(apply aW;refine aT ?_)|fail)
  exact aB (i+1) rfl ⟨by rw [Jv];rfl,by rw [hst];rfl,trivial⟩ (by omega) (by omega) (fun _ _ h=>h)
 have hil:i=l.length:=by have:=Jx hh;omega
 subst hil
 rw [List.take_length]
 repeat' (first|refine go ?_|refine IG a6 EV ?_)
 exact IP IB
theorem yx (l:List ep) (h:Fk l):bZ Tryz.prog 61 [.imm 2 (l.map ea)] (gW (rj l)):=by
 refine aX Tryz.func61 rfl Tryz.ntmps61 rfl fun B=>?_
 have hml:(l.map ea).length=l.length:=Jt ..
 have hl:=h.1
 haveI:iv (((l.map ea).length:Nat):Int):=jM (by omega)
 have e0:cG (((l.map ea).length:Nat):Int)=ev l.length:=by rw [hml];rfl
 have h0:=cT (n:=l.length) (by omega)
 repeat' (first|refine go ?_|refine am ?_|refine IG a6 EV ?_|(apply bB;refine bq ?_)|fail)
 rw [e0]
 repeat' (first|fail)
 refine aO [0] (α:=Nat) (fun i=>[(4,aP i),(3,gW ((l.take i).foldl od (ev l.length)))]) (fun i=>i≤l.length) (fun _=>[]) (fun i=>l.length - i) 0 rfl ⟨rfl,rfl,trivial⟩ (Nat.zero_le _) (fun _ _ h=>h) ?_
 intro i hi
 try dsimp only [Jr,Jq,Jp,Jk]
 repeat' (first|refine go ?_|refine IG a6 EV ?_)
 refine au rfl (fun hh=>?_) (fun hh=>?_)
 ·have hil:i < l.length:=by have:=Jy hh;omega
  obtain ⟨z,hz⟩:∃z,l[i]?=some z:=⟨_,Jz hil⟩
  have hzg:=bA (c:=ea) hz
  have hzn:=h.2 z (Jw hz)
  haveI:iv z.Op:=⟨hzn.1⟩
  haveI:iv z.A:=⟨hzn.2⟩
  have k1:=be hzn.1
  have k3:=be hzn.2
  have k2:=cZ (n:=50) (m:=11) i (oW h.2) h.1 h0
  have hst:(l.take (i+1)).foldl od (ev l.length)=(l.take i).foldl od (ev l.length)++cG z.Op++cG z.A:=dN hz
  repeat' (first|refine go ?_|refine am ?_)
  refine br 14 [(0,.v),(1,.v),(2,.v),(3,.v),(4,.v),(5,.v),(6,.v),(7,.v),(8,.v),(9,.v),(10,.v),(11,.v),(12,.v),(13,.v)] none ?_ trivial rfl (by kernel_rfl) (by kernel_rfl) (by kernel_rfl) mixed (by kernel_rfl) rfl
  repeat' (first|refine aC ?_|refine aY a6 ?_|(apply bS;refine ce a6 ?_)|(apply bK;refine bR ?_)|fail)
  refine dL ?_ rfl rfl (by omega) (by first | trivial | rfl)
  repeat' (first|refine aC ?_|refine aY a6 ?_|(apply bS;refine ce a6 ?_)|(apply bK;refine bR ?_)|fail)
  refine IQ [0,4,21,27] EV ?_
  repeat' (first|fail)
  refine eM rfl rfl (by rw [Ju];omega) rfl ?_
  repeat' (first|refine go ?_|refine IG a6 EV ?_|(apply aW;refine aT ?_)|fail)
  exact aB (i+1) rfl ⟨by rw [Jv];rfl,by rw [hst];rfl,trivial⟩ (by omega) (by omega) (fun _ _ h=>h)
 have hil:i=l.length:=by have:=Jx hh;omega
 subst hil
 rw [List.take_length]
 repeat' (first|refine go ?_|refine IG a6 EV ?_)
 exact IP IB
class GD (l:List Int):Prop where
 ok:Ad l
class HR (l:List ep):Prop where
 ok:Fk l
instance (l:List Int) [h:GD l]:AD Tryz.prog 60 [.imm 1 (aS l)] (gW (pa l)):=⟨Cs l h.ok⟩
instance (l:List ep) [h:HR l]:AD Tryz.prog 61 [.imm 2 (l.map ea)] (gW (rj l)):=⟨yx l h.ok⟩
end Go.Proofs.YtjjpkibjffmceaaGreat
