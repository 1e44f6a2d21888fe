/-
  The program's instances of fonts that do not vary: places, fonts.
-/
import Derived.Test.YtamjlkdanllgjaaGreatDoorM14
import Derived.Test.YtamjlkdanllgjaaGreatDoorM17
import Derived.Test.YtamjlkdanllgjaaGreatDoorM11
import Derived.Test.YtamjlkdanllgjaaGreatDoorM12
import Derived.Test.YtamjlkdanllgjaaGreatDoorM13
import Derived.Test.YtamjlkdanllgjaaGreatDoorM26
namespace Go.Proofs.YtamjlkdanllgjaaGreatDoor
open Go.RowKit
attribute [local irreducible] AT bB AX AO Av Kt ba dt DA cz
set_option maxRecDepth 8000
theorem Dn (e:Int):bH Tryz.prog 71 [.sc (.iface 52 (.int .i64 e))] (aH e):=by
 refine aP Tryz.func71 rfl Tryz.ntmps71 rfl fun B=>?_
 repeat' (first|refine ae ?_|refine a6 ?_|refine a8 ?_|refine aa ?_|refine LF a7 I9 ?_)
 refine A9 (by kernel_rfl) rfl rfl ?_
 repeat' (first|refine ae ?_|refine a6 ?_|refine aq ?_|refine a8 ?_|refine aC ?_|refine aa ?_|refine LF a7 I9 ?_|refine bV rfl ?_)
 exact LK LA
instance (e:Int):AD Tryz.prog 71 [.sc (.iface 52 (.int .i64 e))] (aH e):=⟨Dn e⟩
theorem D7 (ab eb:Nat) (L:AL):py Tryz.prog 70 ([.pointer (some ⟨ab,0,none⟩),.pointer (some ⟨eb,0,none⟩)].map .sc) L .returning .returning L:=by
 refine wD Tryz.func70 rfl Tryz.ntmps70 rfl rfl rfl rfl vD fun B=>?_
 repeat' (first|refine ae ?_|refine a6 ?_|refine LF a7 I9 ?_)
 refine xa false ⟨_,Tryz.underlying20⟩ rfl (.inl ⟨rfl,rfl⟩) rfl ?_
 repeat' (first|refine au ?_|refine a8 ?_|refine aa ?_|refine bk rfl ?_)
 exact wk (List.Sublist.refl _)
theorem Ac (ab eb:Nat) (e:Int):py Tryz.prog 70 ([.pointer (some ⟨ab,0,none⟩),.pointer (some ⟨eb,0,none⟩)].map .sc) [(eb,.box [aH 0] 52),(ab,.box [.sc (.slice none 0 0)] 113)] (.panicking [{ v:= .iface 52 (.int .i64 e),recovered:=false }]) (.panicking [{ v:= .iface 52 (.int .i64 e),recovered:=true }]) [(eb,.box [aH e] 52),(ab,.box [.sc (.slice none 0 0)] 113)]:=by
 refine wD Tryz.func70 rfl Tryz.ntmps70 rfl rfl rfl rfl Do fun B=>?_
 repeat' (first|refine ae ?_|refine a6 ?_|refine LF a7 I9 ?_)
 refine xa true ⟨_,Tryz.underlying20⟩ rfl (.inr ⟨⟨_,_,rfl⟩,rfl⟩) rfl ?_
 repeat' (first|refine a6 ?_|refine a8 ?_|refine aa ?_|refine LF a7 I9 ?_|(apply aK;first|refine LG a7 0 LD ?_|refine LG a7 1 LD ?_|refine LG a7 2 LD ?_|refine LG a7 3 LD ?_|fail)|(apply bw;refine bi ?_)|refine bV rfl ?_)
 exact wk (List.Sublist.refl _)
theorem D6 (f:aV) (hf:f.Axes=[]) (place:List Int):bH Tryz.prog 44 [cD f,.imm 1 (aO place)] (.tup [.sc (.slice none 0 0),aH (if place=[] then 0 else 1)]):=by
 refine pG Tryz.func44 rfl Tryz.ntmps44 rfl fun B=>?_
 refine d7 1 rfl rfl fun hpl=>?_
 have hpn:=aW place
 repeat' (first|refine ae ?_|refine a6 ?_|refine a8 ?_|refine aa ?_|refine LF a7 I9 ?_|refine bo ?_|refine bg a7 fun _=>?_|fail)
 refine yr [.pointer (some ⟨_,0,none⟩),.pointer (some ⟨_,0,none⟩)] rfl ?_
 repeat' (first|refine ae ?_|refine a6 ?_|refine a8 ?_|refine aa ?_|refine LF a7 I9 ?_)
 rename_i ab eb
 rw [hf]
 by_cases hp:place=[]
 ·subst hp
  repeat' (first|refine ae ?_|refine a6 ?_|refine am ?_|refine au ?_|refine a8 ?_|refine aa ?_|refine LF a7 I9 ?_|refine bk rfl ?_)
  refine aJ [2,4,5,16,17] (α:=Unit) (fun _=>[(18,aH 0)]) (fun _=>True) (fun _=>[(eb,.box [aH 0] 52),(ab,.box [.sc (.slice none 0 0)] 113)]) (fun _=>0) () rfl ⟨rfl,trivial⟩ trivial (fun _ _ h=>h) fun _ _=>?_
  try dsimp only [Lp,Lo,Ln,Lh]
  repeat' (first|refine ae ?_|refine a6 ?_|refine aq ?_|refine aL ?_|refine a8 ?_|refine av ?_|refine aA ?_|refine aw ?_|refine aa ?_|refine LF a7 I9 ?_|(apply bL;first|refine LI a7 0 LC ?_|refine LI a7 1 LC ?_|refine LI a7 2 LC ?_|refine LI a7 3 LC ?_|refine LJ a7 0 LC ?_|refine LJ a7 1 LC ?_|refine LJ a7 2 LC ?_|refine LL a7 1 LA (by assumption) rfl ?_|refine LL a7 0 LA (by assumption) rfl ?_|fail)|(apply aK;first|refine LG a7 0 LD ?_|refine LG a7 1 LD ?_|refine LG a7 2 LD ?_|refine LG a7 3 LD ?_|fail)|refine bk rfl ?_)
  refine xS (cs:=[.sc (.slice none 0 0),aH 0]) [] _ [] [] (D7 ab eb []) (Ll _) ?_ (List.nil_sublist _) rfl
  exact ⟨⟨_,1,_,_,rfl,rfl,.inl ⟨cu a7 rfl,rfl⟩⟩,⟨_,0,_,_,rfl,rfl,.inl ⟨cu a7 rfl,rfl⟩⟩,trivial⟩
 ·have h0:0 < place.length:=List.length_pos_iff.2 hp
  refine ay rfl (fun _=>?_) (fun h=>?_)
  ·repeat' (first|refine a6 ?_)
   refine ln (by kernel_rfl) rfl rfl ?_
   repeat' (first|fail)
   refine Fq rfl ?_
   refine rH ?_
   rw [if_neg hp]
   refine za (cs:=[.sc (.slice none 0 0),aH 1]) _ [] _ [] (Ac ab eb 1) (List.Perm.of_eq (List.append_nil _).symm) ?_ (List.nil_sublist _) rfl
   exact ⟨⟨_,1,_,_,rfl,rfl,.inl ⟨cu a7 rfl,rfl⟩⟩,⟨_,0,_,_,rfl,rfl,.inl ⟨cu a7 rfl,rfl⟩⟩,trivial⟩
  ·have h1:=Decidable.not_not.1 (Lw h)
   have h2:(List.map cG []).length=0:=rfl
   exfalso
   omega
structure Eb (f:aV):Prop where
 axes:f.Axes=[]
 regions:f.Regions=[]
 deltas:∀g∈f.Glyphs,g.Deltas=[]
 glyphs:f.Glyphs.length≤1000000∧∀g∈f.Glyphs,GM g
 chars:f.Chars.length≤1000000
 looks:f.Lookups.length≤1000000∧∀q∈f.Lookups,q.Rules.length≤1000000∧∀r∈q.Rules,GP r
 feats:f.Features.length≤1000000∧∀q∈f.Features,q.Lookups.length≤1000000
 funcs:f.Funcs.length≤1000000∧∀q∈f.Funcs,q.length≤1000000
 cvt:f.Cvt.length≤1000000
abbrev Kz:List AV:=[rE ⟨#[]⟩,aH 0,cQ false,kq,kq,kq,kq,kq,kq]
def tR:aV:=⟨0,[],[],[],[],[],[],[],[]⟩
set_option maxHeartbeats 8000000 in
theorem Ht (f:aV) (hf:Eb f) (place:List Int):bH Tryz.prog 23 [cD f,.imm 1 (aO place)] (.tup [cD (if place=[] then f else tR),aH (if place=[] then 0 else 1)]):=by
 refine aP Tryz.func23 rfl Tryz.ntmps23 rfl fun B=>?_
 haveI i0:=AD.mk (D6 f hf.axes place)
 have hgl:(f.Glyphs.map bj).length=f.Glyphs.length:=Lr ..
 repeat' (first|refine ae ?_|refine a6 ?_|refine a8 ?_|refine aa ?_|refine LF a7 I9 ?_|refine bo ?_|refine bg a7 fun _=>?_|(apply bw;refine bi ?_)|fail)
 by_cases hp:place=[]
 ·simp only [if_pos hp]
  repeat' (first|refine ae ?_|refine a6 ?_|refine au ?_|refine a8 ?_|refine LF a7 I9 ?_|refine bk rfl ?_)
  refine ec (.int .i64) fun mb=>?_
  repeat' (first|refine ae ?_|refine a6 ?_|refine a8 ?_|refine aa ?_|refine LF a7 I9 ?_|(apply aK;first|refine LH 8 a7 0 LE ?_|refine LH 8 a7 1 LE ?_|refine LH 8 a7 2 LE ?_|refine LH 11 a7 0 LE ?_|refine LH 11 a7 1 LE ?_|refine LH 11 a7 2 LE ?_|refine LG a7 0 LD ?_|refine LG a7 1 LD ?_|refine LG a7 2 LD ?_|refine LG a7 3 LD ?_|fail)|refine bg a7 fun _=>?_|fail)
  refine ep a7 f.Glyphs.length rfl rfl rfl rfl rfl (by rw [hgl]) (by rw [hgl]) (by have:=hf.glyphs.1;omega) (by have:=hf.glyphs.1;omega) rfl fun gb=>?_
  rw [show (List.replicate f.Glyphs.length (List.map AV.sc _)).flatten=eQ bj Kz f.Glyphs 0 from iV _ _ _]
  repeat' (first|refine ae ?_|refine a6 ?_|refine am ?_|refine a8 ?_|refine aa ?_|refine LF a7 I9 ?_)
  rename_i tb _
  refine aJ [2,4,8,9,31,32] (α:=Nat) (fun i=>[(33,aH i)]) (fun i=>i≤f.Glyphs.length) (fun i=>[(gb,.box (eQ bj Kz f.Glyphs i) 67),(mb,ca (.int .i64) fun _=>none),(tb,.box ([.int .i64 0,.slice none 0 0,.slice none 0 0,.slice none 0 0,.slice none 0 0,.slice none 0 0,.slice none 0 0,.slice none 0 0,.slice none 0 0].map AV.sc) 36)]) (fun i=>f.Glyphs.length - i) 0 rfl ⟨rfl,trivial⟩ (Nat.zero_le _) (fun _ _ h=>h) fun i hi=>?_
  try dsimp only [Lp,Lo,Ln,Lh]
  repeat' (first|refine ae ?_|refine a6 ?_|refine a8 ?_|refine aa ?_|refine LF a7 I9 ?_)
  refine ay rfl (fun h=>?_) (fun h=>?_)
  ·have hil:i < f.Glyphs.length:=by have:=Ly h;omega
   obtain ⟨z,hz⟩:∃z,f.Glyphs[i]?=some z:=⟨_,Lz hil⟩
   have hzg:=c7 (c:=bj) hz
   have hzm:=Lv hz
   have hg45:=Fa f (.sc (.slice none 0 0)) (.sc (.map (some mb))) z (hf.glyphs.2 z hzm) (hf.deltas z hzm)
   have hst:eR z=z:=by
    have:=hf.deltas z hzm
    unfold eR
    cases z
    simp at this
    rw [this]
   rw [hst] at hg45
   have hb:=hf.glyphs.1
   clear h
   repeat' (first|refine ae ?_|refine a6 ?_|refine am ?_|refine au ?_|refine a8 ?_|refine aa ?_|refine LF a7 I9 ?_|(apply aU;first|refine aT a7 ?_|refine aN a7 ?_)|(apply aK;first|refine LH 8 a7 0 LE ?_|refine LH 8 a7 1 LE ?_|refine LH 8 a7 2 LE ?_|refine LH 11 a7 0 LE ?_|refine LH 11 a7 1 LE ?_|refine LH 11 a7 2 LE ?_|refine LG a7 0 LD ?_|refine LG a7 1 LD ?_|refine LG a7 2 LD ?_|refine LG a7 3 LD ?_|fail)|refine bg a7 fun _=>?_|fail)
   refine bi (hc:=⟨hg45⟩) ?_
   repeat' (first|refine LF a7 I9 ?_|(apply aU;first|refine aT a7 ?_|refine aN a7 ?_)|fail)
   refine mT (n:=9) (ys:=bj z) a7 0 (i * 9) rfl rfl (by omega) rfl rfl rfl rfl (by rw [k9 (sz:=9) (fun _=>rfl) rfl _ hi];omega) ?_
   rw [ka (sz:=9) (fun _=>rfl) rfl hz]
   repeat' (first|refine ae ?_|refine a6 ?_|refine au ?_|refine a8 ?_|refine aM ?_|refine aa ?_|refine LF a7 I9 ?_|(apply aY;refine aX ?_)|refine bk rfl ?_)
   exact aE (i+1) rfl ⟨by rw [Ls];rfl,trivial⟩ hil (by omega) (fun _ _ h=>h)
  ·have hil:i=f.Glyphs.length:=by have:=Lw h;omega
   subst hil
   clear h
   rw [k8]
   have hb:=hf.glyphs.1
   have hfl:((f.Glyphs.map bj).flatten).length=f.Glyphs.length * 9:=by rw [bR (sz:=9) (fun e he=>by obtain ⟨y,_,rfl⟩:=List.mem_map.1 he;rfl),hgl]
   refine bK (cW (t:=9) (sz:=9) (l:=f.Glyphs.map bj) 0 rfl rfl (List.take_of_length_le (by omega)) (by omega) (fun q hq=>by obtain ⟨y,_,rfl⟩:=List.mem_map.1 hq;rfl) hgl (Nat.le_refl _) (by unfold maxLen;omega)) ?_
   haveI i1:=AD.mk (Jj (f.Chars.map dc) (fun q hq=>by obtain ⟨y,_,rfl⟩:=List.mem_map.1 hq;rfl) (by rw [Lr];exact hf.chars))
   haveI i2:=AD.mk (Fi f.Lookups hf.looks.1 hf.looks.2)
   haveI i3:=AD.mk (F2 f.Features hf.feats.1 hf.feats.2)
   haveI i4:=AD.mk (I1 f.Funcs hf.funcs.1 hf.funcs.2)
   haveI i5:=AD.mk (vG (aO f.Cvt) (fun q hq=>by obtain ⟨y,_,rfl⟩:=List.mem_map.1 hq;rfl) (by rw [aW];exact hf.cvt))
   repeat' (first|refine ae ?_|refine aL ?_|refine a8 ?_|refine av ?_|refine aA ?_|refine aw ?_)
   refine bI 18 [(0,.v),(1,.v),(2,.v),(3,.v),(4,.v),(5,.v),(6,.v),(7,.v),(8,.v),(9,.v),(10,.v),(11,.v),(12,.v),(13,.v),(14,.v),(15,.v),(16,.v),(17,.v)] none ?_ trivial rfl (by kernel_rfl) (by kernel_rfl) (by kernel_rfl) mixed (by kernel_rfl) rfl
   repeat' (first|refine aF ?_|refine b9 a7 ?_|(apply du;refine dT ?_)|fail)
   refine LP [4,53,54,57,60,63,66,69] I9 ?_
   repeat' (first|refine aq ?_|refine a8 ?_|refine aa ?_|refine LF a7 I9 ?_|(apply aK;first|refine LH 8 a7 0 LE ?_|refine LH 8 a7 1 LE ?_|refine LH 8 a7 2 LE ?_|refine LH 11 a7 0 LE ?_|refine LH 11 a7 1 LE ?_|refine LH 11 a7 2 LE ?_|refine LG a7 0 LD ?_|refine LG a7 1 LD ?_|refine LG a7 2 LD ?_|refine LG a7 3 LD ?_|fail))
   have hfa:c6 f=[aH f.Unit,.imm 9 (f.Glyphs.map bj),.imm 2 (f.Chars.map dc),.imm 3 (f.Lookups.map bv),.imm 2 (f.Features.map bE),.imm 4 [],.imm 1 [],.imm 1 (f.Funcs.map cV),.imm 1 (aO f.Cvt)]:=by
    unfold c6
    rw [hf.axes,hf.regions]
    rfl
   rw [show cD f= .agg (c6 f) from rfl,hfa]
   refine b6 (bq 1 (cs':=[aH f.Unit,.imm 9 (f.Glyphs.map bj),.imm 2 (f.Chars.map dc),.imm 3 (f.Lookups.map bv),.imm 2 (f.Features.map bE),.imm 4 [],.imm 1 [],.imm 1 (f.Funcs.map cV),.imm 1 (aO f.Cvt)]) rfl fun σ vs hh=>ld.vrs (a:=[aH f.Unit,.imm 9 (f.Glyphs.map bj),.imm 2 (f.Chars.map dc),.imm 3 (f.Lookups.map bv),.imm 2 (f.Features.map bE),.sc (.slice none 0 0),.sc (.slice none 0 0),.imm 1 (f.Funcs.map cV),.imm 1 (aO f.Cvt)]) (b:=[aH f.Unit,.imm 9 (f.Glyphs.map bj),.imm 2 (f.Chars.map dc),.imm 3 (f.Lookups.map bv),.imm 2 (f.Features.map bE),.imm 4 [],.imm 1 [],.imm 1 (f.Funcs.map cV),.imm 1 (aO f.Cvt)]) ⟨cF.refl _,cF.refl _,cF.refl _,cF.refl _,cF.refl _,cF.nil 4,cF.nil 1,cF.refl _,cF.refl _,trivial⟩ hh) ?_
   refine fP (cs:=[.agg [aH f.Unit,.imm 9 (f.Glyphs.map bj),.imm 2 (f.Chars.map dc),.imm 3 (f.Lookups.map bv),.imm 2 (f.Features.map bE),.imm 4 [],.imm 1 [],.imm 1 (f.Funcs.map cV),.imm 1 (aO f.Cvt)],aH 0]) [] ?_ (List.nil_sublist _) rfl
   exact ⟨⟨_,1,_,_,rfl,rfl,.inr ⟨dR a7 rfl,rfl⟩⟩,rfl,trivial⟩
 ·simp only [if_neg hp]
  repeat' (first|refine ae ?_|refine a6 ?_|refine aq ?_|refine a8 ?_|refine aC ?_|refine aa ?_|refine LF a7 I9 ?_|(apply aK;first|refine LH 8 a7 0 LE ?_|refine LH 8 a7 1 LE ?_|refine LH 8 a7 2 LE ?_|refine LH 11 a7 0 LE ?_|refine LH 11 a7 1 LE ?_|refine LH 11 a7 2 LE ?_|refine LG a7 0 LD ?_|refine LG a7 1 LD ?_|refine LG a7 2 LD ?_|refine LG a7 3 LD ?_|fail)|refine bV rfl ?_)
  refine b6 (bq 0 (cs':=c6 tR) rfl fun σ vs hh=>ld.vrs (a:=[aH 0,.sc (.slice none 0 0),.sc (.slice none 0 0),.sc (.slice none 0 0),.sc (.slice none 0 0),.sc (.slice none 0 0),.sc (.slice none 0 0),.sc (.slice none 0 0),.sc (.slice none 0 0)]) (b:=c6 tR) ⟨cF.refl _,cF.nil 9,cF.nil 2,cF.nil 3,cF.nil 2,cF.nil 4,cF.nil 1,cF.nil 1,cF.nil 1,trivial⟩ hh) ?_
  refine fP (cs:=[cD tR,aH 1]) [] ?_ (List.nil_sublist _) rfl
  exact ⟨⟨_,0,_,_,rfl,rfl,.inr ⟨dR a7 rfl,rfl⟩⟩,rfl,trivial⟩
set_option maxRecDepth 8000
theorem IR:bH Tryz.prog 94 [.sc (.int .u64 0)] (aH 0):=by
 refine aP Tryz.func94 rfl Tryz.ntmps94 rfl fun B=>?_
 repeat' (first|refine ae ?_|refine a6 ?_|refine au ?_|refine a8 ?_|refine aa ?_|refine LF a7 I9 ?_|refine bk rfl ?_)
 refine mR a7 rfl rfl rfl rfl rfl rfl ?_
 repeat' (first|fail)
 refine cU (pE (c:=0) ⟨Tryz.underlying9⟩ rfl rfl (by decide) rfl) rfl rfl ?_
 repeat' (first|fail)
 refine mR a7 rfl rfl rfl rfl rfl rfl ?_
 rw [show IntKind.wrap .i64 (((0:UInt8).toNat:Nat):Int)=0 from rfl]
 repeat' (first|refine aq ?_|refine a8 ?_|refine aa ?_|refine LF a7 I9 ?_|(apply aY;refine aX ?_)|fail)
 exact LK LA
instance:AD Tryz.prog 94 [.sc (.int .u64 0)] (aH 0):=⟨IR⟩
theorem IQ:bH Tryz.prog 56 [.sc (.int .u64 0)] (aH 0):=by
 refine aP Tryz.func56 rfl Tryz.ntmps56 rfl fun B=>?_
 repeat' (first|refine ae ?_|refine a6 ?_|refine au ?_|refine aq ?_|refine a8 ?_|refine aa ?_|refine LF a7 I9 ?_|(apply bw;refine bi ?_)|refine bk rfl ?_)
 exact LK LA
instance:AD Tryz.prog 56 [.sc (.int .u64 0)] (aH 0):=⟨IQ⟩
theorem IM (a:Option Addr) (cap:Nat) (L:AL):AC Tryz.prog 84 [.sc (.slice a 0 cap),aH 0,aH 0] L fun _ L'=>L'=L:=by
 refine aP Tryz.func84 rfl Tryz.ntmps84 rfl fun B=>?_
 repeat' (first|refine ae ?_|refine a6 ?_|refine am ?_|refine a8 ?_|refine aa ?_|refine LF a7 I9 ?_|(apply aY;refine aX ?_)|fail)
 refine aJ [0,1,2] (α:=Unit) (fun _=>[(6,aH 1)]) (fun _=>True) (fun _=>L) (fun _=>0) () rfl ⟨rfl,trivial⟩ trivial (fun _ _ h=>h) fun _ _=>?_
 try dsimp only [Lp,Lo,Ln,Lh]
 repeat' (first|refine ae ?_|refine a6 ?_|refine aL ?_|refine a8 ?_|refine av ?_|refine aA ?_|refine aw ?_|refine aa ?_|refine LF a7 I9 ?_|refine bk rfl ?_)
 exact cX rfl rfl
theorem Jg (a:Option Addr) (cap:Nat) (L:AL):AC Tryz.prog 55 [.sc (.slice a 0 cap),aH 0,aH 0,aH 0] L fun _ L'=>L'=L:=by
 refine aP Tryz.func55 rfl Tryz.ntmps55 rfl fun B=>?_
 repeat' (first|refine ae ?_|refine a6 ?_|refine am ?_|refine a8 ?_|refine aa ?_|refine LF a7 I9 ?_)
 refine aJ [0] (α:=Unit) (fun _=>[(1,aH 0),(2,aH 0)]) (fun _=>True) (fun _=>L) (fun _=>0) () rfl ⟨rfl,rfl,trivial⟩ trivial (fun _ _ h=>h) fun _ _=>?_
 try dsimp only [Lp,Lo,Ln,Lh]
 repeat' (first|refine ae ?_|refine a6 ?_|refine am ?_|refine a8 ?_|refine aa ?_|refine LF a7 I9 ?_|(apply aY;refine aX ?_)|refine bV rfl ?_)
 refine bh L [] (IM a cap L) rfl rfl (by rw [List.append_nil]) rfl fun c L1 hL=>?_
 subst hL
 rw [List.append_nil]
 repeat' (first|refine aq ?_|refine a8 ?_|refine aC ?_|refine aQ ?_|refine bM ?_|refine aa ?_)
 exact tf rfl rfl
theorem DN (a:Option Addr) (cap:Nat) (L:AL):AC Tryz.prog 28 [.sc (.slice a 0 cap)] L fun _ L'=>L'=L:=by
 refine aP Tryz.func28 rfl Tryz.ntmps28 rfl fun B=>?_
 repeat' (first|refine ae ?_|refine a6 ?_|refine a8 ?_|refine aa ?_|refine LF a7 I9 ?_)
 refine mR a7 rfl rfl rfl rfl rfl rfl ?_
 rw [show IntKind.wrap .u64 ((0:Nat):Int)=0 from rfl]
 repeat' (first|(apply bw;refine bi ?_)|fail)
 refine bh L [] (Jg a cap L) rfl rfl (by rw [List.append_nil]) rfl fun c L1 hL=>?_
 subst hL
 rw [List.append_nil]
 repeat' (first|refine aa ?_)
 exact cX rfl rfl
section
open Go.Shelf Go.Sort
theorem vM (b cap:Nat) (l:List Int) (js:List Value) (w:World) (hl:l.length≤1000000) (hb:w.heap[b]?=some (.cells (l.map (Value.int .i64)++js).toArray 3 (0,0))):
  Calls Tryz.prog 28 #[.slice (some ⟨b,0,none⟩) l.length cap] w fun e w'=>e= .returned (.tuple #[])∧w.grownBy w' (some b)∧w'.heap[b]?=some (.cells ((fI l).map (Value.int .i64)++js).toArray 3 (0,0)):=by
 have hH:Holds (Value.int .i64) w b 0 l.toArray:=by
  intro j hj
  have hj':j < l.length:=by simpa using hj
  rw [Nat.zero_add,d4 hb,sx hb]
  refine ⟨?_,rfl⟩
  simp [hj',List.getElem?_append_left]
 have hlt:b < w.heap.size:=(Array.getElem?_eq_some_iff.1 hb).1
 have h:=calls_of_every_depth fun D=>AnyS.slices_Sort_int_alone Tryz.laysSort D b 0 cap l w hH hlt (by omega)
 refine Calls.mono h fun e w' ⟨he,q,os,hw⟩=>⟨he,?_⟩
 rw [Lib.sorted_world _ w b 0 q _ _ os hH (by simp),show (l.mergeSort fun x y=>decide (x≤y))=fI l from rfl] at hw
 have hb':(w.drewN q).heap[b]?=some (.cells (l.map (Value.int .i64)++js).toArray 3 (0,0)):=hb
 obtain ⟨hg,cs',hh,hs',hj⟩:=j6 b ((fI l).map (Value.int .i64)) 0 (w.drewN q) _ 3 (0,0) hb'
 have hgs:=hg.size
 subst hw
 refine ⟨⟨hg.os,hg.tape,hg.output,?_,fun k hk hkb=>?_⟩,?_⟩
 ·show w.heap.size≤(((w.drewN q).setCells b 0 ((fI l).map (Value.int .i64))).heap++os).size
  rw [Array.size_append]
  exact Nat.le_trans hgs (Nat.le_add_right _ _)
 ·show (((w.drewN q).setCells b 0 ((fI l).map (Value.int .i64))).heap++os)[k]?=_
  rw [Array.getElem?_append_left (Nat.lt_of_lt_of_le hk hgs)]
  exact hg.block k hk hkb
 ·show (((w.drewN q).setCells b 0 ((fI l).map (Value.int .i64))).heap++os)[b]?=_
  rw [Array.getElem?_append_left (Nat.lt_of_lt_of_le hlt hgs)]
  refine hh.trans ?_
  congr 2
  apply Array.ext_getElem?
  intro j
  rw [hj j]
  simp only [Lr,gL,List.size_toArray,List.getElem?_toArray,List.length_append]
  by_cases hjl:j < l.length
  ·rw [if_pos (by omega),List.getElem?_append_left (by simpa [gL] using hjl)];rfl
  ·rw [if_neg (by omega),List.getElem?_append_right (by simp;omega),List.getElem?_append_right (by simp [gL];omega)]
   simp [gL]
end
theorem vZ {σ:cf}:∀(l:List Int) (us:List Value),cT σ (l.map aH) us→us=l.map (Value.int .i64)
 | [],us,h=>h.nil_inv
 | z::l,us,h=>by
  obtain ⟨v,ws,rfl,h1,h2⟩:=h.inv
  rw [h1.sc_inv,vZ l ws h2]
  rfl
theorem Cv {σ:cf} (l:List Int):cT σ (l.map aH) (l.map (Value.int .i64)):=⟨by simp,fun i c u hc hu=>by
 rw [List.getElem?_map] at hc hu
 cases hz:l[i]? with
 | none=>rw [hz] at hc;cases hc
 | some z=>rw [hz] at hc hu;cases hc;cases hu;exact .sc _⟩
theorem DL (b cap:Nat) (l:List Int) (junk:List AV) (hl:l.length≤1000000):AC Tryz.prog 28 [.sc (.slice (some ⟨b,0,none⟩) l.length cap)] [(b,.box (l.map aH++junk) 3)] fun _ L=>L=[(b,.box ((fI l).map aH++junk) 3)]:=by
 intro σ w vs hv hst
 obtain ⟨v,ws,rfl,h1,h2⟩:=hv.inv
 rw [h2.nil_inv,h1.sc_inv]
 obtain ⟨o,ho,us,rfl,hus,hu1⟩:=hst.here _ (List.mem_cons_self ..)
 have e1:=vZ l (us.take l.length) (by
  have:=gt hus l.length
  rwa [List.take_left' (by simp)] at this)
 have e2:cT σ junk (us.drop l.length):=by
  have:=l8 hus l.length
  rwa [List.drop_left' (by simp)] at this
 have e3:us=l.map (Value.int .i64)++us.drop l.length:=by rw [←e1,List.take_append_drop]
 rw [e3] at ho
 refine (vM b cap l _ w hl ho).mono fun e w' ⟨he,hg,hh⟩=>⟨_,σ,.tup [],_,he,.tup [] [] rfl (fun i c u h=>by simp at h),?_,rfl⟩
 refine hst.put (fun _=>trivial) hg hh ⟨_,rfl,ei (Cv _) e2,fun u hu=>?_⟩
 rcases Lj hu with hu | hu
 ·obtain ⟨z,_,rfl⟩:=List.mem_map.1 hu
  rfl
 ·exact hu1 u (List.mem_of_mem_drop hu)
end Go.Proofs.YtamjlkdanllgjaaGreatDoor
namespace Go.Proofs.YtamjlkdanllgjaaGreatDoor
open Go.RowKit
attribute [local irreducible] AT bB AX AO Av Kt ba dt DA cz
set_option maxRecDepth 8000
abbrev Jo:ByteArray:=⟨#[105,115,111,108]⟩
abbrev Jn:ByteArray:=⟨#[105,110,105,116]⟩
abbrev Jp:ByteArray:=⟨#[109,101,100,105]⟩
abbrev Jm:ByteArray:=⟨#[102,105,110,97]⟩
def dN (s:ByteArray):Int:=if s=Jo then 1 else if s=Jn then 2 else if s=Jp then 3 else if s=Jm then 4 else 0
theorem uR (s:ByteArray):0≤dN s∧dN s≤4:=by unfold dN;split;decide;split;decide;split;decide;split <;> decide
theorem Hu (s:ByteArray):bH Tryz.prog 27 [rE s] (aH (dN s)):=by
 refine aP Tryz.func27 rfl Tryz.ntmps27 rfl fun B=>?_
 repeat' (first|refine ae ?_|refine a6 ?_|refine am ?_|refine a8 ?_|refine aa ?_|refine LF a7 I9 ?_)
 refine ay rfl (fun h1=>?_) (fun h1=>?_)
 ·repeat' (first|refine ae ?_|refine a6 ?_|refine aq ?_|refine a8 ?_|refine aC ?_|refine aQ ?_|refine aa ?_|refine LF a7 I9 ?_)
  exact LM I9 (by rw [dN,if_pos (Ly h1)])
 repeat' (first|refine ae ?_|refine a6 ?_|refine a8 ?_|refine aa ?_|refine LF a7 I9 ?_)
 refine ay rfl (fun h2=>?_) (fun h2=>?_)
 ·repeat' (first|refine ae ?_|refine a6 ?_|refine aq ?_|refine a8 ?_|refine aC ?_|refine aQ ?_|refine aa ?_|refine LF a7 I9 ?_)
  exact LM I9 (by rw [dN,if_neg (Lw h1),if_pos (Ly h2)])
 repeat' (first|refine ae ?_|refine a6 ?_|refine a8 ?_|refine aa ?_|refine LF a7 I9 ?_)
 refine ay rfl (fun h3=>?_) (fun h3=>?_)
 ·repeat' (first|refine ae ?_|refine a6 ?_|refine aq ?_|refine a8 ?_|refine aC ?_|refine aQ ?_|refine aa ?_|refine LF a7 I9 ?_)
  exact LM I9 (by rw [dN,if_neg (Lw h1),if_neg (Lw h2),if_pos (Ly h3)])
 repeat' (first|refine ae ?_|refine a6 ?_|refine a8 ?_|refine aa ?_|refine LF a7 I9 ?_)
 refine ay rfl (fun h4=>?_) (fun h4=>?_)
 ·repeat' (first|refine ae ?_|refine a6 ?_|refine aq ?_|refine a8 ?_|refine aC ?_|refine aQ ?_|refine aa ?_|refine LF a7 I9 ?_)
  exact LM I9 (by rw [dN,if_neg (Lw h1),if_neg (Lw h2),if_neg (Lw h3),if_pos (Ly h4)])
 repeat' (first|refine ae ?_|refine a6 ?_|refine au ?_|refine aq ?_|refine a8 ?_|refine aM ?_|refine aa ?_|refine LF a7 I9 ?_)
 exact LM I9 (by rw [dN,if_neg (Lw h1),if_neg (Lw h2),if_neg (Lw h3),if_neg (Lw h4)])
instance (s:ByteArray):AD Tryz.prog 27 [rE s] (aH (dN s)):=⟨Hu s⟩
def fv (bs:List Bool) (n:Nat):List Int:=((List.range n).filter fun k=>bs.getD k false && !bs.getD 0 false).map fun (k:Nat)=>(k:Int)
theorem xh (bs:List Bool) (n:Nat):fv bs (n+1)=fv bs n++(if bs.getD n false=true∧bs.getD 0 false=false then [(n:Int)] else []):=by
 unfold fv
 rw [List.range_succ,List.filter_append,List.map_append]
 congr 1
 by_cases h:bs.getD n false=true∧bs.getD 0 false=false
 ·rw [if_pos h,List.filter_cons,if_pos (by simp only [h.1,h.2];rfl)];rfl
 ·rw [if_neg h,List.filter_cons,if_neg (by intro hc;simp at hc;exact h (by simpa using hc))];rfl
theorem Aq (bs:List Bool) (n:Nat):(fv bs n).length≤n:=by
 unfold fv
 rw [Lr]
 exact Nat.le_trans (List.length_filter_le ..) (by simp)
theorem HX (b0 b1 b2 b3 b4:Bool):bH Tryz.prog 29 [.agg [cQ b0,cQ b1,cQ b2,cQ b3,cQ b4]] (.imm 1 (aO (fv [b0,b1,b2,b3,b4] 5))):=by
 refine aP Tryz.func29 rfl Tryz.ntmps29 rfl fun B=>?_
 repeat' (first|refine ae ?_|refine a6 ?_|refine am ?_|refine a8 ?_|refine aa ?_|refine LF a7 I9 ?_|refine bo ?_|fail)
 refine bK (bA (t:=3) rfl fun σ v h=>cC 1 h) ?_
 refine aJ [1,6] (α:=Nat×Option (Nat×Nat)) (fun s=>[(3,.vec s.2 1 (aO (fv [b0,b1,b2,b3,b4] s.1))),(7,aH s.1)]) (fun s=>s.1≤5) (fun s=>tok s.2 3 1 (fv [b0,b1,b2,b3,b4] s.1).length) (fun s=>5 - s.1) (0,none) rfl ⟨rfl,rfl,trivial⟩ (Nat.zero_le _) (fun _ _ h=>h) ?_
 rintro ⟨i,k⟩ hi
 dsimp only at hi ⊢
 have hln:=Aq [b0,b1,b2,b3,b4] i
 have hin:=aW (fv [b0,b1,b2,b3,b4] i)
 try dsimp only [Lp,Lo,Ln,Lh]
 repeat' (first|refine ae ?_|refine a6 ?_|refine a8 ?_|refine aa ?_|refine LF a7 I9 ?_)
 refine ay rfl (fun h=>?_) (fun h=>?_)
 ·have hi5:i < 5:=by have:=Ly h;omega
  obtain ⟨u,hu⟩:∃u,([b0,b1,b2,b3,b4]:List Bool)[i]?=some u:=⟨_,Lz hi5⟩
  have hug:([cQ b0,cQ b1,cQ b2,cQ b3,cQ b4]:List AV)[i]?=some (cQ u):=by
   have:([cQ b0,cQ b1,cQ b2,cQ b3,cQ b4]:List AV)=([b0,b1,b2,b3,b4]:List Bool).map fun b=>cQ b:=rfl
   rw [this,List.getElem?_map,hu]
   rfl
  have hsu:=xh [b0,b1,b2,b3,b4] i
  rw [List.getD_eq_getElem?_getD,hu] at hsu
  clear h
  repeat' (first|refine ae ?_|refine a6 ?_|refine am ?_|refine au ?_|refine a8 ?_|refine LF a7 I9 ?_)
  refine HK a7 i rfl rfl rfl rfl rfl hi5 hug rfl ?_
  cases u with
  | false=>
   rw [if_neg (by simp),List.append_nil] at hsu
   repeat' (first|refine ae ?_|refine a6 ?_|refine au ?_|refine a8 ?_|refine aM ?_|refine aa ?_|refine LF a7 I9 ?_|refine LO LB ?_|(apply aY;refine aX ?_)|refine bk rfl ?_)
   exact aE (i+1,k) rfl ⟨by rw [hsu];rfl,by rw [Ls];rfl,trivial⟩ (by dsimp only;omega) (by dsimp only;omega) (fun _ _ h=>by rw [hsu];exact h)
  | true=>
   repeat' (first|refine ae ?_|refine a6 ?_|refine a8 ?_|refine aa ?_|refine LF a7 I9 ?_|refine LN I9 ?_)
   refine Gu a7 0 ?_
   repeat' (first|refine a8 ?_|refine aa ?_|refine LF a7 I9 ?_|refine LN I9 ?_)
   cases b0 with
   | true=>
    rw [if_neg (by simp),List.append_nil] at hsu
    repeat' (first|refine a6 ?_|refine au ?_|refine a8 ?_|refine aM ?_|refine aa ?_|refine LF a7 I9 ?_|(apply aY;refine aX ?_)|refine bk rfl ?_)
    exact aE (i+1,k) rfl ⟨by rw [hsu];rfl,by rw [Ls];rfl,trivial⟩ (by dsimp only;omega) (by dsimp only;omega) (fun _ _ h=>by rw [hsu];exact h)
   | false=>
    rw [if_pos (by simp)] at hsu
    have hia:=qC (fv [false,b1,b2,b3,b4] i) [(i:Int)]
    rw [←hsu] at hia
    repeat' (first|refine a6 ?_|refine LF a7 I9 ?_|refine bS a7 ?_|refine bV rfl ?_)
    refine bP a7 [] rfl rfl rfl rfl (by rw [hin,List.append_nil]) (by rw [hin];simp;omega) (by rw [hin];simp;omega) rfl fun k'=>?_
    rw [show aO (fv [false,b1,b2,b3,b4] i)++[[AV.sc (.int .i64 (i:Int))]]=aO (fv [false,b1,b2,b3,b4] (i+1)) from hia,aW,List.append_nil]
    repeat' (first|refine a6 ?_|refine a8 ?_|refine aM ?_|refine aa ?_|refine LF a7 I9 ?_|(apply aY;refine aX ?_)|fail)
    exact aE (i+1,k') rfl ⟨rfl,by rw [Ls];rfl,trivial⟩ (by dsimp only;omega) (by dsimp only;omega) (fun _ _ h=>h)
 ·have hi5:i=5:=by have:=Lw h;omega
  subst hi5
  repeat' (first|refine ae ?_|refine a6 ?_|refine aq ?_|refine aL ?_|refine a8 ?_|refine av ?_|refine aA ?_|refine aw ?_|refine aa ?_|refine LF a7 I9 ?_)
  refine dW (List.nil_sublist _) ?_
  refine b6 (bA (t:=2) rfl fun σ v h=>h.im) ?_
  exact LK LA
end Go.Proofs.YtamjlkdanllgjaaGreatDoor
