/-
  The program's instances of fonts that do not vary: places, fonts.
-/
import Derived.Test.YtamjlkdanllgjaaGreatDoorM23
import Derived.Shelf.Slices.In.SortNone
import Derived.Shelf.Slices.In.SortAlone
import Derived.Ground.NamesProg
import Derived.Test.YtamjlkdanllgjaaGreatDoorProg
import Derived.Test.YtamjlkdanllgjaaGreatDoorM20
import Derived.Lib.SortBridge
import Derived.Test.YtamjlkdanllgjaaGreatDoorM12
import Derived.Test.YtamjlkdanllgjaaGreatDoorM13
import Derived.Test.YtamjlkdanllgjaaGreatDoorM14
namespace Go.Proofs.YtamjlkdanllgjaaGreatDoor
open Go.RowKit
attribute [local irreducible] AT bz AX AO Av Kt aZ cY DA cu
set_option maxRecDepth 8000
theorem Cz (e:Int):bD Tryz.prog 71 [.sc (.iface 52 (.int .i64 e))] (aF e):=by
 refine aI Tryz.func71 rfl Tryz.ntmps71 rfl fun B=>?_
 repeat' (first|refine ae ?_|refine a6 ?_|refine a8 ?_|refine aa ?_|refine LR a7 LL ?_)
 refine z6 (by kernel_rfl) rfl rfl ?_
 repeat' (first|refine ae ?_|refine a6 ?_|refine am ?_|refine a8 ?_|refine az ?_|refine aa ?_|refine LR a7 LL ?_|refine bI rfl ?_)
 exact LY LM
instance (e:Int):AD Tryz.prog 71 [.sc (.iface 52 (.int .i64 e))] (aF e):=⟨Cz e⟩
theorem Cj (ab eb:Nat) (L:AL):oO Tryz.prog 70 ([.pointer (some ⟨ab,0,none⟩),.pointer (some ⟨eb,0,none⟩)].map .sc) L .returning .returning L:=by
 refine vF Tryz.func70 rfl Tryz.ntmps70 rfl rfl rfl rfl uB fun B=>?_
 repeat' (first|refine ae ?_|refine a6 ?_|refine LR a7 LL ?_)
 refine wh false ⟨_,Tryz.underlying20⟩ rfl (.inl ⟨rfl,rfl⟩) rfl ?_
 repeat' (first|refine aq ?_|refine a8 ?_|refine aa ?_|refine bo rfl ?_)
 exact vn (List.Sublist.refl _)
theorem zb (ab eb:Nat) (e:Int):oO Tryz.prog 70 ([.pointer (some ⟨ab,0,none⟩),.pointer (some ⟨eb,0,none⟩)].map .sc) [(eb,.box [aF 0] 52),(ab,.box [.sc (.slice none 0 0)] 113)] (.panicking [{ v:= .iface 52 (.int .i64 e),recovered:=false }]) (.panicking [{ v:= .iface 52 (.int .i64 e),recovered:=true }]) [(eb,.box [aF e] 52),(ab,.box [.sc (.slice none 0 0)] 113)]:=by
 refine vF Tryz.func70 rfl Tryz.ntmps70 rfl rfl rfl rfl CA fun B=>?_
 repeat' (first|refine ae ?_|refine a6 ?_|refine LR a7 LL ?_)
 refine wh true ⟨_,Tryz.underlying20⟩ rfl (.inr ⟨⟨_,_,rfl⟩,rfl⟩) rfl ?_
 repeat' (first|refine a6 ?_|refine a8 ?_|refine aa ?_|refine LR a7 LL ?_|(apply aU;first|refine LU a7 0 LP ?_|refine LU a7 1 LP ?_|refine LU a7 2 LP ?_|refine LU a7 3 LP ?_|fail)|(apply bk;refine b9 ?_)|refine bI rfl ?_)
 exact vn (List.Sublist.refl _)
theorem Ci (f:aS) (hf:f.Axes=[]) (place:List Int):bD Tryz.prog 44 [cD f,.imm 1 (aT place)] (.tup [.sc (.slice none 0 0),aF (if place=[] then 0 else 1)]):=by
 refine oU Tryz.func44 rfl Tryz.ntmps44 rfl fun B=>?_
 refine cF 1 rfl rfl fun hpl=>?_
 have hpn:=b7 place
 repeat' (first|refine ae ?_|refine a6 ?_|refine a8 ?_|refine aa ?_|refine LR a7 LL ?_|refine bi ?_|refine bf a7 fun _=>?_|fail)
 refine xA [.pointer (some ⟨_,0,none⟩),.pointer (some ⟨_,0,none⟩)] rfl ?_
 repeat' (first|refine ae ?_|refine a6 ?_|refine a8 ?_|refine aa ?_|refine LR a7 LL ?_)
 rename_i ab eb
 rw [hf]
 by_cases hp:place=[]
 ·subst hp
  repeat' (first|refine ae ?_|refine a6 ?_|refine ar ?_|refine aq ?_|refine a8 ?_|refine aa ?_|refine LR a7 LL ?_|refine bo rfl ?_)
  refine aN [2,4,5,16,17] (α:=Unit) (fun _=>[(18,aF 0)]) (fun _=>True) (fun _=>[(eb,.box [aF 0] 52),(ab,.box [.sc (.slice none 0 0)] 113)]) (fun _=>0) () rfl ⟨rfl,trivial⟩ trivial (fun _ _ h=>h) fun _ _=>?_
  try dsimp only [Mt,Ms,Mr,Mn]
  repeat' (first|refine ae ?_|refine a6 ?_|refine am ?_|refine aO ?_|refine a8 ?_|refine av ?_|refine aC ?_|refine aA ?_|refine aa ?_|refine LR a7 LL ?_|(apply bL;first|refine LV a7 0 LO ?_|refine LV a7 1 LO ?_|refine LV a7 2 LO ?_|refine LV a7 3 LO ?_|refine LW a7 0 LO ?_|refine LW a7 1 LO ?_|refine LW a7 2 LO ?_|refine LZ a7 1 LM (by assumption) rfl ?_|refine LZ a7 0 LM (by assumption) rfl ?_|fail)|(apply aU;first|refine LU a7 0 LP ?_|refine LU a7 1 LP ?_|refine LU a7 2 LP ?_|refine LU a7 3 LP ?_|fail)|refine bo rfl ?_)
  refine x3 (cs:=[.sc (.slice none 0 0),aF 0]) [] _ [] [] (Cj ab eb []) (Mp _) ?_ (List.nil_sublist _) rfl
  exact ⟨⟨_,1,_,_,rfl,rfl,.inl ⟨ck a7 rfl,rfl⟩⟩,⟨_,0,_,_,rfl,rfl,.inl ⟨ck a7 rfl,rfl⟩⟩,trivial⟩
 ·have h0:0 < place.length:=List.length_pos_iff.2 hp
  refine aB rfl (fun _=>?_) (fun h=>?_)
  ·repeat' (first|refine a6 ?_)
   refine kG (by kernel_rfl) rfl rfl ?_
   repeat' (first|fail)
   refine EY rfl ?_
   refine qA ?_
   rw [if_neg hp]
   refine yd (cs:=[.sc (.slice none 0 0),aF 1]) _ [] _ [] (zb ab eb 1) (List.Perm.of_eq (List.append_nil _).symm) ?_ (List.nil_sublist _) rfl
   exact ⟨⟨_,1,_,_,rfl,rfl,.inl ⟨ck a7 rfl,rfl⟩⟩,⟨_,0,_,_,rfl,rfl,.inl ⟨ck a7 rfl,rfl⟩⟩,trivial⟩
  ·have h1:=Decidable.not_not.1 (My h)
   have h2:(List.map fx []).length=0:=rfl
   exfalso
   omega
structure Dv (f:aS):Prop where
 axes:f.Axes=[]
 regions:f.Regions=[]
 deltas:∀g∈f.Glyphs,g.Deltas=[]
 glyphs:f.Glyphs.length≤1000000∧∀g∈f.Glyphs,Gc g
 chars:f.Chars.length≤1000000
 looks:f.Lookups.length≤1000000∧∀q∈f.Lookups,q.Rules.length≤1000000∧∀r∈q.Rules,Gg r
 feats:f.Features.length≤1000000∧∀q∈f.Features,q.Lookups.length≤1000000
 funcs:f.Funcs.length≤1000000∧∀q∈f.Funcs,q.length≤1000000
 cvt:f.Cvt.length≤1000000
abbrev L3:List AV:=[mP ⟨#[]⟩,aF 0,cw false,jx,jx,jx,jx,jx,jx]
def sK:aS:=⟨0,[],[],[],[],[],[],[],[]⟩
set_option maxHeartbeats 8000000 in
theorem H1 (f:aS) (hf:Dv f) (place:List Int):bD Tryz.prog 23 [cD f,.imm 1 (aT place)] (.tup [cD (if place=[] then f else sK),aF (if place=[] then 0 else 1)]):=by
 refine aI Tryz.func23 rfl Tryz.ntmps23 rfl fun B=>?_
 haveI i0:=AD.mk (Ci f hf.axes place)
 have hgl:(f.Glyphs.map bK).length=f.Glyphs.length:=Mv ..
 repeat' (first|refine ae ?_|refine a6 ?_|refine a8 ?_|refine aa ?_|refine LR a7 LL ?_|refine bi ?_|refine bf a7 fun _=>?_|(apply bk;refine b9 ?_)|fail)
 by_cases hp:place=[]
 ·simp only [if_pos hp]
  repeat' (first|refine ae ?_|refine a6 ?_|refine aq ?_|refine a8 ?_|refine LR a7 LL ?_|refine bo rfl ?_)
  refine dJ (.int .i64) fun mb=>?_
  repeat' (first|refine ae ?_|refine a6 ?_|refine a8 ?_|refine aa ?_|refine LR a7 LL ?_|(apply aU;first|refine LT 8 a7 0 LQ ?_|refine LT 8 a7 1 LQ ?_|refine LT 8 a7 2 LQ ?_|refine LT 11 a7 0 LQ ?_|refine LT 11 a7 1 LQ ?_|refine LT 11 a7 2 LQ ?_|refine LU a7 0 LP ?_|refine LU a7 1 LP ?_|refine LU a7 2 LP ?_|refine LU a7 3 LP ?_|fail)|refine bf a7 fun _=>?_|fail)
  refine dS a7 f.Glyphs.length rfl rfl rfl rfl rfl (by rw [hgl]) (by rw [hgl]) (by have:=hf.glyphs.1;omega) (by have:=hf.glyphs.1;omega) rfl fun gb=>?_
  rw [show (List.replicate f.Glyphs.length (List.map AV.sc _)).flatten=ep bK L3 f.Glyphs 0 from ii _ _ _]
  repeat' (first|refine ae ?_|refine a6 ?_|refine ar ?_|refine a8 ?_|refine aa ?_|refine LR a7 LL ?_)
  rename_i tb _
  refine aN [2,4,8,9,31,32] (α:=Nat) (fun i=>[(33,aF i)]) (fun i=>i≤f.Glyphs.length) (fun i=>[(gb,.box (ep bK L3 f.Glyphs i) 67),(mb,bV (.int .i64) fun _=>none),(tb,.box ([.int .i64 0,.slice none 0 0,.slice none 0 0,.slice none 0 0,.slice none 0 0,.slice none 0 0,.slice none 0 0,.slice none 0 0,.slice none 0 0].map AV.sc) 36)]) (fun i=>f.Glyphs.length - i) 0 rfl ⟨rfl,trivial⟩ (Nat.zero_le _) (fun _ _ h=>h) fun i hi=>?_
  try dsimp only [Mt,Ms,Mr,Mn]
  repeat' (first|refine ae ?_|refine a6 ?_|refine a8 ?_|refine aa ?_|refine LR a7 LL ?_)
  refine aB rfl (fun h=>?_) (fun h=>?_)
  ·have hil:i < f.Glyphs.length:=by have:=Mz h;omega
   obtain ⟨z,hz⟩:∃z,f.Glyphs[i]?=some z:=⟨_,Ia hil⟩
   have hzg:=c6 (c:=bK) hz
   have hzm:=Mx hz
   have hg45:=EF f (.sc (.slice none 0 0)) (.sc (.map (some mb))) z (hf.glyphs.2 z hzm) (hf.deltas z hzm)
   have hst:ki z=z:=by
    have:=hf.deltas z hzm
    unfold ki
    cases z
    simp at this
    rw [this]
   rw [hst] at hg45
   have hb:=hf.glyphs.1
   clear h
   repeat' (first|refine ae ?_|refine a6 ?_|refine ar ?_|refine aq ?_|refine a8 ?_|refine aa ?_|refine LR a7 LL ?_|(apply aL;first|refine aK a7 ?_|refine aH a7 ?_)|(apply aU;first|refine LT 8 a7 0 LQ ?_|refine LT 8 a7 1 LQ ?_|refine LT 8 a7 2 LQ ?_|refine LT 11 a7 0 LQ ?_|refine LT 11 a7 1 LQ ?_|refine LT 11 a7 2 LQ ?_|refine LU a7 0 LP ?_|refine LU a7 1 LP ?_|refine LU a7 2 LP ?_|refine LU a7 3 LP ?_|fail)|refine bf a7 fun _=>?_|fail)
   refine b9 (hc:=⟨hg45⟩) ?_
   repeat' (first|refine LR a7 LL ?_|(apply aL;first|refine aK a7 ?_|refine aH a7 ?_)|fail)
   refine ml (n:=9) (ys:=bK z) a7 0 (i * 9) rfl rfl (by omega) rfl rfl rfl rfl (by rw [jl (sz:=9) (fun _=>rfl) rfl _ hi];omega) ?_
   rw [jm (sz:=9) (fun _=>rfl) rfl hz]
   repeat' (first|refine ae ?_|refine a6 ?_|refine aq ?_|refine a8 ?_|refine aP ?_|refine aa ?_|refine LR a7 LL ?_|(apply aY;refine aX ?_)|refine bo rfl ?_)
   exact aE (i+1) rfl ⟨by rw [Mw];rfl,trivial⟩ hil (by omega) (fun _ _ h=>h)
  ·have hil:i=f.Glyphs.length:=by have:=My h;omega
   subst hil
   clear h
   rw [jk]
   have hb:=hf.glyphs.1
   have hfl:((f.Glyphs.map bK).flatten).length=f.Glyphs.length * 9:=by rw [bM (sz:=9) (fun e he=>by obtain ⟨y,_,rfl⟩:=List.mem_map.1 he;rfl),hgl]
   refine cm (cP (t:=9) (sz:=9) (l:=f.Glyphs.map bK) 0 rfl rfl (List.take_of_length_le (by omega)) (by omega) (fun q hq=>by obtain ⟨y,_,rfl⟩:=List.mem_map.1 hq;rfl) hgl (Nat.le_refl _) (by unfold maxLen;omega)) ?_
   haveI i1:=AD.mk (Jo (f.Chars.map eE) (fun q hq=>by obtain ⟨y,_,rfl⟩:=List.mem_map.1 hq;rfl) (by rw [Mv];exact hf.chars))
   haveI i2:=AD.mk (ER f.Lookups hf.looks.1 hf.looks.2)
   haveI i3:=AD.mk (Ev f.Features hf.feats.1 hf.feats.2)
   haveI i4:=AD.mk (HT f.Funcs hf.funcs.1 hf.funcs.2)
   haveI i5:=AD.mk (uE (aT f.Cvt) (fun q hq=>by obtain ⟨y,_,rfl⟩:=List.mem_map.1 hq;rfl) (by rw [b7];exact hf.cvt))
   repeat' (first|refine ae ?_|refine aO ?_|refine a8 ?_|refine av ?_|refine aC ?_|refine aA ?_)
   refine bB 18 [(0,.v),(1,.v),(2,.v),(3,.v),(4,.v),(5,.v),(6,.v),(7,.v),(8,.v),(9,.v),(10,.v),(11,.v),(12,.v),(13,.v),(14,.v),(15,.v),(16,.v),(17,.v)] none ?_ trivial rfl (by kernel_rfl) (by kernel_rfl) (by kernel_rfl) mixed (by kernel_rfl) rfl
   repeat' (first|refine aJ ?_|refine bw a7 ?_|(apply cM;refine dc ?_)|fail)
   refine MG [4,53,54,57,60,63,66,69] LL ?_
   repeat' (first|refine am ?_|refine a8 ?_|refine aa ?_|refine LR a7 LL ?_|(apply aU;first|refine LT 8 a7 0 LQ ?_|refine LT 8 a7 1 LQ ?_|refine LT 8 a7 2 LQ ?_|refine LT 11 a7 0 LQ ?_|refine LT 11 a7 1 LQ ?_|refine LT 11 a7 2 LQ ?_|refine LU a7 0 LP ?_|refine LU a7 1 LP ?_|refine LU a7 2 LP ?_|refine LU a7 3 LP ?_|fail))
   have hfa:bY f=[aF f.Unit,.imm 9 (f.Glyphs.map bK),.imm 2 (f.Chars.map eE),.imm 3 (f.Lookups.map bA),.imm 2 (f.Features.map bJ),.imm 4 [],.imm 1 [],.imm 1 (f.Funcs.map fy),.imm 1 (aT f.Cvt)]:=by
    unfold bY
    rw [hf.axes,hf.regions]
    rfl
   rw [show cD f= .agg (bY f) from rfl,hfa]
   refine br (dT 1 (cs':=[aF f.Unit,.imm 9 (f.Glyphs.map bK),.imm 2 (f.Chars.map eE),.imm 3 (f.Lookups.map bA),.imm 2 (f.Features.map bJ),.imm 4 [],.imm 1 [],.imm 1 (f.Funcs.map fy),.imm 1 (aT f.Cvt)]) rfl fun σ vs hh=>mQ.vrs (a:=[aF f.Unit,.imm 9 (f.Glyphs.map bK),.imm 2 (f.Chars.map eE),.imm 3 (f.Lookups.map bA),.imm 2 (f.Features.map bJ),.sc (.slice none 0 0),.sc (.slice none 0 0),.imm 1 (f.Funcs.map fy),.imm 1 (aT f.Cvt)]) (b:=[aF f.Unit,.imm 9 (f.Glyphs.map bK),.imm 2 (f.Chars.map eE),.imm 3 (f.Lookups.map bA),.imm 2 (f.Features.map bJ),.imm 4 [],.imm 1 [],.imm 1 (f.Funcs.map fy),.imm 1 (aT f.Cvt)]) ⟨d4.refl _,d4.refl _,d4.refl _,d4.refl _,d4.refl _,d4.nil 4,d4.nil 1,d4.refl _,d4.refl _,trivial⟩ hh) ?_
   refine ff (cs:=[.agg [aF f.Unit,.imm 9 (f.Glyphs.map bK),.imm 2 (f.Chars.map eE),.imm 3 (f.Lookups.map bA),.imm 2 (f.Features.map bJ),.imm 4 [],.imm 1 [],.imm 1 (f.Funcs.map fy),.imm 1 (aT f.Cvt)],aF 0]) [] ?_ (List.nil_sublist _) rfl
   exact ⟨⟨_,1,_,_,rfl,rfl,.inr ⟨dL a7 rfl,rfl⟩⟩,rfl,trivial⟩
 ·simp only [if_neg hp]
  repeat' (first|refine ae ?_|refine a6 ?_|refine am ?_|refine a8 ?_|refine az ?_|refine aa ?_|refine LR a7 LL ?_|(apply aU;first|refine LT 8 a7 0 LQ ?_|refine LT 8 a7 1 LQ ?_|refine LT 8 a7 2 LQ ?_|refine LT 11 a7 0 LQ ?_|refine LT 11 a7 1 LQ ?_|refine LT 11 a7 2 LQ ?_|refine LU a7 0 LP ?_|refine LU a7 1 LP ?_|refine LU a7 2 LP ?_|refine LU a7 3 LP ?_|fail)|refine bI rfl ?_)
  refine br (dT 0 (cs':=bY sK) rfl fun σ vs hh=>mQ.vrs (a:=[aF 0,.sc (.slice none 0 0),.sc (.slice none 0 0),.sc (.slice none 0 0),.sc (.slice none 0 0),.sc (.slice none 0 0),.sc (.slice none 0 0),.sc (.slice none 0 0),.sc (.slice none 0 0)]) (b:=bY sK) ⟨d4.refl _,d4.nil 9,d4.nil 2,d4.nil 3,d4.nil 2,d4.nil 4,d4.nil 1,d4.nil 1,d4.nil 1,trivial⟩ hh) ?_
  refine ff (cs:=[cD sK,aF 1]) [] ?_ (List.nil_sublist _) rfl
  exact ⟨⟨_,0,_,_,rfl,rfl,.inr ⟨dL a7 rfl,rfl⟩⟩,rfl,trivial⟩
end Go.Proofs.YtamjlkdanllgjaaGreatDoor
namespace Go.Proofs
open Go.Shelf
def Tryz.laysSort_ren:Go.Shelf.Ren:=⟨fun | 189=>28 | 125=>56 | 257=>55 | 128=>93 | 129=>94 | 294=>84 | 295=>85 | 296=>86 | 297=>87 | 298=>88 | 299=>89 | 216=>90 | 300=>91 | 301=>92 | 328=>165 | 329=>166 | 330=>167 | 331=>168 | 332=>169 | 215=>148 | 343=>242 | n=>n,fun | 28=>22 | 3=>3 | 46=>141 | 0=>0 | 51=>192 | 53=>194 | 4=>4 | 183=>186 | 182=>185 | 131=>97 | 5=>5 | 9=>9 | 218=>282 | 222=>286 | 228=>350 | 229=>351 | n=>n,fun | n=>n⟩
theorem Tryz.laysSort:Go.Proofs.Lays.n189 Tryz.prog Tryz.laysSort_ren:={
 mixed:=by kernel_rfl
 f125:=Tryz.func56.trans (congrArg some (by kernel_rfl))
 f128:=Tryz.func93.trans (congrArg some (by kernel_rfl))
 f129:=Tryz.func94.trans (congrArg some (by kernel_rfl))
 f189:=Tryz.func28.trans (congrArg some (by kernel_rfl))
 f215:=Tryz.func148.trans (congrArg some (by kernel_rfl))
 f216:=Tryz.func90.trans (congrArg some (by kernel_rfl))
 f257:=Tryz.func55.trans (congrArg some (by kernel_rfl))
 f294:=Tryz.func84.trans (congrArg some (by kernel_rfl))
 f295:=Tryz.func85.trans (congrArg some (by kernel_rfl))
 f296:=Tryz.func86.trans (congrArg some (by kernel_rfl))
 f297:=Tryz.func87.trans (congrArg some (by kernel_rfl))
 f298:=Tryz.func88.trans (congrArg some (by kernel_rfl))
 f299:=Tryz.func89.trans (congrArg some (by kernel_rfl))
 f300:=Tryz.func91.trans (congrArg some (by kernel_rfl))
 f301:=Tryz.func92.trans (congrArg some (by kernel_rfl))
 f328:=Tryz.func165.trans (congrArg some (by kernel_rfl))
 f329:=Tryz.func166.trans (congrArg some (by kernel_rfl))
 f330:=Tryz.func167.trans (congrArg some (by kernel_rfl))
 f331:=Tryz.func168.trans (congrArg some (by kernel_rfl))
 f332:=Tryz.func169.trans (congrArg some (by kernel_rfl))
 f343:=Tryz.func242.trans (congrArg some (by kernel_rfl))
 t0:=Tryz.underlying0
 a0:=Tryz.isAgg0
 z0:=Tryz.sizeOf0
 v0:=Tryz.zeroValue0
 t3:=Tryz.underlying3
 a3:=Tryz.isAgg3
 z3:=Tryz.sizeOf3
 v3:=Tryz.zeroValue3
 t4:=Tryz.underlying4
 a4:=Tryz.isAgg4
 z4:=Tryz.sizeOf4
 v4:=Tryz.zeroValue4
 t5:=Tryz.underlying5
 a5:=Tryz.isAgg5
 z5:=Tryz.sizeOf5
 v5:=Tryz.zeroValue5
 t9:=Tryz.underlying9
 a9:=Tryz.isAgg9
 z9:=Tryz.sizeOf9
 v9:=Tryz.zeroValue9
 t28:=Tryz.underlying22
 a28:=Tryz.isAgg22
 z28:=Tryz.sizeOf22
 v28:=Tryz.zeroValue22
 t46:=Tryz.underlying141
 a46:=Tryz.isAgg141
 z46:=Tryz.sizeOf141
 v46:=Tryz.zeroValue141
 t51:=Tryz.underlying192
 a51:=Tryz.isAgg192
 z51:=Tryz.sizeOf192
 v51:=Tryz.zeroValue192
 t53:=Tryz.underlying194
 a53:=Tryz.isAgg194
 z53:=Tryz.sizeOf194
 v53:=Tryz.zeroValue194
 t131:=Tryz.underlying97
 a131:=Tryz.isAgg97
 z131:=Tryz.sizeOf97
 v131:=Tryz.zeroValue97
 t182:=Tryz.underlying185
 a182:=Tryz.isAgg185
 z182:=Tryz.sizeOf185
 v182:=Tryz.zeroValue185
 t183:=Tryz.underlying186
 a183:=Tryz.isAgg186
 z183:=Tryz.sizeOf186
 v183:=Tryz.zeroValue186
 t218:=Tryz.underlying282
 a218:=Tryz.isAgg282
 z218:=Tryz.sizeOf282
 v218:=Tryz.zeroValue282
 t222:=Tryz.underlying286
 a222:=Tryz.isAgg286
 z222:=Tryz.sizeOf286
 v222:=Tryz.zeroValue286
 t228:=Tryz.underlying350
 a228:=Tryz.isAgg350
 z228:=Tryz.sizeOf350
 v228:=Tryz.zeroValue350
 t229:=Tryz.underlying351
 a229:=Tryz.isAgg351
 z229:=Tryz.sizeOf351
 v229:=Tryz.zeroValue351 }
end Go.Proofs
namespace Go.Proofs.YtamjlkdanllgjaaGreatDoor
open Go.RowKit Go.Shelf Go.Sort
def f6 (l:List Int):List Int:=l.mergeSort fun x y=>decide (x≤y)
theorem gj (l:List Int):(f6 l).length=l.length:=by simp [f6]
end Go.Proofs.YtamjlkdanllgjaaGreatDoor
namespace Go.Proofs.YtamjlkdanllgjaaGreatDoor
open Go.RowKit
attribute [local irreducible] AT bz AX AO Av Kt aZ cY DA cu
set_option maxRecDepth 8000
theorem IZ:bD Tryz.prog 94 [.sc (.int .u64 0)] (aF 0):=by
 refine aI Tryz.func94 rfl Tryz.ntmps94 rfl fun B=>?_
 repeat' (first|refine ae ?_|refine a6 ?_|refine aq ?_|refine a8 ?_|refine aa ?_|refine LR a7 LL ?_|refine bo rfl ?_)
 refine kF a7 rfl rfl rfl rfl rfl rfl ?_
 repeat' (first|fail)
 refine c5 (oT (c:=0) ⟨Tryz.underlying9⟩ rfl rfl (by decide) rfl) rfl rfl ?_
 repeat' (first|fail)
 refine kF a7 rfl rfl rfl rfl rfl rfl ?_
 rw [show IntKind.wrap .i64 (((0:UInt8).toNat:Nat):Int)=0 from rfl]
 repeat' (first|refine am ?_|refine a8 ?_|refine aa ?_|refine LR a7 LL ?_|(apply aY;refine aX ?_)|fail)
 exact LY LM
instance:AD Tryz.prog 94 [.sc (.int .u64 0)] (aF 0):=⟨IZ⟩
theorem IY:bD Tryz.prog 56 [.sc (.int .u64 0)] (aF 0):=by
 refine aI Tryz.func56 rfl Tryz.ntmps56 rfl fun B=>?_
 repeat' (first|refine ae ?_|refine a6 ?_|refine aq ?_|refine am ?_|refine a8 ?_|refine aa ?_|refine LR a7 LL ?_|(apply bk;refine b9 ?_)|refine bo rfl ?_)
 exact LY LM
instance:AD Tryz.prog 56 [.sc (.int .u64 0)] (aF 0):=⟨IY⟩
theorem IU (a:Option Addr) (cap:Nat) (L:AL):AC Tryz.prog 84 [.sc (.slice a 0 cap),aF 0,aF 0] L fun _ L'=>L'=L:=by
 refine aI Tryz.func84 rfl Tryz.ntmps84 rfl fun B=>?_
 repeat' (first|refine ae ?_|refine a6 ?_|refine ar ?_|refine a8 ?_|refine aa ?_|refine LR a7 LL ?_|(apply aY;refine aX ?_)|fail)
 refine aN [0,1,2] (α:=Unit) (fun _=>[(6,aF 1)]) (fun _=>True) (fun _=>L) (fun _=>0) () rfl ⟨rfl,trivial⟩ trivial (fun _ _ h=>h) fun _ _=>?_
 try dsimp only [Mt,Ms,Mr,Mn]
 repeat' (first|refine ae ?_|refine a6 ?_|refine aO ?_|refine a8 ?_|refine av ?_|refine aC ?_|refine aA ?_|refine aa ?_|refine LR a7 LL ?_|refine bo rfl ?_)
 exact bT rfl rfl
theorem Jl (a:Option Addr) (cap:Nat) (L:AL):AC Tryz.prog 55 [.sc (.slice a 0 cap),aF 0,aF 0,aF 0] L fun _ L'=>L'=L:=by
 refine aI Tryz.func55 rfl Tryz.ntmps55 rfl fun B=>?_
 repeat' (first|refine ae ?_|refine a6 ?_|refine ar ?_|refine a8 ?_|refine aa ?_|refine LR a7 LL ?_)
 refine aN [0] (α:=Unit) (fun _=>[(1,aF 0),(2,aF 0)]) (fun _=>True) (fun _=>L) (fun _=>0) () rfl ⟨rfl,rfl,trivial⟩ trivial (fun _ _ h=>h) fun _ _=>?_
 try dsimp only [Mt,Ms,Mr,Mn]
 repeat' (first|refine ae ?_|refine a6 ?_|refine ar ?_|refine a8 ?_|refine aa ?_|refine LR a7 LL ?_|(apply aY;refine aX ?_)|refine bI rfl ?_)
 refine aW L [] (IU a cap L) rfl rfl (by rw [List.append_nil]) rfl fun c L1 hL=>?_
 subst hL
 rw [List.append_nil]
 repeat' (first|refine am ?_|refine a8 ?_|refine az ?_|refine aR ?_|refine bF ?_|refine aa ?_)
 exact kr rfl rfl
theorem D6 (a:Option Addr) (cap:Nat) (L:AL):AC Tryz.prog 28 [.sc (.slice a 0 cap)] L fun _ L'=>L'=L:=by
 refine aI Tryz.func28 rfl Tryz.ntmps28 rfl fun B=>?_
 repeat' (first|refine ae ?_|refine a6 ?_|refine a8 ?_|refine aa ?_|refine LR a7 LL ?_)
 refine kF a7 rfl rfl rfl rfl rfl rfl ?_
 rw [show IntKind.wrap .u64 ((0:Nat):Int)=0 from rfl]
 repeat' (first|(apply bk;refine b9 ?_)|fail)
 refine aW L [] (Jl a cap L) rfl rfl (by rw [List.append_nil]) rfl fun c L1 hL=>?_
 subst hL
 rw [List.append_nil]
 repeat' (first|refine aa ?_)
 exact bT rfl rfl
section
open Go.Shelf Go.Sort
theorem uK (b cap:Nat) (l:List Int) (js:List Value) (w:World) (hl:l.length≤1000000) (hb:w.heap[b]?=some (.cells (l.map (Value.int .i64)++js).toArray 3 (0,0))):
  Calls Tryz.prog 28 #[.slice (some ⟨b,0,none⟩) l.length cap] w fun e w'=>e= .returned (.tuple #[])∧w.grownBy w' (some b)∧w'.heap[b]?=some (.cells ((f6 l).map (Value.int .i64)++js).toArray 3 (0,0)):=by
 have hH:Holds (Value.int .i64) w b 0 l.toArray:=by
  intro j hj
  have hj':j < l.length:=by simpa using hj
  rw [Nat.zero_add,cI hb,ng hb]
  refine ⟨?_,rfl⟩
  simp [hj',List.getElem?_append_left]
 have hlt:b < w.heap.size:=(Array.getElem?_eq_some_iff.1 hb).1
 have h:=calls_of_every_depth fun D=>AnyS.slices_Sort_int_alone Tryz.laysSort D b 0 cap l w hH hlt (by omega)
 refine Calls.mono h fun e w' ⟨he,q,os,hw⟩=>⟨he,?_⟩
 rw [Lib.sorted_world _ w b 0 q _ _ os hH (by simp),show (l.mergeSort fun x y=>decide (x≤y))=f6 l from rfl] at hw
 have hb':(w.drewN q).heap[b]?=some (.cells (l.map (Value.int .i64)++js).toArray 3 (0,0)):=hb
 obtain ⟨hg,cs',hh,hs',hj⟩:=gr b ((f6 l).map (Value.int .i64)) 0 (w.drewN q) _ 3 (0,0) hb'
 have hgs:=hg.size
 subst hw
 refine ⟨⟨hg.os,hg.tape,hg.output,?_,fun k hk hkb=>?_⟩,?_⟩
 ·show w.heap.size≤(((w.drewN q).setCells b 0 ((f6 l).map (Value.int .i64))).heap++os).size
  rw [Array.size_append]
  exact Nat.le_trans hgs (Nat.le_add_right _ _)
 ·show (((w.drewN q).setCells b 0 ((f6 l).map (Value.int .i64))).heap++os)[k]?=_
  rw [Array.getElem?_append_left (Nat.lt_of_lt_of_le hk hgs)]
  exact hg.block k hk hkb
 ·show (((w.drewN q).setCells b 0 ((f6 l).map (Value.int .i64))).heap++os)[b]?=_
  rw [Array.getElem?_append_left (Nat.lt_of_lt_of_le hlt hgs)]
  refine hh.trans ?_
  congr 2
  apply Array.ext_getElem?
  intro j
  rw [hj j]
  simp only [Mv,gj,List.size_toArray,List.getElem?_toArray,List.length_append]
  by_cases hjl:j < l.length
  ·rw [if_pos (by omega),List.getElem?_append_left (by simpa [gj] using hjl)];rfl
  ·rw [if_neg (by omega),List.getElem?_append_right (by simp;omega),List.getElem?_append_right (by simp [gj];omega)]
   simp [gj]
end
theorem uW {σ:bW}:∀(l:List Int) (us:List Value),cR σ (l.map aF) us→us=l.map (Value.int .i64)
 | [],us,h=>h.nil_inv
 | z::l,us,h=>by
  obtain ⟨v,ws,rfl,h1,h2⟩:=h.inv
  rw [h1.sc_inv,uW l ws h2]
  rfl
theorem BJ {σ:bW} (l:List Int):cR σ (l.map aF) (l.map (Value.int .i64)):=⟨by simp,fun i c u hc hu=>by
 rw [List.getElem?_map] at hc hu
 cases hz:l[i]? with
 | none=>rw [hz] at hc;cases hc
 | some z=>rw [hz] at hc hu;cases hc;cases hu;exact .sc _⟩
theorem D5 (b cap:Nat) (l:List Int) (junk:List AV) (hl:l.length≤1000000):AC Tryz.prog 28 [.sc (.slice (some ⟨b,0,none⟩) l.length cap)] [(b,.box (l.map aF++junk) 3)] fun _ L=>L=[(b,.box ((f6 l).map aF++junk) 3)]:=by
 intro σ w vs hv hst
 obtain ⟨v,ws,rfl,h1,h2⟩:=hv.inv
 rw [h2.nil_inv,h1.sc_inv]
 obtain ⟨o,ho,us,rfl,hus,hu1⟩:=hst.here _ (List.mem_cons_self ..)
 have e1:=uW l (us.take l.length) (by
  have:=eR hus l.length
  rwa [List.take_left' (by simp)] at this)
 have e2:cR σ junk (us.drop l.length):=by
  have:=iV hus l.length
  rwa [List.drop_left' (by simp)] at this
 have e3:us=l.map (Value.int .i64)++us.drop l.length:=by rw [←e1,List.take_append_drop]
 rw [e3] at ho
 refine (uK b cap l _ w hl ho).mono fun e w' ⟨he,hg,hh⟩=>⟨_,σ,.tup [],_,he,.tup [] [] rfl (fun i c u h=>by simp at h),?_,rfl⟩
 refine hst.put (fun _=>trivial) hg hh ⟨_,rfl,dx (BJ _) e2,fun u hu=>?_⟩
 rcases Mo hu with hu | hu
 ·obtain ⟨z,_,rfl⟩:=List.mem_map.1 hu
  rfl
 ·exact hu1 u (List.mem_of_mem_drop hu)
end Go.Proofs.YtamjlkdanllgjaaGreatDoor
namespace Go.Proofs.YtamjlkdanllgjaaGreatDoor
open Go.RowKit
attribute [local irreducible] AT bz AX AO Av Kt aZ cY DA cu
set_option maxRecDepth 8000
abbrev qg:ByteArray:=⟨#[105,115,111,108]⟩
abbrev qf:ByteArray:=⟨#[105,110,105,116]⟩
abbrev qh:ByteArray:=⟨#[109,101,100,105]⟩
abbrev qd:ByteArray:=⟨#[102,105,110,97]⟩
def dy (s:ByteArray):Int:=if s=qg then 1 else if s=qf then 2 else if s=qh then 3 else if s=qd then 4 else 0
theorem u4 (s:ByteArray):0≤dy s∧dy s≤4:=by unfold dy;split;decide;split;decide;split;decide;split <;> decide
theorem H2 (s:ByteArray):bD Tryz.prog 27 [mP s] (aF (dy s)):=by
 refine aI Tryz.func27 rfl Tryz.ntmps27 rfl fun B=>?_
 repeat' (first|refine ae ?_|refine a6 ?_|refine ar ?_|refine a8 ?_|refine aa ?_|refine LR a7 LL ?_)
 refine aB rfl (fun h1=>?_) (fun h1=>?_)
 ·repeat' (first|refine ae ?_|refine a6 ?_|refine am ?_|refine a8 ?_|refine az ?_|refine aR ?_|refine aa ?_|refine LR a7 LL ?_)
  exact MA LL (by rw [dy,if_pos (Mz h1)])
 repeat' (first|refine ae ?_|refine a6 ?_|refine a8 ?_|refine aa ?_|refine LR a7 LL ?_)
 refine aB rfl (fun h2=>?_) (fun h2=>?_)
 ·repeat' (first|refine ae ?_|refine a6 ?_|refine am ?_|refine a8 ?_|refine az ?_|refine aR ?_|refine aa ?_|refine LR a7 LL ?_)
  exact MA LL (by rw [dy,if_neg (My h1),if_pos (Mz h2)])
 repeat' (first|refine ae ?_|refine a6 ?_|refine a8 ?_|refine aa ?_|refine LR a7 LL ?_)
 refine aB rfl (fun h3=>?_) (fun h3=>?_)
 ·repeat' (first|refine ae ?_|refine a6 ?_|refine am ?_|refine a8 ?_|refine az ?_|refine aR ?_|refine aa ?_|refine LR a7 LL ?_)
  exact MA LL (by rw [dy,if_neg (My h1),if_neg (My h2),if_pos (Mz h3)])
 repeat' (first|refine ae ?_|refine a6 ?_|refine a8 ?_|refine aa ?_|refine LR a7 LL ?_)
 refine aB rfl (fun h4=>?_) (fun h4=>?_)
 ·repeat' (first|refine ae ?_|refine a6 ?_|refine am ?_|refine a8 ?_|refine az ?_|refine aR ?_|refine aa ?_|refine LR a7 LL ?_)
  exact MA LL (by rw [dy,if_neg (My h1),if_neg (My h2),if_neg (My h3),if_pos (Mz h4)])
 repeat' (first|refine ae ?_|refine a6 ?_|refine aq ?_|refine am ?_|refine a8 ?_|refine aP ?_|refine aa ?_|refine LR a7 LL ?_)
 exact MA LL (by rw [dy,if_neg (My h1),if_neg (My h2),if_neg (My h3),if_neg (My h4)])
instance (s:ByteArray):AD Tryz.prog 27 [mP s] (aF (dy s)):=⟨H2 s⟩
def eG (bs:List Bool) (n:Nat):List Int:=((List.range n).filter fun k=>bs.getD k false && !bs.getD 0 false).map fun (k:Nat)=>(k:Int)
theorem wp (bs:List Bool) (n:Nat):eG bs (n+1)=eG bs n++(if bs.getD n false=true∧bs.getD 0 false=false then [(n:Int)] else []):=by
 unfold eG
 rw [List.range_succ,List.filter_append,List.map_append]
 congr 1
 by_cases h:bs.getD n false=true∧bs.getD 0 false=false
 ·rw [if_pos h,List.filter_cons,if_pos (by simp only [h.1,h.2];rfl)];rfl
 ·rw [if_neg h,List.filter_cons,if_neg (by intro hc;simp at hc;exact h (by simpa using hc))];rfl
theorem zm (bs:List Bool) (n:Nat):(eG bs n).length≤n:=by
 unfold eG
 rw [Mv]
 exact Nat.le_trans (List.length_filter_le ..) (by simp)
theorem HP (b0 b1 b2 b3 b4:Bool):bD Tryz.prog 29 [.agg [cw b0,cw b1,cw b2,cw b3,cw b4]] (.imm 1 (aT (eG [b0,b1,b2,b3,b4] 5))):=by
 refine aI Tryz.func29 rfl Tryz.ntmps29 rfl fun B=>?_
 repeat' (first|refine ae ?_|refine a6 ?_|refine ar ?_|refine a8 ?_|refine aa ?_|refine LR a7 LL ?_|refine bi ?_|fail)
 refine cm (bE (t:=3) rfl fun σ v h=>eh 1 h) ?_
 refine aN [1,6] (α:=Nat×Option (Nat×Nat)) (fun s=>[(3,.vec s.2 1 (aT (eG [b0,b1,b2,b3,b4] s.1))),(7,aF s.1)]) (fun s=>s.1≤5) (fun s=>tok s.2 3 1 (eG [b0,b1,b2,b3,b4] s.1).length) (fun s=>5 - s.1) (0,none) rfl ⟨rfl,rfl,trivial⟩ (Nat.zero_le _) (fun _ _ h=>h) ?_
 rintro ⟨i,k⟩ hi
 dsimp only at hi ⊢
 have hln:=zm [b0,b1,b2,b3,b4] i
 have hin:=b7 (eG [b0,b1,b2,b3,b4] i)
 try dsimp only [Mt,Ms,Mr,Mn]
 repeat' (first|refine ae ?_|refine a6 ?_|refine a8 ?_|refine aa ?_|refine LR a7 LL ?_)
 refine aB rfl (fun h=>?_) (fun h=>?_)
 ·have hi5:i < 5:=by have:=Mz h;omega
  obtain ⟨u,hu⟩:∃u,([b0,b1,b2,b3,b4]:List Bool)[i]?=some u:=⟨_,Ia hi5⟩
  have hug:([cw b0,cw b1,cw b2,cw b3,cw b4]:List AV)[i]?=some (cw u):=by
   have:([cw b0,cw b1,cw b2,cw b3,cw b4]:List AV)=([b0,b1,b2,b3,b4]:List Bool).map fun b=>cw b:=rfl
   rw [this,List.getElem?_map,hu]
   rfl
  have hsu:=wp [b0,b1,b2,b3,b4] i
  rw [List.getD_eq_getElem?_getD,hu] at hsu
  clear h
  repeat' (first|refine ae ?_|refine a6 ?_|refine ar ?_|refine aq ?_|refine a8 ?_|refine LR a7 LL ?_)
  refine wa a7 i rfl rfl rfl rfl rfl hi5 hug rfl ?_
  cases u with
  | false=>
   rw [if_neg (by simp),List.append_nil] at hsu
   repeat' (first|refine ae ?_|refine a6 ?_|refine aq ?_|refine a8 ?_|refine aP ?_|refine aa ?_|refine LR a7 LL ?_|refine MC LN ?_|(apply aY;refine aX ?_)|refine bo rfl ?_)
   exact aE (i+1,k) rfl ⟨by rw [hsu];rfl,by rw [Mw];rfl,trivial⟩ (by dsimp only;omega) (by dsimp only;omega) (fun _ _ h=>by rw [hsu];exact h)
  | true=>
   repeat' (first|refine ae ?_|refine a6 ?_|refine a8 ?_|refine aa ?_|refine LR a7 LL ?_|refine MB LL ?_)
   refine FZ a7 0 ?_
   repeat' (first|refine a8 ?_|refine aa ?_|refine LR a7 LL ?_|refine MB LL ?_)
   cases b0 with
   | true=>
    rw [if_neg (by simp),List.append_nil] at hsu
    repeat' (first|refine a6 ?_|refine aq ?_|refine a8 ?_|refine aP ?_|refine aa ?_|refine LR a7 LL ?_|(apply aY;refine aX ?_)|refine bo rfl ?_)
    exact aE (i+1,k) rfl ⟨by rw [hsu];rfl,by rw [Mw];rfl,trivial⟩ (by dsimp only;omega) (by dsimp only;omega) (fun _ _ h=>by rw [hsu];exact h)
   | false=>
    rw [if_pos (by simp)] at hsu
    have hia:=pC (eG [false,b1,b2,b3,b4] i) [(i:Int)]
    rw [←hsu] at hia
    repeat' (first|refine a6 ?_|refine LR a7 LL ?_|refine cA a7 ?_|refine bI rfl ?_)
    refine cr a7 [] rfl rfl rfl rfl (by rw [hin,List.append_nil]) (by rw [hin];simp;omega) (by rw [hin];simp;omega) rfl fun k'=>?_
    rw [show aT (eG [false,b1,b2,b3,b4] i)++[[AV.sc (.int .i64 (i:Int))]]=aT (eG [false,b1,b2,b3,b4] (i+1)) from hia,b7,List.append_nil]
    repeat' (first|refine a6 ?_|refine a8 ?_|refine aP ?_|refine aa ?_|refine LR a7 LL ?_|(apply aY;refine aX ?_)|fail)
    exact aE (i+1,k') rfl ⟨rfl,by rw [Mw];rfl,trivial⟩ (by dsimp only;omega) (by dsimp only;omega) (fun _ _ h=>h)
 ·have hi5:i=5:=by have:=My h;omega
  subst hi5
  repeat' (first|refine ae ?_|refine a6 ?_|refine am ?_|refine aO ?_|refine a8 ?_|refine av ?_|refine aC ?_|refine aA ?_|refine aa ?_|refine LR a7 LL ?_)
  refine cL (List.nil_sublist _) ?_
  refine br (bE (t:=2) rfl fun σ v h=>h.im) ?_
  exact LY LM
end Go.Proofs.YtamjlkdanllgjaaGreatDoor
