/-
  The document: a font cut down.
-/
import Derived.Test.YtjjpkibjffmceaaGreatM33
import Derived.Test.YtjjpkibjffmceaaGreatM24
import Derived.Test.YtjjpkibjffmceaaGreatM29
import Derived.Test.YtjjpkibjffmceaaGreatM18
namespace Go.Proofs.YtjjpkibjffmceaaGreat
open Go.RowKit
attribute [local irreducible] AT cg AX AO Av Kt bJ eC DA du
structure Aq (f:aL):Prop where
 glyphs:f.Glyphs.length≤1000000∧∀g∈f.Glyphs,g.Parts.length≤1000000
 chars:f.Chars.length≤1000000
 looks:f.Lookups.length≤1000000∧∀l∈f.Lookups,l.Rules.length≤1000000∧∀r∈l.Rules,Ar r
 feats:f.Features.length≤1000000∧∀t∈f.Features,t.Lookups.length≤1000000
def zF:List AV:=[aP 0,bO,bO,bO,bO,bO,bO,bO,bO]
def oB (f:aL) (g c l t:AV):List AV:=[aP f.Unit,g,c,l,t,.imm 4 (f.Axes.map cC),.imm 1 (f.Regions.map bI),.imm 1 (f.Funcs.map cL),.imm 1 (aS f.Cvt)]
def su (f:aL) (G:List Int) (n:Int):Option bL:=f.Glyphs[n.toNat]?.map (f8 G)
def jG (f:aL) (G K:List Int) (n:Int):Option bj:=f.Lookups[n.toNat]?.map (fv f G K)
set_option maxHeartbeats 16000000 in
theorem yC (f:aL) (hf:Aq f) (rs:List Int) (fs:List ByteArray) (G K:List Int) (hG:∀z∈G,0≤z∧z < f.Glyphs.length) (hGl:G.length≤1000000) (hK:∀z∈K,0≤z∧z < f.Lookups.length) (hKl:K.length≤1000000) (hfsl:fs.length≤1000000):bZ Tryz.prog 17 [cr f,kM rs fs,.imm 1 (aS G),.imm 1 (aS K)] (cr (sf f rs fs G K)):=by
 refine aX Tryz.func17 rfl Tryz.ntmps17 rfl fun B=>?_
 have hil:=aF G
 have hkl:=aF K
 unfold cr kM
 repeat' (first|refine go ?_|refine am ?_|refine IG a6 EV ?_|(apply aJ;first|refine II 14 a6 0 IF ?_|refine II 14 a6 1 IF ?_|refine II 14 a6 2 IF ?_|refine II 17 a6 0 IF ?_|refine II 17 a6 1 IF ?_|refine II 17 a6 2 IF ?_|refine IH a6 0 IE ?_|refine IH a6 1 IE ?_|refine IH a6 2 IE ?_|refine IH a6 3 IE ?_|fail)|refine bD ?_|refine bc a6 fun _=>?_|fail)
 rename_i b8 b9
 refine bN (bC 0 (cs':=oB f (.vec none 9 []) (.vec none 2 []) (.vec none 3 []) (.vec none 2 [])) rfl fun σ vs h=>mH.vrs (a:=oB f bO bO bO bO) (b:=oB f (.vec none 9 []) (.vec none 2 []) (.vec none 3 []) (.vec none 2 [])) ⟨dt.refl _,dt.vecN 9,dt.vecN 2,dt.vecN 3,dt.vecN 2,dt.refl _,dt.refl _,dt.refl _,dt.refl _,trivial⟩ h) ?_
 refine aO [2,3,4,5,8,9] (α:=Nat×Option (Nat×Nat)) (fun x=>[(10,aP x.1)]) (fun x=>x.1≤G.length) (fun x=>[(b9,.box (oB f (.vec x.2 9 (((G.take x.1).filterMap (su f G)).map bh)) (.vec none 2 []) (.vec none 3 []) (.vec none 2 [])) 36),(b8,.box zF 36)]++tok x.2 63 9 (((G.take x.1).filterMap (su f G)).map bh).length) (fun x=>G.length - x.1) (0,none) rfl ⟨rfl,trivial⟩ (Nat.zero_le _) (fun _ _ h=>h) ?_
 rintro ⟨i,q⟩ hi
 dsimp only at hi ⊢
 have hsl:=oG (su f G) G i
 have hsm:(((G.take i).filterMap (su f G)).map bh).length=((G.take i).filterMap (su f G)).length:=Jt ..
 try dsimp only [Jr,Jq,Jp,Jk]
 repeat' (first|refine go ?_|refine IG a6 EV ?_)
 refine au rfl (fun h=>?_) (fun h=>?_)
 ·have hi2:i < G.length:=by have:=Jy h;omega
  obtain ⟨z,hz⟩:∃z,G[i]?=some z:=⟨_,Jz hi2⟩
  have hzg:=bQ hz
  have hzd:=hG z (Jw hz)
  obtain ⟨g,hg⟩:∃x,f.Glyphs[z.toNat]?=some x:=⟨_,Jz (by omega)⟩
  have hgg:=bA (c:=bh) hg
  have hst:=jj (su f G) hz
  rw [show (su f G z).toList=[f8 G g] by unfold su;rw [hg];rfl] at hst
  haveI:=AD.mk (ui G g (hf.glyphs.2 g (Jw hg)))
  clear h
  repeat' (first|refine go ?_|refine am ?_)
  refine br 13 [(0,.v),(1,.l),(2,.v),(3,.v),(4,.v),(5,.v),(6,.v),(7,.v),(8,.v),(9,.v),(10,.v),(11,.v),(12,.v)] none ?_ trivial rfl (by kernel_rfl) (by kernel_rfl) (by kernel_rfl) mixed (by kernel_rfl) rfl
  repeat' (first|refine aC ?_|refine aY a6 ?_|(apply bS;refine ce a6 ?_)|(apply bK;refine bR ?_)|refine dU a6 ?_|refine dg a6 0 rfl rfl rfl rfl (by first|trivial|rfl) ?_)
  refine IQ [2,3,4,5,8,9,10,40,51] EV ?_
  repeat' (first|fail)
  refine IS a6 _ IC (List.perm_append_comm (l₁:=[_,_])) (by rw [hsm];simp only [List.length_cons,List.length_nil];omega) (by rw [hsm];simp only [List.length_cons,List.length_nil];omega) rfl fun q'=>?_
  refine aK (aM (List.perm_append_comm (l₂:=[_,_]))) ?_
  repeat' (first|refine go ?_|refine IG a6 EV ?_|(apply aW;refine aT ?_)|(apply aJ;first|refine II 14 a6 0 IF ?_|refine II 14 a6 1 IF ?_|refine II 14 a6 2 IF ?_|refine II 17 a6 0 IF ?_|refine II 17 a6 1 IF ?_|refine II 17 a6 2 IF ?_|refine IH a6 0 IE ?_|refine IH a6 1 IE ?_|refine IH a6 2 IE ?_|refine IH a6 3 IE ?_|fail))
  exact aB (i+1,q') rfl ⟨by rw [Jv];rfl,trivial⟩ (by dsimp only;omega) (by dsimp only;omega) (fun _ _ h=>by dsimp only;rw [hst,List.map_append];exact h)
 have hi2:i=G.length:=by have:=Jx h;omega
 subst hi2
 rw [List.take_length]
 clear h hi hsl hsm
 generalize hGl2:G.filterMap (su f G)=GV
 repeat' (first|refine go ?_|refine am ?_|refine IG a6 EV ?_)
 refine bN (bC 0 rfl fun σ vs h=>cy (k:=1) (c':= .imm 9 (GV.map bh)) h rfl fun v hv=>VR.im hv) ?_
 refine bN (bM (L':=[(b9,.box (oB f (.imm 9 (GV.map bh)) (.vec none 2 []) (.vec none 3 []) (.vec none 2 [])) 36),(b8,.box zF 36)]) (List.Sublist.cons_cons _ (List.Sublist.cons_cons _ (List.nil_sublist _)))) ?_
 have hcl:=hf.chars
 have hcm:(f.Chars.map cm).length=f.Chars.length:=Jt ..
 refine aO [2,3,4,5,8,9] (α:=Nat×Option (Nat×Nat)) (fun x=>[(11,aP x.1)]) (fun x=>x.1≤f.Chars.length) (fun x=>[(b9,.box (oB f (.imm 9 (GV.map bh)) (.vec x.2 2 (((f.Chars.take x.1).filterMap (f4 G rs)).map cm)) (.vec none 3 []) (.vec none 2 [])) 36),(b8,.box zF 36)]++tok x.2 68 2 (((f.Chars.take x.1).filterMap (f4 G rs)).map cm).length) (fun x=>f.Chars.length - x.1) (0,none) rfl ⟨rfl,trivial⟩ (Nat.zero_le _) (fun _ _ h=>h) ?_
 rintro ⟨i,q⟩ hi
 dsimp only at hi ⊢
 have hsl:=oG (f4 G rs) f.Chars i
 have hsm:(((f.Chars.take i).filterMap (f4 G rs)).map cm).length=((f.Chars.take i).filterMap (f4 G rs)).length:=Jt ..
 try dsimp only [Jr,Jq,Jp,Jk]
 repeat' (first|refine go ?_|refine IG a6 EV ?_)
 refine au rfl (fun h=>?_) (fun h=>?_)
 ·have hi2:i < f.Chars.length:=by have:=Jy h;omega
  obtain ⟨p,hp⟩:∃z,f.Chars[i]?=some z:=⟨_,Jz hi2⟩
  have hpg:=bA (c:=cm) hp
  have hst:=jj (f4 G rs) hp
  rw [tR] at hst
  have hge:=pn G p.Glyph
  clear h
  repeat' (first|refine go ?_|refine am ?_|refine IG a6 EV ?_|(apply aV;first|refine aU a6 ?_|refine aN a6 ?_)|(apply bB;refine bq ?_)|fail)
  refine br 13 [(0,.v),(1,.v),(2,.v),(3,.v),(4,.v),(5,.v),(6,.v),(7,.v),(8,.v),(9,.v),(10,.v),(11,.v),(12,.v)] none ?_ trivial rfl (by kernel_rfl) (by kernel_rfl) (by kernel_rfl) mixed (by kernel_rfl) rfl
  repeat' (first|refine aC ?_|refine aY a6 ?_|(apply bS;refine ce a6 ?_)|(apply bK;refine bR ?_)|fail)
  cases hr:rs.contains p.Rune with
  | false=>
   rw [if_neg (by rw [hr];exact fun h=>by cases h.1),List.append_nil] at hst
   repeat' (first|refine aC ?_|refine aY a6 ?_|refine iU rfl rfl ?_)
   refine IQ [2,3,4,5,8,9,11,12,81] EV ?_
   repeat' (first|refine go ?_|refine aa ?_|refine IG a6 EV ?_|(apply aW;refine aT ?_)|refine bP rfl ?_)
   exact aB (i+1,q) rfl ⟨by rw [Jv];rfl,trivial⟩ (by dsimp only;omega) (by dsimp only;omega) (fun _ _ h=>by dsimp only;rw [hst];exact h)
  | true=>
   repeat' (first|refine aC ?_|refine aY a6 ?_|fail)
   refine IQ [2,3,4,5,8,9,11,12,81] EV ?_
   repeat' (first|refine go ?_|refine aa ?_|fail)
   refine au rfl (fun h2=>?_) (fun h2=>?_)
   ·rw [hge] at h2
    rw [if_pos ⟨hr,h2⟩] at hst
    repeat' (first|fail)
    refine br 12 [(0,.v),(1,.l),(2,.v),(3,.v),(4,.v),(5,.v),(6,.v),(7,.v),(8,.v),(9,.v),(10,.v),(11,.e)] none ?_ trivial rfl (by kernel_rfl) (by kernel_rfl) (by kernel_rfl) mixed (by kernel_rfl) rfl
    repeat' (first|refine aC ?_|refine aY a6 ?_|(apply bS;refine ce a6 ?_)|refine dU a6 ?_|refine dg a6 0 rfl rfl rfl rfl (by first|trivial|rfl) ?_)
    refine eI a6 _ rfl rfl rfl rfl (List.perm_append_comm (l₁:=[_,_])) (by rw [hsm];simp only [List.length_cons,List.length_nil];omega) (by rw [hsm];simp only [List.length_cons,List.length_nil];omega) (by first | trivial | rfl) fun q'=>?_
    refine IQ [2,3,4,5,8,9,11,93] EV ?_
    refine aK (aM (List.perm_append_comm (l₂:=[_,_]))) ?_
    repeat' (first|refine go ?_|refine IG a6 EV ?_|(apply aW;refine aT ?_)|(apply aJ;first|refine II 14 a6 0 IF ?_|refine II 14 a6 1 IF ?_|refine II 14 a6 2 IF ?_|refine II 17 a6 0 IF ?_|refine II 17 a6 1 IF ?_|refine II 17 a6 2 IF ?_|refine IH a6 0 IE ?_|refine IH a6 1 IE ?_|refine IH a6 2 IE ?_|refine IH a6 3 IE ?_|fail))
    exact aB (i+1,q') rfl ⟨by rw [Jv];rfl,trivial⟩ (by dsimp only;omega) (by dsimp only;omega) (fun _ _ h=>by dsimp only;rw [hst,List.map_append];exact h)
   ·rw [hge] at h2
    rw [if_neg (by rw [h2];exact fun h=>by cases h.2),List.append_nil] at hst
    repeat' (first|refine go ?_|refine IG a6 EV ?_|(apply aW;refine aT ?_)|fail)
    exact aB (i+1,q) rfl ⟨by rw [Jv];rfl,trivial⟩ (by dsimp only;omega) (by dsimp only;omega) (fun _ _ h=>by dsimp only;rw [hst];exact h)
 have hi2:i=f.Chars.length:=by have:=Jx h;omega
 subst hi2
 rw [List.take_length]
 clear h hi hsl hsm
 generalize hCV:f.Chars.filterMap (f4 G rs)=CV
 repeat' (first|refine go ?_|refine am ?_|refine IG a6 EV ?_)
 refine bN (bC 0 rfl fun σ vs h=>cy (k:=2) (c':= .imm 2 (CV.map cm)) h rfl fun v hv=>VR.im hv) ?_
 refine bN (bM (L':=[(b9,.box (oB f (.imm 9 (GV.map bh)) (.imm 2 (CV.map cm)) (.vec none 3 []) (.vec none 2 [])) 36),(b8,.box zF 36)]) (List.Sublist.cons_cons _ (List.Sublist.cons_cons _ (List.nil_sublist _)))) ?_
 refine aO [2,3,4,5,8,9] (α:=Nat×Option (Nat×Nat)) (fun x=>[(13,aP x.1)]) (fun x=>x.1≤K.length) (fun x=>[(b9,.box (oB f (.imm 9 (GV.map bh)) (.imm 2 (CV.map cm)) (.vec x.2 3 (((K.take x.1).filterMap (jG f G K)).map bi)) (.vec none 2 [])) 36),(b8,.box zF 36)]++tok x.2 77 3 (((K.take x.1).filterMap (jG f G K)).map bi).length) (fun x=>K.length - x.1) (0,none) rfl ⟨rfl,trivial⟩ (Nat.zero_le _) (fun _ _ h=>h) ?_
 rintro ⟨i,q⟩ hi
 dsimp only at hi ⊢
 have hsl:=oG (jG f G K) K i
 have hsm:(((K.take i).filterMap (jG f G K)).map bi).length=((K.take i).filterMap (jG f G K)).length:=Jt ..
 try dsimp only [Jr,Jq,Jp,Jk]
 repeat' (first|refine go ?_|refine IG a6 EV ?_)
 refine au rfl (fun h=>?_) (fun h=>?_)
 ·have hi2:i < K.length:=by have:=Jy h;omega
  obtain ⟨z,hz⟩:∃z,K[i]?=some z:=⟨_,Jz hi2⟩
  have hzg:=bQ hz
  have hzd:=hK z (Jw hz)
  obtain ⟨l,hl⟩:∃x,f.Lookups[z.toNat]?=some x:=⟨_,Jz (by omega)⟩
  have hlg:=bA (c:=bi) hl
  have hst:=jj (jG f G K) hz
  rw [show (jG f G K z).toList=[fv f G K l] by unfold jG;rw [hl];rfl] at hst
  obtain ⟨hlr,hlu⟩:=hf.looks.2 l (Jw hl)
  clear h
  repeat' (first|refine go ?_|refine am ?_)
  refine br 9 [(0,.v),(1,.v),(2,.v),(3,.v),(4,.v),(5,.v),(6,.v),(7,.v)] (some (8,.box _ 77)) ?_ ⟨_,rfl,rfl,fun _ _ _=>ga (eA a6 rfl) rfl⟩ rfl (by kernel_rfl) (by kernel_rfl) (by kernel_rfl) mixed (by kernel_rfl) rfl
  repeat' (first|refine aC ?_|refine aY a6 ?_|(apply bS;refine ce a6 ?_)|fail)
  refine ji [2,3,4,5,8,9,13,14,108] (fun _=>_) (fun _=>rfl) rfl fun _=>?_
  refine aK (aM (Fc (A:=[_,_]))) ?_
  repeat' (first|refine go ?_|refine am ?_|refine IG a6 EV ?_|(apply aJ;first|refine II 14 a6 0 IF ?_|refine II 14 a6 1 IF ?_|refine II 14 a6 2 IF ?_|refine II 17 a6 0 IF ?_|refine II 17 a6 1 IF ?_|refine II 17 a6 2 IF ?_|refine IH a6 0 IE ?_|refine IH a6 1 IE ?_|refine IH a6 2 IE ?_|refine IH a6 3 IE ?_|fail)|refine bc a6 fun _=>?_|fail)
  rename_i b14 b15
  refine bN (bC 0 (cs':=[aP l.Kind,cM l.Ignore,.vec none 6 []]) rfl fun σ vs h=>mH.vrs (a:=[aP l.Kind,cM l.Ignore,bO]) (b:=[aP l.Kind,cM l.Ignore,.vec none 6 []]) ⟨dt.refl _,dt.refl _,dt.vecN 6,trivial⟩ h) ?_
  have hlm:(l.Rules.map bE).length=l.Rules.length:=Jt ..
  haveI:=AD.mk (wD f l G hG hGl).det
  refine aO [2,3,4,5,8,9,13,14,15] (α:=Nat×Option (Nat×Nat)) (fun x=>[(16,aP x.1)]) (fun x=>x.1≤l.Rules.length) (fun x=>[(b15,.box [aP l.Kind,cM l.Ignore,.vec x.2 6 (((l.Rules.take x.1).filterMap (eb f G K l)).map bE)] 77),(b9,.box (oB f (.imm 9 (GV.map bh)) (.imm 2 (CV.map cm)) (.vec q 3 (((K.take i).filterMap (jG f G K)).map bi)) (.vec none 2 [])) 36),(b8,.box zF 36)]++(tok x.2 81 6 (((l.Rules.take x.1).filterMap (eb f G K l)).map bE).length++tok q 77 3 (((K.take i).filterMap (jG f G K)).map bi).length)) (fun x=>l.Rules.length - x.1) (0,none) rfl ⟨rfl,trivial⟩ (Nat.zero_le _) (fun _ _ h=>h) ?_
  rintro ⟨k,q2⟩ hk
  dsimp only at hk ⊢
  have hrl:=oG (eb f G K l) l.Rules k
  have hrm:(((l.Rules.take k).filterMap (eb f G K l)).map bE).length=((l.Rules.take k).filterMap (eb f G K l)).length:=Jt ..
  try dsimp only [Jr,Jq,Jp,Jk]
  repeat' (first|refine go ?_|refine IG a6 EV ?_)
  refine au rfl (fun h=>?_) (fun h=>?_)
  ·have hk2:k < l.Rules.length:=by have:=Jy h;omega
   obtain ⟨r,hr⟩:∃z,l.Rules[k]?=some z:=⟨_,Jz hk2⟩
   have hrg:=bA (c:=bE) hr
   have hst2:=jj (eb f G K l) hr
   rw [uV] at hst2
   haveI:=AD.mk (wz l.Kind r G (ff f l.Ignore G) K (hlu r (Jw hr)))
   generalize (if gr r G (ff f l.Ignore G) then rX else lq l.Kind r G (ff f l.Ignore G) K)=Y at *
   generalize decide (¬gr r G (ff f l.Ignore G))=bY at *
   clear h
   repeat' (first|refine go ?_|refine am ?_)
   refine br 19 [(0,.v),(1,.v),(2,.v),(3,.v),(4,.v),(5,.v),(6,.v),(7,.v),(8,.v),(9,.v),(10,.v),(11,.v),(12,.v),(13,.v),(14,.v),(15,.v),(16,.v),(17,.a),(18,.e)] none ?_ trivial rfl (by kernel_rfl) (by kernel_rfl) (by kernel_rfl) mixed (by kernel_rfl) rfl
   repeat' (first|refine aC ?_|refine aY a6 ?_|(apply bS;refine ce a6 ?_)|(apply bK;refine bR ?_)|fail)
   refine tX a6 rfl rfl (by first | trivial | rfl) fun b17=>?_
   repeat' (first|refine aC ?_|fail)
   refine pP a6 0 rfl rfl rfl rfl rfl rfl rfl (by first | trivial | rfl) fun _=>?_
   refine IQ [2,3,4,5,8,9,13,14,15,16,17,137] EV ?_
   repeat' (first|refine go ?_|refine aa ?_|refine IG a6 EV ?_)
   refine au rfl (fun h2=>?_) (fun h2=>?_)
   ·rw [if_pos h2] at hst2
    repeat' (first|refine go ?_|refine IG a6 EV ?_|(apply bH;first|refine IJ a6 0 ID ?_|refine IJ a6 1 ID ?_|refine IJ a6 2 ID ?_|refine IJ a6 3 ID ?_|refine IK a6 0 ID ?_|refine IK a6 1 ID ?_|refine IK a6 2 ID ?_|refine IL a6 1 IB (by assumption) rfl ?_|refine IL a6 0 IB (by assumption) rfl ?_|fail)|refine bG a6 ?_|fail)
    refine IS a6 _ IC (fc (A:=[_,_,_,_])) (by rw [hrm];simp only [List.length_cons,List.length_nil];omega) (by rw [hrm];simp only [List.length_cons,List.length_nil];omega) rfl fun q'=>?_
    refine aK (aM (fc (A:=[_,_,_,_])).symm) ?_
    repeat' (first|refine go ?_|refine IG a6 EV ?_|(apply aW;refine aT ?_)|(apply aJ;first|refine II 14 a6 0 IF ?_|refine II 14 a6 1 IF ?_|refine II 14 a6 2 IF ?_|refine II 17 a6 0 IF ?_|refine II 17 a6 1 IF ?_|refine II 17 a6 2 IF ?_|refine IH a6 0 IE ?_|refine IH a6 1 IE ?_|refine IH a6 2 IE ?_|refine IH a6 3 IE ?_|fail))
    refine cQ (List.sublist_cons_self ..) ?_
    exact aB (k+1,q') rfl ⟨by rw [Jv];rfl,trivial⟩ (by dsimp only;omega) (by dsimp only;omega) (fun _ _ h=>by dsimp only;rw [hst2,List.map_append];exact h)
   ·rw [if_neg (by rw [h2];decide),List.append_nil] at hst2
    repeat' (first|refine go ?_|refine IG a6 EV ?_|(apply aW;refine aT ?_)|fail)
    refine cQ (List.sublist_cons_self ..) ?_
    exact aB (k+1,q2) rfl ⟨by rw [Jv];rfl,trivial⟩ (by dsimp only;omega) (by dsimp only;omega) (fun _ _ h=>by dsimp only;rw [hst2];exact h)
  have hk2:k=l.Rules.length:=by have:=Jx h;omega
  subst hk2
  rw [List.take_length]
  clear h hk hrl hrm
  have hcl:fv f G K l={ l with Rules:=l.Rules.filterMap (eb f G K l) }:=rfl
  generalize l.Rules.filterMap (eb f G K l)=RV at hcl ⊢
  refine bN (bC 0 rfl fun σ vs h=>cy (k:=2) (c':= .imm 6 (RV.map bE)) h rfl fun v hv=>VR.im hv) ?_
  refine bN (bM (L':=[(b15,.box [aP l.Kind,cM l.Ignore,.imm 6 (RV.map bE)] 77),(b9,.box (oB f (.imm 9 (GV.map bh)) (.imm 2 (CV.map cm)) (.vec q 3 (((K.take i).filterMap (jG f G K)).map bi)) (.vec none 2 [])) 36),(b8,.box zF 36)]++tok q 77 3 (((K.take i).filterMap (jG f G K)).map bi).length) (List.Sublist.cons_cons _ (List.Sublist.cons_cons _ (List.Sublist.cons_cons _ (List.sublist_append_right _ _))))) ?_
  repeat' (first|refine go ?_|refine IG a6 EV ?_|(apply bH;first|refine IJ a6 0 ID ?_|refine IJ a6 1 ID ?_|refine IJ a6 2 ID ?_|refine IJ a6 3 ID ?_|refine IK a6 0 ID ?_|refine IK a6 1 ID ?_|refine IK a6 2 ID ?_|refine IL a6 1 IB (by assumption) rfl ?_|refine IL a6 0 IB (by assumption) rfl ?_|fail)|refine bG a6 ?_|fail)
  refine IS a6 _ IC (List.perm_append_comm (l₁:=[_,_,_])) (by rw [hsm];simp only [List.length_cons,List.length_nil];omega) (by rw [hsm];simp only [List.length_cons,List.length_nil];omega) rfl fun q'=>?_
  refine aK (aM (List.perm_append_comm (l₂:=[_,_,_]))) ?_
  repeat' (first|refine go ?_|refine IG a6 EV ?_|(apply aW;refine aT ?_)|(apply aJ;first|refine II 14 a6 0 IF ?_|refine II 14 a6 1 IF ?_|refine II 14 a6 2 IF ?_|refine II 17 a6 0 IF ?_|refine II 17 a6 1 IF ?_|refine II 17 a6 2 IF ?_|refine IH a6 0 IE ?_|refine IH a6 1 IE ?_|refine IH a6 2 IE ?_|refine IH a6 3 IE ?_|fail))
  refine cQ (List.sublist_cons_self ..) ?_
  exact aB (i+1,q') rfl ⟨by rw [Jv];rfl,trivial⟩ (by dsimp only;omega) (by dsimp only;omega) (fun _ _ h=>by dsimp only;rw [hst,List.map_append,hcl];exact h)
 have hi2:i=K.length:=by have:=Jx h;omega
 subst hi2
 rw [List.take_length]
 clear h hi hsl hsm
 generalize hLV:K.filterMap (jG f G K)=LV
 repeat' (first|refine go ?_|refine am ?_|refine IG a6 EV ?_)
 refine bN (bC 0 rfl fun σ vs h=>cy (k:=3) (c':= .imm 3 (LV.map bi)) h rfl fun v hv=>VR.im hv) ?_
 refine bN (bM (L':=[(b9,.box (oB f (.imm 9 (GV.map bh)) (.imm 2 (CV.map cm)) (.imm 3 (LV.map bi)) (.vec none 2 [])) 36),(b8,.box zF 36)]) (List.Sublist.cons_cons _ (List.Sublist.cons_cons _ (List.nil_sublist _)))) ?_
 have hfl:=hf.feats.1
 have hfm:(f.Features.map bv).length=f.Features.length:=Jt ..
 have hfs:=gh fs
 refine aO [3,4,5,8,9] (α:=Nat×Option (Nat×Nat)) (fun x=>[(19,aP x.1)]) (fun x=>x.1≤f.Features.length) (fun x=>[(b9,.box (oB f (.imm 9 (GV.map bh)) (.imm 2 (CV.map cm)) (.imm 3 (LV.map bi)) (.vec x.2 2 (((f.Features.take x.1).filterMap (dy K fs)).map bv))) 36),(b8,.box zF 36)]++tok x.2 83 2 (((f.Features.take x.1).filterMap (dy K fs)).map bv).length) (fun x=>f.Features.length - x.1) (0,none) rfl ⟨rfl,trivial⟩ (Nat.zero_le _) (fun _ _ h=>h) ?_
 rintro ⟨i,q⟩ hi
 dsimp only at hi ⊢
 have hsl:=oG (dy K fs) f.Features i
 have hsm:(((f.Features.take i).filterMap (dy K fs)).map bv).length=((f.Features.take i).filterMap (dy K fs)).length:=Jt ..
 try dsimp only [Jr,Jq,Jp,Jk]
 repeat' (first|refine go ?_|refine IG a6 EV ?_)
 refine au rfl (fun h=>?_) (fun h=>?_)
 ·have hi2:i < f.Features.length:=by have:=Jy h;omega
  obtain ⟨p,hp⟩:∃z,f.Features[i]?=some z:=⟨_,Jz hi2⟩
  have hpg:=bA (c:=bv) hp
  have hst:=jj (dy K fs) hp
  rw [u7] at hst
  haveI:=AD.mk (mE K p.Lookups (hf.feats.2 p (Jw hp)))
  clear h
  repeat' (first|refine go ?_|refine am ?_|refine IG a6 EV ?_)
  refine aO [3,4,5,8,9,19] (α:=Nat) (fun j=>[(20,cM (fR (fs.take j) p.Name)),(21,aP j)]) (fun j=>j≤fs.length) (fun _=>[(b9,.box (oB f (.imm 9 (GV.map bh)) (.imm 2 (CV.map cm)) (.imm 3 (LV.map bi)) (.vec q 2 (((f.Features.take i).filterMap (dy K fs)).map bv))) 36),(b8,.box zF 36)]++tok q 83 2 (((f.Features.take i).filterMap (dy K fs)).map bv).length) (fun j=>fs.length - j) 0 rfl ⟨rfl,rfl,trivial⟩ (Nat.zero_le _) (fun _ _ h=>h) ?_
  intro j hj
  try dsimp only [Jr,Jq,Jp,Jk]
  repeat' (first|refine go ?_|refine IG a6 EV ?_)
  refine au rfl (fun h=>?_) (fun h=>?_)
  ·have hj2:j < fs.length:=by have:=Jy h;omega
   obtain ⟨s,hs⟩:∃z,fs[j]?=some z:=⟨_,Jz hj2⟩
   have hsg:=jT hs
   have hS:fR (fs.take (j+1)) p.Name=(fR (fs.take j) p.Name || decide (s=p.Name)):=by
    unfold fR
    rw [List.take_add_one,hs,List.any_append]
    simp
   clear h
   repeat' (first|refine go ?_|refine am ?_)
   refine br 13 [(0,.v),(1,.v),(2,.v),(3,.v),(4,.v),(5,.v),(6,.v),(7,.v),(8,.v),(9,.v),(10,.v),(11,.v),(12,.v)] none ?_ trivial rfl (by kernel_rfl) (by kernel_rfl) (by kernel_rfl) mixed (by kernel_rfl) rfl
   repeat' (first|refine aC ?_|refine aY a6 ?_|fail)
   cases hb:fR (fs.take j) p.Name with
   | true=>
    rw [hb,Bool.true_or] at hS
    repeat' (first|refine aC ?_|refine iU rfl rfl ?_)
    refine IQ [3,4,5,8,9,19,21,166,171,177] EV ?_
    repeat' (first|refine go ?_|refine aa ?_|refine IG a6 EV ?_|refine IT IC ?_|(apply aW;refine aT ?_)|fail)
    exact aB (j+1) rfl ⟨by rw [hS];rfl,by rw [Jv];rfl,trivial⟩ (by omega) (by omega) (fun _ _ h=>h)
   | false=>
    rw [hb,Bool.false_or] at hS
    repeat' (first|refine aC ?_|refine aY a6 ?_|(apply bS;refine ce a6 ?_)|fail)
    refine IQ [3,4,5,8,9,19,21,166,171,177] EV ?_
    repeat' (first|refine go ?_|refine aa ?_|refine IG a6 EV ?_|refine IR EV ?_|(apply aW;refine aT ?_)|fail)
    exact aB (j+1) rfl ⟨by rw [hS];rfl,by rw [Jv];rfl,trivial⟩ (by omega) (by omega) (fun _ _ h=>h)
  have hj2:j=fs.length:=by have:=Jx h;omega
  subst hj2
  rw [List.take_length]
  repeat' (first|refine go ?_|refine IG a6 EV ?_)
  refine au rfl (fun h2=>?_) (fun h2=>?_)
  ·rw [if_pos h2] at hst
   repeat' (first|fail)
   refine br 19 [(0,.v),(1,.l),(2,.v),(3,.v),(4,.v),(5,.v),(6,.v),(7,.v),(8,.v),(9,.v),(10,.v),(11,.v),(12,.v),(13,.v),(14,.v),(15,.v),(16,.v),(17,.v),(18,.e)] none ?_ trivial rfl (by kernel_rfl) (by kernel_rfl) (by kernel_rfl) mixed (by kernel_rfl) rfl
   repeat' (first|refine aC ?_|refine aY a6 ?_|(apply bS;refine ce a6 ?_)|(apply bK;refine bR ?_)|refine dU a6 ?_|refine dg a6 0 rfl rfl rfl rfl (by first|trivial|rfl) ?_)
   refine eI a6 _ rfl rfl rfl rfl (List.perm_append_comm (l₁:=[_,_])) (by rw [hsm];simp only [List.length_cons,List.length_nil];omega) (by rw [hsm];simp only [List.length_cons,List.length_nil];omega) (by first | trivial | rfl) fun q'=>?_
   refine IQ [3,4,5,8,9,19,199] EV ?_
   refine aK (aM (List.perm_append_comm (l₂:=[_,_]))) ?_
   repeat' (first|refine go ?_|refine IG a6 EV ?_|(apply aW;refine aT ?_)|(apply aJ;first|refine II 14 a6 0 IF ?_|refine II 14 a6 1 IF ?_|refine II 14 a6 2 IF ?_|refine II 17 a6 0 IF ?_|refine II 17 a6 1 IF ?_|refine II 17 a6 2 IF ?_|refine IH a6 0 IE ?_|refine IH a6 1 IE ?_|refine IH a6 2 IE ?_|refine IH a6 3 IE ?_|fail))
   exact aB (i+1,q') rfl ⟨by rw [Jv];rfl,trivial⟩ (by dsimp only;omega) (by dsimp only;omega) (fun _ _ h=>by dsimp only;rw [hst,List.map_append];exact h)
  ·rw [if_neg (by rw [h2];decide),List.append_nil] at hst
   repeat' (first|refine go ?_|refine IG a6 EV ?_|(apply aW;refine aT ?_)|fail)
   exact aB (i+1,q) rfl ⟨by rw [Jv];rfl,trivial⟩ (by dsimp only;omega) (by dsimp only;omega) (fun _ _ h=>by dsimp only;rw [hst];exact h)
 have hi2:i=f.Features.length:=by have:=Jx h;omega
 subst hi2
 rw [List.take_length]
 clear h hi hsl hsm
 generalize hFV:f.Features.filterMap (dy K fs)=FV
 refine bN (bC 0 rfl fun σ vs h=>cy (k:=4) (c':= .imm 2 (FV.map bv)) h rfl fun v hv=>VR.im hv) ?_
 refine bN (bM (L':=[(b9,.box (oB f (.imm 9 (GV.map bh)) (.imm 2 (CV.map cm)) (.imm 3 (LV.map bi)) (.imm 2 (FV.map bv))) 36),(b8,.box zF 36)]) (List.Sublist.cons_cons _ (List.Sublist.cons_cons _ (List.nil_sublist _)))) ?_
 repeat' (first|refine go ?_|(apply bH;first|refine IJ a6 0 ID ?_|refine IJ a6 1 ID ?_|refine IJ a6 2 ID ?_|refine IJ a6 3 ID ?_|refine IK a6 0 ID ?_|refine IK a6 1 ID ?_|refine IK a6 2 ID ?_|refine IL a6 1 IB (by assumption) rfl ?_|refine IL a6 0 IB (by assumption) rfl ?_|fail)|(apply aJ;first|refine II 14 a6 0 IF ?_|refine II 14 a6 1 IF ?_|refine II 14 a6 2 IF ?_|refine II 17 a6 0 IF ?_|refine II 17 a6 1 IF ?_|refine II 17 a6 2 IF ?_|refine IH a6 0 IE ?_|refine IH a6 1 IE ?_|refine IH a6 2 IE ?_|refine IH a6 3 IE ?_|fail))
 have hv:ci (sf f rs fs G K)=oB f (.imm 9 (GV.map bh)) (.imm 2 (CV.map cm)) (.imm 3 (LV.map bi)) (.imm 2 (FV.map bv)):=by
  rw [←hGl2,←hCV,←hLV,←hFV]
  rfl
 rw [hv]
 exact er (cs:=[.agg (oB f (.imm 9 (GV.map bh)) (.imm 2 (CV.map cm)) (.imm 3 (LV.map bi)) (.imm 2 (FV.map bv)))]) [] ⟨⟨_,1,_,_,rfl,rfl,.inr ⟨cV a6 rfl,rfl⟩⟩,trivial⟩ (List.nil_sublist _) rfl
theorem Ac {l:List Int} (h:jn l=true):l.Pairwise (· < ·):=by
  have h:=Jy h
  have hs:∀d j,j+d+1 < l.length→l.getD j 0 < l.getD (j+d+1) 0:=by
    intro d
    induction d with
    | zero=>intro j hj;exact h j (by omega)
    | succ d ih=>
      intro j hj
      have h1:=ih j (by omega)
      have h2:=h (j+d+1) (by omega)
      rw [show j+(d+1)+1=j+d+1+1 by omega]
      omega
  rw [List.pairwise_iff_getElem]
  intro i j hi hj hij
  have:=hs (j - i - 1) i (by omega)
  rw [show i+(j - i - 1)+1=j by omega] at this
  simpa [hi,hj] using this
theorem ES {b:Bool} {n:Int} (hn:n≠0) (h:eL b n=0):b=false:=by
 cases b with
 | true=>exact absurd h hn
 | false=>rfl
theorem Co {f:aL} (h:(ii f).1=0) {l:bj} (hl:l∈f.Lookups) {r:cb} (hr:r∈l.Rules) {q:List Int} (hq:q∈kJ r):q.Pairwise (· < ·):=by
  obtain ⟨i,hi⟩:=List.mem_iff_getElem?.1 hl
  obtain ⟨j,hj⟩:=List.mem_iff_getElem?.1 hr
  obtain ⟨k,hk⟩:=List.mem_iff_getElem?.1 hq
  have h1:=dX.1 h (dq 40 f.Lookups (n9 f)) (by unfold xr;simp)
  have h2:kr f l=0:=(gN.1 h1).2 i l hi
  unfold kr at h2
  split at h2
  · cases h2
  have h3:=dX.1 h2 (dM l.Rules fun _ r=>jS f l.Kind r) (by simp)
  have h4:jS f l.Kind r=0:=iV.1 h3 j r hj
  have h5:=dX.1 h4 (dM (kJ r) (v6 f)) (by simp)
  have h6:v6 f k q=0:=iV.1 h5 k q hk
  have h7:=ES (by decide) h6
  have h8:mo f q=true:=by simpa using h7
  unfold mo at h8
  rw [Bool.and_eq_true,Bool.and_eq_true] at h8
  exact Ac h8.2.1
theorem sV {f:aL} (h:(ii f).1=0) (hp:mG f):Aq f where
  glyphs:=⟨by have:=hp.glyphs.1;omega,fun g hg=>by have:=(hp.glyphs.2 g hg).parts.1;omega⟩
  chars:=by have:=hp.chars.1;omega
  looks:=⟨by have:=hp.looks.1;omega,fun l hl=>⟨by have:=(hp.looks.2 l hl).rules.1;omega,fun r hr=>by
    have hR:=(hp.looks.2 l hl).rules.2 r hr
    have hu:∀q∈kJ r,q.Pairwise (· < ·):=fun q hq=>Co h hl hr hq
    unfold kJ at hu
    exact {
      back:=⟨fun q hq=>hu q (List.mem_append.2 (.inl hq)),fun q hq=>by have:=(hR.back.2 q hq).1;omega,by have:=hR.back.1;omega⟩
      ins:=⟨fun q hq=>hu q (List.mem_append.2 (.inr (List.mem_append.2 (.inl hq)))),fun q hq=>by have:=(hR.ins.2 q hq).1;omega,by have:=hR.ins.1;omega⟩
      ahead:=⟨fun q hq=>hu q (List.mem_append.2 (.inr (List.mem_append.2 (.inr hq)))),fun q hq=>by have:=(hR.ahead.2 q hq).1;omega,by have:=hR.ahead.1;omega⟩
      out:=by have:=hR.out.1;omega
      calls:=by have:=hR.calls.1;omega }⟩⟩
  feats:=⟨by have:=hp.feats.1;omega,fun t ht=>by have:=(hp.feats.2 t ht).2.1;omega⟩
theorem Hc {D:Int→Int} (ps:List cD):0≤dF D ps:=by
 have:∀(ps:List cD) (a:Int),0≤a→0≤ps.foldl (fun a p=>max a (D p.Glyph+1)) a:=by
  intro ps
  induction ps with
  | nil=>intro a h;exact h
  | cons p ps ih=>intro a h;exact ih (max a (D p.Glyph+1)) (by omega)
 exact this ps 0 (Int.le_refl _)
theorem Hb {D:Int→Int} {m:Int}:∀{ps:List cD},dF D ps≤m↔0≤m∧∀p∈ps,D p.Glyph+1≤m:=by
 have:∀(ps:List cD) (a:Int),ps.foldl (fun a p=>max a (D p.Glyph+1)) a≤m↔a≤m∧∀p∈ps,D p.Glyph+1≤m:=by
  intro ps
  induction ps with
  | nil=>intro a;simp
  | cons p ps ih=>
   intro a
   rw [List.foldl_cons,ih]
   constructor
   ·rintro ⟨h,k⟩
    refine ⟨by omega,fun q hq=>?_⟩
    rcases List.mem_cons.1 hq with rfl | hq
    ·omega
    ·exact k q hq
   ·rintro ⟨h,k⟩
    have:=k p (List.mem_cons_self ..)
    exact ⟨by omega,fun q hq=>k q (Js _ hq)⟩
 intro ps
 exact this ps 0
theorem tZ {f:aL} {D P:Int→Int} (h:jX f D P):jx f.Glyphs.length (prt f):=by
 refine ⟨fun z=>(D z).toNat,fun g h0 h1 p hp=>?_⟩
 obtain ⟨gl,hg⟩:∃x,f.Glyphs[g.toNat]?=some x:=⟨_,Jz (by omega)⟩
 have hd:=(h g h0 h1 gl hg).1
 have hpr:=Cg hp
 obtain ⟨gp,hgp⟩:∃x,f.Glyphs[p.toNat]?=some x:=⟨_,Jz (by omega)⟩
 have hdp:=(h p hpr.1 hpr.2 gp hgp).1
 have hnn:=Hc (D:=D) gp.Parts
 unfold prt at hp
 rw [hg] at hp
 obtain ⟨q,hq,rfl⟩:=List.mem_map.1 (List.mem_filter.1 hp).1
 have:=(Hb.1 (Int.le_of_eq hd.symm)).2 q hq
 dsimp only
 omega
theorem tT {f:aL} (h:¬jx f.Glyphs.length (prt f)):jB f=(33,0):=by
 unfold jB
 rw [dif_neg fun ⟨_,hq⟩=>h (tZ hq)]
end Go.Proofs.YtjjpkibjffmceaaGreat
