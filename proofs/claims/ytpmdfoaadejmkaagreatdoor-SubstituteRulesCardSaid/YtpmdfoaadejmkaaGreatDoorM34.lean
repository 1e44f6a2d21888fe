/-
  The program's rules: which rule matches.
-/
import Derived.Test.YtpmdfoaadejmkaaGreatDoorM33
import Derived.Test.YtpmdfoaadejmkaaGreatDoorM14
import Derived.Laws.CopyRow
import Derived.Lib.Overlaps
namespace Go.Proofs.YtpmdfoaadejmkaaGreatDoor
open Go.RowKit
attribute [local irreducible] AT bJ AX AO Av Kt bi dq DA cG
section
variable {wb:Nat} {f:aZ} {v:AV}
set_option maxHeartbeats 8000000 in
theorem oU (l:aL) (q:Option dD) (run:List aJ) (hq:cu q run) (sets:List (List Int)) (hs:sH sets) (ps:List Nat) (hl:sets.length≤ps.length) (hp:∀p∈ps,p < run.length):
  AC Tryz.prog 280 [dA wb,.iptr (pP l),.imm 1 (bc sets),.imm 1 (bQ ps)] (ey wb f v q run) fun c L=>c=d6 (dv sets (ps.map (cV run)))∧L=ey wb f v q run:=by
 refine aN Tryz.func280 rfl Tryz.ntmps280 rfl fun B=>?_
 have hil:=bY sets
 have hfew:=hs.few
 repeat' (first|refine L3 ?_|refine ak ?_|refine KG a4 HY ?_)
 refine aR [0,1,3,11,12] (α:=Nat) (fun k=>[(13,aF k)]) (fun k=>k≤sets.length∧dv sets (ps.map (cV run))=dv (sets.drop k) ((ps.drop k).map (cV run))) (fun _=>ey wb f v q run) (fun k=>sets.length - k) 0 rfl ⟨rfl,trivial⟩ ⟨Nat.zero_le _,rfl⟩ (fun _ _ h=>h) ?_
 rintro k ⟨hk,hv⟩
 try dsimp only [Kr,Kq,Kp,Lv]
 repeat' (first|refine L3 ?_|refine KG a4 HY ?_)
 refine aw rfl (fun h=>?_) (fun h=>?_)
 ·have hk2:k < sets.length:=by have:=Ky h;omega
  obtain ⟨s,hsg⟩:∃s,sets[k]?=some s:=⟨_,Kz hk2⟩
  obtain ⟨p,hpg⟩:∃p,ps[k]?=some p:=⟨_,Kz (by omega)⟩
  have hpl:=hp p (Kw hpg)
  obtain ⟨m,rfl⟩:=hq.lt hpl
  obtain ⟨z,hz⟩:∃z,run[p]?=some z:=⟨_,Kz hpl⟩
  have hsgg:=gn hsg
  have hpgg:(bQ ps)[k]?=some [aF p]:=by unfold bQ;exact bP (by rw [List.getElem?_map,hpg];rfl)
  have hf0:=ic (j:=0) m.junk hz rfl
  have hss:=hs.set s (Kw hsg)
  have hfn:jm Tryz.prog D1 [.imm 1 (aW s),aF z.Glyph] [] fun c _=>c=d6 (s.contains z.Glyph):=jm.fn0 (Aj s hss.1 hss.2 z.Glyph)
  rw [tV hsg,tV hpg,Kp,dv,rd hz] at hv
  clear h
  repeat' (first|refine L3 ?_|refine ak ?_|refine KG a4 HY ?_|(apply aQ;first|refine aO a4 ?_|refine aG a4 ?_)|fail)
  refine bn 18 [(0,.v),(1,.v),(2,.v),(3,.v),(4,.v),(5,.v),(6,.v),(7,.v),(8,.l),(9,.v),(10,.v),(11,.v),(12,.v),(13,.v),(14,.v),(15,.l),(16,.e),(17,.v)] none ?_ trivial rfl (by kernel_rfl) (by kernel_rfl) (by kernel_rfl) bI (by kernel_rfl) rfl
  repeat' (first|refine aB ?_|refine aX a4 ?_|(apply cm;refine cA a4 ?_)|refine KY a4 0 KB (by first|trivial|rfl) ?_)
  refine cR a4 rfl rfl rfl ⟨by omega,by omega⟩ trivial ?_
  repeat' (first|refine aB ?_|refine aX a4 ?_|fail)
  refine bN a4 1 rfl rfl rfl hf0 trivial ?_
  repeat' (first|refine aB ?_|fail)
  refine F0 [] _ hfn rfl rfl (Lz _) trivial fun c L1 hc=>?_
  subst hc
  repeat' (first|refine aB ?_|refine aX a4 ?_|fail)
  refine KU [0,1,3,11,12,13,35] HY ?_
  refine aP (c6 (L':=ey wb f v (some m) run) (List.sublist_append_right ..)) ?_
  repeat' (first|refine a6 ?_|refine a7 ?_)
  refine aw rfl (fun h=>?_) (fun h=>?_)
  ·have hc:s.contains z.Glyph=false:=by simpa using h
   rw [hc,Bool.false_and] at hv
   repeat' (first|refine L3 ?_|refine KG a4 HY ?_)
   exact KP HY ⟨by rw [hv],rfl⟩
  ·have hc:s.contains z.Glyph=true:=by simpa using h
   rw [hc,Bool.true_and] at hv
   repeat' (first|refine L3 ?_|refine KG a4 HY ?_|(apply aU;refine aT ?_)|fail)
   exact aD (k+1) rfl ⟨by rw [Kv];rfl,trivial⟩ ⟨hk2,hv⟩ (by omega) (fun _ _ h=>h)
 ·have hk2:k=sets.length:=by have:=Kx h;omega
  subst hk2
  rw [List.drop_length,dv] at hv
  repeat' (first|refine L3 ?_|refine KG a4 HY ?_)
  exact KP HY ⟨by rw [hv],rfl⟩
set_option maxHeartbeats 8000000 in
theorem zL (l:aL) (q:Option dD) (run:List aJ) (hq:cu q run) (hr:run.length≤1000000) (i:Nat) (hi:i < run.length) (forms:List Int):
  AC Tryz.prog 244 [dA wb,.iptr (pP l),aF i,.imm 1 (aW forms)] (ey wb f v q run) fun c L=>c=d6 (iq (aS f) l.Ignore run i forms)∧L=ey wb f v q run:=by
 refine aN Tryz.func244 rfl Tryz.ntmps244 rfl fun B=>?_
 have hfl:=bb forms
 obtain ⟨m,rfl⟩:=hq.lt hi
 obtain ⟨z,hz⟩:∃z,run[i]?=some z:=⟨_,Kz hi⟩
 have hf0:=ic (j:=0) m.junk hz rfl
 have hf2:=ic (j:=2) m.junk hz rfl
 have him:=t7 wb f (cM (some m) run) v z.Glyph
 have hb:iq (aS f) l.Ignore run i forms=(iG (aS f) l.Ignore z && (forms.isEmpty || forms.contains z.Form)):=by
  unfold iq
  rw [hz]
 have he:decide ((forms.length:Int)=0)=forms.isEmpty:=by cases forms <;> simp <;> omega
 rw [hb]
 obtain ⟨kd,ig,rs⟩:=l
 dsimp only
 repeat' (first|refine L3 ?_|refine KG a4 HY ?_|refine KR HY ?_|(apply bo;first|refine KM a4 0 KC ?_|refine KM a4 1 KC ?_|refine KM a4 2 KC ?_|refine KM a4 3 KC ?_|refine KN a4 0 KC ?_|refine KN a4 1 KC ?_|refine KN a4 2 KC ?_|refine KO a4 1 KA (by assumption) rfl ?_|refine KO a4 0 KA (by assumption) rfl ?_|fail)|fail)
 refine ce [0,2,3] (iG (aS f) ig z=false) rfl (fun Q' K=>?_) (fun hC=>?_) (fun hC=>?_)
 ·rw [decide_eq_false (show ¬(i:Int) < 0 by omega)]
  repeat' (first|fail)
  rw [decide_eq_false (show ¬(run.length:Int)≤(i:Int) by omega)]
  repeat' (first|refine KG a4 HY ?_|refine KR HY ?_)
  cases ig
  ·repeat' (first|refine L3 ?_|refine KG a4 HY ?_|refine KR HY ?_|refine KV KB ?_)
   exact K _ _ rfl rfl (by simp [iG])
  ·repeat' (first|refine KG a4 HY ?_|refine KR HY ?_|(apply bo;first|refine KM a4 0 KC ?_|refine KM a4 1 KC ?_|refine KM a4 2 KC ?_|refine KM a4 3 KC ?_|refine KN a4 0 KC ?_|refine KN a4 1 KC ?_|refine KN a4 2 KC ?_|refine KO a4 1 KA (by assumption) rfl ?_|refine KO a4 0 KA (by assumption) rfl ?_|fail)|(apply aQ;first|refine aO a4 ?_|refine aG a4 ?_)|fail)
   refine b6 [BB wb f (cM (some m) run) v] _ him rfl rfl (Lz _) rfl fun c L1 ⟨hc,hL⟩=>?_
   subst hc;subst hL
   repeat' (first|refine L3 ?_|refine KG a4 HY ?_|refine KR HY ?_)
   exact K _ _ rfl rfl (by simp [iG])
 ·rw [hC]
  repeat' (first|refine L3 ?_|refine KG a4 HY ?_)
  exact KP HY ⟨rfl,rfl⟩
 ·have hC:iG (aS f) ig z=true:=by simpa using hC
  rw [hC,Bool.true_and]
  repeat' (first|refine L3 ?_|refine KG a4 HY ?_)
  rw [hfl,he]
  generalize forms.isEmpty=b2
  cases b2
  ·repeat' (first|refine L3 ?_|refine KG a4 HY ?_|refine KR HY ?_|(apply bo;first|refine KM a4 0 KC ?_|refine KM a4 1 KC ?_|refine KM a4 2 KC ?_|refine KM a4 3 KC ?_|refine KN a4 0 KC ?_|refine KN a4 1 KC ?_|refine KN a4 2 KC ?_|refine KO a4 1 KA (by assumption) rfl ?_|refine KO a4 0 KA (by assumption) rfl ?_|fail)|(apply aQ;first|refine aO a4 ?_|refine aG a4 ?_)|(apply bF;refine bv ?_)|fail)
   exact KP HY ⟨rfl,rfl⟩
  ·repeat' (first|refine L3 ?_|refine KG a4 HY ?_|refine KV KB ?_)
   exact KP HY ⟨rfl,rfl⟩
end
end Go.Proofs.YtpmdfoaadejmkaaGreatDoor
namespace Go.Proofs.YtpmdfoaadejmkaaGreatDoor
open Go.RowKit
attribute [local irreducible] AT bJ AX AO Av Kt bi dq DA cG
section
variable {wb:Nat} {f:aZ} {v:AV}
set_option maxHeartbeats 8000000 in
theorem xK (l:aL) (r:bh) (hrr:qu r) (q:Option dD) (run:List aJ) (hq:cu q run) (hr:run.length≤1000000) (i:Nat) (hi:i < run.length) (M M':Nat) (hM:r.In.length+r.Ahead.length≤M) (hM':r.Back.length≤M'):
  AC Tryz.prog 247 [dA wb,.iptr (pP l),.agg (bC (lj r)),.imm 1 (bQ ((dk (aS f) l.Ignore run i).take M)),.imm 1 (bQ ((gN (aS f) l.Ignore run i).take M'))] (ey wb f v q run) fun c L=>c=d6 (dM (aS f) l.Ignore run i r)∧L=ey wb f v q run:=by
 refine aN Tryz.func247 rfl Tryz.ntmps247 rfl fun B=>?_
 obtain ⟨m,rfl⟩:=hq.lt hi
 have c1:(bc (lj r).Back).length=r.Back.length:=bY r.Back
 have c2:(bc (lj r).In).length=r.In.length:=bY r.In
 have c3:(bc (lj r).Ahead).length=r.Ahead.length:=bY r.Ahead
 have b1:=hrr.back.few
 have b2:=hrr.in_.few
 have b3:=hrr.ahead.few
 have hfl:∀p∈(dk (aS f) l.Ignore run i).take M,p < run.length:=fun p hp=>(rc p (List.mem_of_mem_take hp)).2.1
 have hbl:∀p∈(gN (aS f) l.Ignore run i).take M',p < run.length:=fun p hp=>by have:=(qI p (List.mem_of_mem_take hp)).1;omega
 have hval:dM (aS f) l.Ignore run i r=(!r.In.isEmpty && ((dv r.In (((dk (aS f) l.Ignore run i).take M).map (cV run)) && dv r.Ahead ((((dk (aS f) l.Ignore run i).take M).drop r.In.length).map (cV run))) && dv r.Back (((gN (aS f) l.Ignore run i).take M').map (cV run)))):=by
  unfold dM
  rw [←jZ (ss:=r.In++r.Ahead) (k:=M) (by rw [List.length_append];exact hM),←jZ (ss:=r.Back) (k:=M') hM',←List.map_take,←List.map_take,vu,List.map_drop]
 have hn1:=f8 ((dk (aS f) l.Ignore run i).take M)
 have hn2:=f8 ((gN (aS f) l.Ignore run i).take M')
 generalize (dk (aS f) l.Ignore run i).take M=F at *
 generalize (gN (aS f) l.Ignore run i).take M'=G at *
 rw [hval]
 repeat' (first|refine L3 ?_|refine KG a4 HY ?_|refine bA ?_|fail)
 refine ce [0,1,3,4,7,11] (r.In.length=0∨F.length < r.In.length+r.Ahead.length∨G.length < r.Back.length) rfl (fun Q' K=>?_) (fun hC=>?_) (fun hC=>?_)
 ·repeat' (first|refine L3 ?_|refine KG a4 HY ?_|refine KR HY ?_|refine KV KB ?_|(apply aU;refine aT ?_)|refine KW KA (fun _=>?_) (fun _=>?_))
  all_goals exact K _ _ rfl rfl (by simp_all <;> omega)
 ·have hno:(!r.In.isEmpty && ((dv r.In (F.map (cV run)) && dv r.Ahead ((F.drop r.In.length).map (cV run))) && dv r.Back (G.map (cV run))))=false:=by
   rcases hC with h | h | h
   ·have:r.In=[]:=List.length_eq_zero_iff.1 h
    rw [this]
    rfl
   ·by_cases h2:F.length < r.In.length
    ·rw [g7 (a:=r.In) (by rw [Ku];exact h2)]
     simp
    ·rw [g7 (a:=r.Ahead) (by rw [Ku,List.length_drop];omega)]
     simp
   ·rw [g7 (a:=r.Back) (by rw [Ku];exact h)]
    simp
  rw [hno]
  repeat' (first|refine L3 ?_|refine KG a4 HY ?_)
  exact KP HY ⟨rfl,rfl⟩
 ·have hne:r.In.isEmpty=false:=by
   cases h:r.In with
   | nil=>rw [h] at hC;simp at hC
   | cons a b=>rfl
  have s1:=oU (wb:=wb) (f:=f) (v:=v) l (some m) run hq r.In hrr.in_ F (by omega) hfl
  have s2:=oU (wb:=wb) (f:=f) (v:=v) l (some m) run hq r.Ahead hrr.ahead (F.drop r.In.length) (by rw [List.length_drop];omega) (fun p hp=>hfl p (List.mem_of_mem_drop hp))
  have s3:=oU (wb:=wb) (f:=f) (v:=v) l (some m) run hq r.Back hrr.back G (by omega) hbl
  have hdr:(bQ F).drop r.In.length=bQ (F.drop r.In.length):=by unfold bQ aW;rw [List.map_drop,List.map_drop]
  rw [hne]
  generalize dv r.In (F.map (cV run))=x1 at *
  generalize dv r.Ahead ((F.drop r.In.length).map (cV run))=x2 at *
  generalize dv r.Back (G.map (cV run))=x3 at *
  repeat' (first|refine L3 ?_|fail)
  refine bn 22 [(0,.v),(1,.v),(2,.v),(3,.v),(4,.v),(5,.e),(6,.v),(7,.v),(8,.v),(9,.v),(10,.v),(11,.v),(12,.v),(13,.v),(14,.e),(15,.v),(16,.v),(17,.v),(18,.v),(19,.v),(20,.v),(21,.v)] none ?_ trivial rfl (by kernel_rfl) (by kernel_rfl) (by kernel_rfl) bI (by kernel_rfl) rfl
  repeat' (first|refine aB ?_|refine aX a4 ?_|fail)
  refine fG (ey wb f v (some m) run) [] s1 rfl rfl (bK rfl) trivial fun c L1 ⟨hc,hL⟩=>?_
  subst hc;subst hL
  rw [List.append_nil]
  cases x1
  ·repeat' (first|refine aB ?_|refine aX a4 ?_|refine ld rfl rfl ?_)
   refine Hn rfl rfl ?_
   repeat' (first|refine aB ?_|refine aX a4 ?_|refine ld rfl rfl ?_)
   refine KU [51,52,53,55,56] HY ?_
   repeat' (first|refine L3 ?_|refine a7 ?_|refine KG a4 HY ?_|refine KV KB ?_)
   exact KP HY ⟨rfl,rfl⟩
  ·repeat' (first|refine aB ?_|refine aX a4 ?_|fail)
   refine F1 a4 r.In.length rfl rfl rfl rfl rfl (by rw [c2]) (by omega) rfl ?_
   rw [hdr]
   repeat' (first|refine aB ?_|fail)
   refine fG (ey wb f v (some m) run) [] s2 rfl rfl (bK rfl) rfl fun c L1 ⟨hc,hL⟩=>?_
   subst hc;subst hL
   rw [List.append_nil]
   cases x2
   ·repeat' (first|refine aB ?_|refine aX a4 ?_|refine ld rfl rfl ?_)
    refine KU [51,52,53,55,56] HY ?_
    repeat' (first|refine L3 ?_|refine a7 ?_|refine KG a4 HY ?_|refine KV KB ?_)
    exact KP HY ⟨rfl,rfl⟩
   ·repeat' (first|refine aB ?_|refine aX a4 ?_|fail)
    refine KU [51,52,53,55,56] HY ?_
    repeat' (first|refine KR HY ?_)
    refine b6 (ey wb f v (some m) run) [] s3 rfl rfl (bK rfl) rfl fun c L1 ⟨hc,hL⟩=>?_
    subst hc;subst hL
    rw [List.append_nil]
    repeat' (first|refine L3 ?_|refine KG a4 HY ?_)
    exact KP HY ⟨rfl,rfl⟩
end
end Go.Proofs.YtpmdfoaadejmkaaGreatDoor
namespace Go.Proofs.YtpmdfoaadejmkaaGreatDoor
open Go.RowKit
attribute [local irreducible] AT bJ AX AO Av Kt bi dq DA cG
def fX (f:aZ) (m:Value→Option AV):Prop:=∀u c,m u=some c→∃(k:Nat) (l:aL),u= .int .i64 (k:Int)∧f.Lookups[k]?=some l∧c= .iptr (pP l)
abbrev lR (mb:Nat):AV:= .sc (.map (some mb))
abbrev nM (mb:Nat) (m:Value→Option AV):Nat×AB:=(mb,dc (.int .i64) m)
section
variable {f:aZ} (hf:iz f) {wb:Nat}
include hf
set_option maxHeartbeats 4000000 in
theorem xJ {mb:Nat} {u:AV} (m:Value→Option AV) (hm:fX f m) (n:Nat) (l:aL) (hl:f.Lookups[n]?=some l):AC Tryz.prog 171 [dA wb,aF n] [BB wb f u (lR mb),nM mb m] fun c L=>c= .iptr (pP l)∧∃m',fX f m'∧L=[BB wb f u (lR mb),nM mb m']:=by
 refine aN Tryz.func171 rfl Tryz.ntmps171 rfl fun B=>?_
 have hlg:=c5 (c:=bw) hl
 have hlm:=Kw hl
 have hfew:=hf.few l hlm
 haveI:=AD.mk (wk l (by omega) fun r hr=>hf.ruleR hlm hr)
 haveI:=AD.mk (xQ l (by omega) fun r hr=>hf.ruleR hlm hr)
 repeat' (first|refine L3 ?_|refine KG a4 HY ?_|(apply bo;first|refine KM a4 0 KC ?_|refine KM a4 1 KC ?_|refine KM a4 2 KC ?_|refine KM a4 3 KC ?_|refine KN a4 0 KC ?_|refine KN a4 1 KC ?_|refine KN a4 2 KC ?_|refine KO a4 1 KA (by assumption) rfl ?_|refine KO a4 0 KA (by assumption) rfl ?_|fail)|fail)
 refine gY 1 (.pointer none) Tryz.underlying171 Tryz.underlying3 rfl rfl rfl rfl (by kernel_rfl) rfl ?_
 cases hmn:m (.int .i64 (n:Int)) with
 | some c=>
  obtain ⟨k,l',hk,hl',hc⟩:=hm _ _ hmn
  have hkn:k=n:=by injection hk with _ e;omega
  subst hkn
  rw [hl] at hl'
  cases hl'
  subst hc
  dsimp only [Option.getD_some,Option.isSome_some]
  repeat' (first|refine L3 ?_|refine KG a4 HY ?_|refine bE rfl ?_)
  exact KP HY ⟨rfl,m,hm,rfl⟩
 | none=>
  dsimp only [Option.getD_none,Option.isSome_none]
  repeat' (first|refine L3 ?_|refine KG a4 HY ?_|(apply bo;first|refine KM a4 0 KC ?_|refine KM a4 1 KC ?_|refine KM a4 2 KC ?_|refine KM a4 3 KC ?_|refine KN a4 0 KC ?_|refine KN a4 1 KC ?_|refine KN a4 2 KC ?_|refine KO a4 1 KA (by assumption) rfl ?_|refine KO a4 0 KA (by assumption) rfl ?_|fail)|(apply aQ;first|refine aO a4 ?_|refine aG a4 ?_)|(apply bF;refine bv ?_)|refine bH rfl ?_)
  refine eg 1 (nO m (.int .i64 (n:Int)) (.iptr (pP l))) Tryz.underlying171 Tryz.underlying3 rfl rfl rfl rfl rfl gX (fun q h=>g9 q h) ?_
  repeat' (first|refine L3 ?_|refine KG a4 HY ?_)
  refine KP HY ⟨rfl,_,fun u c h=>?_,rfl⟩
  by_cases e:u= .int .i64 (n:Int)
  ·rw [e,gX] at h
   cases h
   exact ⟨n,l,e,hl,rfl⟩
  ·rw [g9 u e] at h
   exact hm u c h
set_option maxHeartbeats 8000000 in
theorem oX {v:AV} (l:aL) (hl:l∈f.Lookups) (q:Option dD) (run:List aJ) (hq:cu q run) (hr:run.length≤1000000) (i:Nat) (hi:i < run.length) (forms:List Int):
  AC Tryz.prog 172 [dA wb,.iptr (pP l),aF i,.imm 1 (aW forms)] (ey wb f v q run) fun c L=>c=rr (aS f) l run i forms∧L=ey wb f v q run:=by
 refine aN Tryz.func172 rfl Tryz.ntmps172 rfl fun B=>?_
 have hbe:=zL (wb:=wb) (f:=f) (v:=v) l q run hq hr i hi forms
 unfold rr kS
 repeat' (first|refine L3 ?_|refine KG a4 HY ?_)
 refine b6 (ey wb f v q run) [] hbe rfl rfl (bK rfl) rfl fun c L1 ⟨hc,hL⟩=>?_
 subst hc;subst hL
 rw [List.append_nil]
 cases hb:iq (aS f) l.Ignore run i forms
 ·repeat' (first|refine L3 ?_|refine KG a4 HY ?_|refine bH rfl ?_)
  exact KX KA ⟨rfl,rfl⟩
 ·rw [if_pos rfl]
  have hfew:=hf.few l hl
  have hbd:=yL (rs:=l.Rules) (fun r hr=>hf.ruleR hl hr) l.Rules.length
  rw [List.take_length] at hbd
  have f1:=sY (wb:=wb) (f:=f) (v:=v) hq hr l.Ignore true (i:Int) ⟨by omega,fun _=>by omega,fun e=>by cases e⟩ (by omega) (dP l.Rules) (by omega)
  have f2:=sY (wb:=wb) (f:=f) (v:=v) hq hr l.Ignore false ((i:Int) - 1) ⟨by omega,(fun e=>by cases e),fun _=>by omega⟩ (by omega) (eQ l.Rules) (by omega)
  rw [s5] at f1
  rw [s4] at f2
  repeat' (first|refine L3 ?_|refine KG a4 HY ?_|refine bE rfl ?_)
  refine bn 11 [(0,.v),(1,.v),(2,.v),(3,.v),(4,.v),(5,.v),(6,.v),(7,.v),(8,.v),(9,.v),(10,.v)] none ?_ trivial rfl (by kernel_rfl) (by kernel_rfl) (by kernel_rfl) bI (by kernel_rfl) rfl
  repeat' (first|refine aB ?_|refine aX a4 ?_|(apply dh;refine dK ?_)|fail)
  refine KU [0,1,2,23,30] HY ?_
  repeat' (first|fail)
  refine b6 (ey wb f v q run) [] f1 rfl rfl (bK rfl) rfl fun c L1 ⟨hc,hL⟩=>?_
  subst hc;subst hL
  rw [List.append_nil]
  repeat' (first|refine L3 ?_|refine KG a4 HY ?_)
  refine bn 12 [(0,.v),(1,.v),(2,.v),(3,.v),(4,.v),(5,.v),(6,.v),(7,.v),(8,.v),(9,.v),(10,.v),(11,.v)] none ?_ trivial rfl (by kernel_rfl) (by kernel_rfl) (by kernel_rfl) bI (by kernel_rfl) rfl
  repeat' (first|refine aB ?_|refine aX a4 ?_|(apply dz;refine eL ?_)|(apply dh;refine dK ?_)|fail)
  refine KU [0,1,10,35,43] HY ?_
  repeat' (first|fail)
  refine b6 (ey wb f v q run) [] f2 rfl rfl (bK rfl) rfl fun c L1 ⟨hc,hL⟩=>?_
  subst hc;subst hL
  rw [List.append_nil]
  repeat' (first|refine L3 ?_|refine ak ?_|refine KG a4 HY ?_)
  have hml:((gQ l).Rules.map bC).length=l.Rules.length:=by rw [Ku];exact Ku ..
  repeat' (first|fail)
  refine aR [0,1,10,11,48,49] (α:=Nat) (fun k=>[(50,aF k)]) (fun k=>k≤l.Rules.length∧∀r∈l.Rules.take k,dM (aS f) l.Ignore run i r=false) (fun _=>ey wb f v q run) (fun k=>l.Rules.length - k) 0 rfl ⟨rfl,trivial⟩ ⟨Nat.zero_le _,by simp⟩ (fun _ _ h=>h) ?_
  rintro k ⟨hk,hno⟩
  try dsimp only [Kr,Kq,Kp,Lv]
  repeat' (first|refine L3 ?_|refine KG a4 HY ?_)
  refine aw rfl (fun h=>?_) (fun h=>?_)
  ·have hk2:k < l.Rules.length:=by have:=Ky h;omega
   obtain ⟨r,hrk⟩:∃r,l.Rules[k]?=some r:=⟨_,Kz hk2⟩
   have hrm:=Kw hrk
   have hrg:((gQ l).Rules.map bC)[k]?=some (bC (lj r)):=by
    unfold gQ
    rw [List.getElem?_map,List.getElem?_map,hrk]
    rfl
   have hM:=(k5 (g:=fun r:bh=>r.In.length+r.Ahead.length) (m:=0)).2 r hrm
   have hM':=(k5 (g:=fun r:bh=>r.Back.length) (m:=0)).2 r hrm
   have hma:=xK (wb:=wb) (f:=f) (v:=v) l r (hf.ruleR hl hrm) q run hq hr i hi (dP l.Rules) (eQ l.Rules) hM hM'
   clear h
   repeat' (first|refine L3 ?_|refine ak ?_|refine KG a4 HY ?_|(apply aQ;first|refine aO a4 ?_|refine aG a4 ?_)|(apply aM;first|refine KL 13 a4 0 KF ?_|refine KL 13 a4 1 KF ?_|refine KL 13 a4 2 KF ?_|refine KH a4 0 KE ?_|refine KH a4 1 KE ?_|refine KH a4 2 KE ?_|refine KH a4 3 KE ?_|fail)|refine bq a4 fun _=>?_|fail)
   refine b6 (ey wb f v q run) [] hma rfl rfl (bK rfl) rfl fun c L1 ⟨hc,hL⟩=>?_
   subst hc;subst hL
   rw [List.append_nil]
   cases hrf:dM (aS f) l.Ignore run i r
   ·repeat' (first|refine L3 ?_|refine KG a4 HY ?_|(apply aU;refine aT ?_)|refine bE rfl ?_)
    refine aD (k+1) rfl ⟨by rw [Kv];rfl,trivial⟩ ⟨hk2,fun y hy=>?_⟩ (by omega) (fun _ _ h=>h)
    rw [List.take_add_one,hrk,List.mem_append] at hy
    rcases hy with hy | hy
    ·exact hno y hy
    ·simp at hy
     rw [hy]
     exact hrf
   ·have hidx:=Hs hrk hrf hno
    obtain ⟨g1,g2⟩:=lZ hrf
    have hfm:r.In.length≤dP l.Rules:=vD hrm
    have c2:(bc (lj r).In).length=r.In.length:=bY r.In
    have hnl:=f8 ((dk (aS f) l.Ignore run i).take (dP l.Rules))
    rw [List.length_take] at hnl
    have hcut:(bQ ((dk (aS f) l.Ignore run i).take (dP l.Rules))).take r.In.length=bQ ((dk (aS f) l.Ignore run i).take r.In.length):=by
     unfold bQ aW
     rw [←List.map_take,←List.map_take,List.take_take,Nat.min_eq_left hfm]
    rw [hidx]
    repeat' (first|refine L3 ?_|refine bH rfl ?_)
    refine bn 10 [(0,.v),(1,.v),(2,.v),(3,.v),(4,.v),(5,.v),(6,.v),(7,.v),(8,.v),(9,.v)] none ?_ trivial rfl (by kernel_rfl) (by kernel_rfl) (by kernel_rfl) bI (by kernel_rfl) rfl
    repeat' (first|refine aB ?_|refine aX a4 ?_|fail)
    refine yE a4 r.In.length rfl rfl rfl rfl rfl rfl (by rw [c2]) (by rw [c2]) (by omega) trivial ?_
    rw [hcut]
    repeat' (first|refine aB ?_|refine aX a4 ?_|fail)
    refine KU [8,69] HY ?_
    repeat' (first|refine L3 ?_|refine a7 ?_|refine KG a4 HY ?_)
    refine KX KA ⟨?_,rfl⟩
    simp only [hrk,Option.map_some,Option.getD_some]
  ·have hk2:k=l.Rules.length:=by have:=Kx h;omega
   subst hk2
   rw [List.take_length] at hno
   rw [List.findIdx?_eq_none_iff.2 hno]
   repeat' (first|refine L3 ?_|refine KG a4 HY ?_)
   exact KX KA ⟨rfl,rfl⟩
end
end Go.Proofs.YtpmdfoaadejmkaaGreatDoor
namespace Go.Proofs.YtpmdfoaadejmkaaGreatDoor
open Go.RowKit
section
variable {P:Program} {fr:cf} {B:Bs} {L:AL} {ty t t':TypeId} {pos:String} {af:Array Edge} {g:Option (Nat×Bool)} {x y:Operand}
theorem BX (i:Nat) {dd:Option Tmp} {e e' sz by_ b off n c m:Nat} {cs es:List AV} (hc:kv P t e sz by_) (hx:br fr x=some (.sc (.slice (some ⟨b,off,none⟩) n c))) (hy:qw fr B L y sz m es) (hL:L[i]?=some (b,.box cs e')) (hfit:off+min m n * sz≤cs.length):
  AO P ⟨dd,.call ⟨.builtin .copy,#[x,y],#[t,t']⟩,ty,pos,af,g⟩ fr B L (fun r L'=>r=aF ((min m n:Nat):Int)∧L'=eZ L i (.box (cs.take off++es.take (min m n * sz)++cs.drop (off+min m n * sz)) e')):=by
 intro σ ρ w hρ hw
 obtain ⟨A,c2,ys,hA,hyr,hy1,hyl,hyc⟩:=hy σ ρ w hρ hw
 have hxv:=(hρ x _ hx).sc_inv
 haveI:=hc
 obtain ⟨inf,zz,hi,hsz,_,_,_⟩:=hc.info
 obtain ⟨vs,hb,hvs,h1⟩:=hw.boxCell hL
 have hl:=hvs.1
 have hmin:Nat.min m n=min m n:=rfl
 generalize hk:min m n=k at *
 have hlen:(ys.take (k * sz)).length=k * sz:=by
  rw [List.length_take,hyl]
  have:k≤m:=by omega
  have:=Nat.mul_le_mul_right sz this
  omega
 have hstore:=run_storeCells_at P b off e' (ys.take (k * sz)) 0 vs.toArray w hb (by rw [hlen];simp;omega) (fun v hv=>hy1 v (List.mem_of_mem_take hv))
 unfold gR
 rw [show (execOp ρ ⟨dd,.call ⟨.builtin .copy,#[x,y],#[t,t']⟩,ty,pos,af,g⟩).run P w= .ok (.value (.int .i64 k)) (w.setRow b (vs.toArray.toList.take off++ys.take (k * sz)++vs.toArray.toList.drop (off+(ys.take (k * sz)).length)).toArray) by
  by_cases hk0:k=0
  ·subst hk0
   simp only [Nat.zero_mul,List.take_zero,List.append_nil,List.length_nil,Nat.add_zero,List.take_append_drop] at hstore ⊢
   have h0:(Builtin.firstCells inf.size 0 (.slice A m c2)).run P w= .ok #[] w:=by
    cases A with
    | none=>rfl
    | some a=>
     have:=run_loadCells_list (P:=P) w a [] (by simp)
     simpa [Builtin.firstCells] using this
   simp [execOp,resolve,hxv,hA,invoke,builtin,Builtin.copy_,run_underlying hc.under,Builtin.lenOf,sizeOf,typeInfo,hi,hmin,h0,storeCells,goInt]
   exact (setRow_self w b vs.toArray e' (0,0) hb).symm
  ·have hm0:0 < m:=by omega
   obtain ⟨b2,off2,rfl,hcell⟩:=hyc hm0
   have hld:=run_loadCells_list (P:=P) w ⟨b2,off2,none⟩ (ys.take (k * sz)) (fun j v hj=>hcell j v (by
    have hjl:=(Ko hj).1
    rw [List.length_take] at hjl
    rw [List.getElem?_take_of_lt (by omega)] at hj
    exact hj))
   rw [hlen] at hld
   simp only [Nat.add_zero] at hstore
   simp [execOp,resolve,hxv,hA,invoke,builtin,Builtin.copy_,run_underlying hc.under,Builtin.lenOf,Builtin.firstCells,sizeOf,typeInfo,hi,hsz,hmin,hld,hstore,goInt]]
 rw [hlen]
 refine ⟨σ,.sc _,_,cr.le_refl _,.sc _,hw.putAt (a':= .box (cs.take off++es.take (k * sz)++cs.drop (off+k * sz)) e') hL (fun _=>trivial) ⟨rfl,rfl,rfl,by simp,fun k _ hk=>setRow_other w b k _ (fun e=>hk (by simp [e]))⟩ (setRow_heap w b _ _ e' _ hb) ⟨_,rfl,er (er (fU hvs _) (fU hyr _)) (m9 hvs _),fun u hu=>?_⟩,rfl,rfl⟩
 rcases Ly hu with hu | hu
 ·rcases Ly hu with hu | hu
  ·exact h1 _ (List.mem_of_mem_take hu)
  ·exact hy1 _ (List.mem_of_mem_take hu)
 ·exact h1 _ (List.mem_of_mem_drop hu)
end
section
variable {P:Program} {tt:TT} {r:Option Nat} {ops:Array Oper} {Q:Exit→Act→World→Prop} {nt:Nat} {D:List Deferred} {fr:cf} {B:Bs} {L:AL} {rest:List Oper} {d:Nat} {ty t t':TypeId} {pos:String} {af:Array Edge} {x y:Operand}
theorem mq (ok:ez P tt) (i:Nat) {e e' sz by_ b off n c m:Nat} {cs es:List AV} (ht:jN tt t=some (e,sz,by_)) (hx:br fr x=some (.sc (.slice (some ⟨b,off,none⟩) n c))) (hy:qw fr B L y sz m es) (hL:L[i]?=some (b,.box cs e')) (hfit:off+min m n * sz≤cs.length) (hd:Nat.ble nt d=false)
  (h:bJ P r ops Q nt D rest ((d,aF ((min m n:Nat):Int))::fr) B (eZ L i (.box (cs.take off++es.take (min m n * sz)++cs.drop (off+min m n * sz)) e'))):
  bJ P r ops Q nt D (⟨some d,.call ⟨.builtin .copy,#[x,y],#[t,t']⟩,ty,pos,af,none⟩::rest) fr B L:=
 cN hd rfl (BX i (bz ok ht).1 hx hy hL hfit) fun c L' ⟨h1,h2⟩=>by subst h1;subst h2;exact h
end
end Go.Proofs.YtpmdfoaadejmkaaGreatDoor
namespace Go.Proofs.YtpmdfoaadejmkaaGreatDoor
open Go.RowKit
theorem HT (w:World):(Go.sizeOf 67).run Tryz.prog w= .ok 6 w:=by
 have h:(Tryz.prog.info? 67).map (·.size)=some 6:=by kernel_rfl
 cases hq:Tryz.prog.info? 67 with
 | none=>rw [hq] at h;cases h
 | some i=>
  rw [hq] at h
  have hi:i.size=6:=by simpa using h
  simp [sizeOf,typeInfo,hq,hi]
section
variable {fr:cf} {B:Bs} {L:AL} {ty:TypeId} {pos:String} {af:Array Edge} {g:Option (Nat×Bool)} {x y:Operand}
theorem v3 (i j:Nat) {dd:Option Tmp} {ts:Array TypeId} {b off n c b2 off2 n2 c2:Nat} {cs cs2:List AV} {e e2:TypeId} (hij:i≠j) (hx:br fr x=some (.sc (.slice (some ⟨b,off,none⟩) n c))) (hy:br fr y=some (.sc (.slice (some ⟨b2,off2,none⟩) n2 c2))) (hL:L[i]?=some (b,.box cs e)) (hL2:L[j]?=some (b2,.box cs2 e2)) (h0:cs2≠[]):
  AO Tryz.prog ⟨dd,.call ⟨.value (.func 296),#[x,y],ts⟩,ty,pos,af,g⟩ fr B L (fun r L'=>r=d6 false∧L'=L):=by
 intro σ ρ w hρ hw
 have hxv:=(hρ x _ hx).sc_inv
 have hyv:=(hρ y _ hy).sc_inv
 have hfv:ρ (.func 296)= .func (.func 296) #[] #[]:=(hρ (.func 296) _ rfl).sc_inv
 obtain ⟨vs,hb,hvs,h1⟩:=hw.boxCell hL
 obtain ⟨vs2,hb2,hvs2,h2⟩:=hw.boxCell hL2
 have hne:b≠b2:=by
  intro e
  have h1:(L.map (·.1))[i]?=some b:=by rw [List.getElem?_map,hL];rfl
  have h2:(L.map (·.1))[j]?=some b:=by rw [List.getElem?_map,hL2,e];rfl
  exact hij (rK hw.apart h1 h2)
 have hk:vs2.length≠0:=by
  rw [←hvs2.1]
  exact fun e=>h0 (List.eq_nil_of_length_eq_zero e)
 unfold gR
 rw [show (execOp ρ ⟨dd,.call ⟨.value (.func 296),#[x,y],ts⟩,ty,pos,af,g⟩).run Tryz.prog w= .ok (.value (.bool false)) w by
  have hr:=Lib.run_overlaps_apart (P:=Tryz.prog) w 38 4 67 Tryz.underlying38 6 HT ⟨b,off,none⟩ ⟨b2,off2,none⟩ n c n2 c2 hne e e2 vs.length vs2.length (by simp [World.shape?,hb]) (by simp [World.shape?,hb2]) hk (by simp [World.frozen?,hb]) (by simp [World.frozen?,hb])
  have hc:(callFunc 296 #[ρ x,ρ y]).run Tryz.prog w= .ok (.value (.bool false)) w:=by
   rw [run_callFunc_extern Tryz.func296 (by kernel_rfl) (by kernel_rfl) (by kernel_rfl) (e:=Extern.SlicesOverlaps.overlaps #[38,38] #[4]) (by kernel_rfl),hxv,hyv,hr]
   rfl
  simp [execOp,resolve,hfv,Deferred.ofValue,invoke,hc]]
 exact ⟨σ,.sc _,_,cr.le_refl _,.sc _,hw,rfl,rfl⟩
end
section
variable {r:Option Nat} {ops:Array Oper} {Q:Exit→Act→World→Prop} {nt:Nat} {D:List Deferred} {fr:cf} {B:Bs} {L:AL} {rest:List Oper} {d:Nat} {ty:TypeId} {pos:String} {af:Array Edge} {x y:Operand}
theorem xP (i j:Nat) {ts:Array TypeId} {b off n c b2 off2 n2 c2:Nat} {cs cs2:List AV} {e e2:TypeId} (hij:i≠j) (hx:br fr x=some (.sc (.slice (some ⟨b,off,none⟩) n c))) (hy:br fr y=some (.sc (.slice (some ⟨b2,off2,none⟩) n2 c2))) (hL:L[i]?=some (b,.box cs e)) (hL2:L[j]?=some (b2,.box cs2 e2)) (h0:cs2≠[]) (hd:Nat.ble nt d=false)
  (h:bJ Tryz.prog r ops Q nt D rest ((d,d6 false)::fr) B L):bJ Tryz.prog r ops Q nt D (⟨some d,.call ⟨.value (.func 296),#[x,y],ts⟩,ty,pos,af,none⟩::rest) fr B L:=
 cN hd rfl (v3 i j hij hx hy hL hL2 h0) fun c L' ⟨h1,h2⟩=>by subst h1;subst h2;exact h
end
end Go.Proofs.YtpmdfoaadejmkaaGreatDoor
