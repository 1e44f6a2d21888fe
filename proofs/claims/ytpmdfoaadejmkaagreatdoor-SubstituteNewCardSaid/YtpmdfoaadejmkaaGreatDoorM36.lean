/-
  The document's errors, each of them: all glyphs, and fonts.
-/
import Derived.Test.YtpmdfoaadejmkaaGreatDoorM35
namespace Go.Proofs.YtpmdfoaadejmkaaGreatDoor
open Go.RowKit
attribute [local irreducible] AT bP AX AO Av Kt bb dh DA cG
theorem yg {f:aT} (hf:kP f) {D P:Int→Int} (h:gh f D P):(j8 f).1=eA [(cw ((cj f.Glyphs.length).map D) kr).1,(cw ((cj f.Glyphs.length).map P) lC).1]:=by
 rw [oh hf (qn h) h]
 unfold og
 rw [iM]
 rfl
theorem tv {i:Nat} {z:Int} (h:z > 4):kr i z=34:=by unfold kr;rw [decide_eq_true h];rfl
theorem EG {i:Nat} {z:Int} (h:¬z > 4):kr i z=0:=by unfold kr;rw [decide_eq_false h];rfl
theorem EF {i:Nat} {z:Int} (h:kr i z=0):z≤4:=by
 refine Decidable.byContradiction fun k=>?_
 rw [tv (by omega)] at h
 omega
theorem Cw {i:Nat} {z:Int} (h:z≥1001):lC i z=2:=by unfold lC;rw [decide_eq_true h];rfl
theorem FA {i:Nat} {z:Int} (h:¬z≥1001):lC i z=0:=by unfold lC;rw [decide_eq_false h];rfl
noncomputable def oy (f:aT):Int:=eA [if f.Glyphs.length=0 then 32 else 0,(bT 400 f.Glyphs (cX f)).1,(j8 f).1]
set_option maxHeartbeats 8000000 in
theorem yH (f:aT) (hs:dV f):AC Tryz.prog 80 [ca f] [] (Kv (oy f)):=by
 refine aV Tryz.func80 rfl Tryz.ntmps80 rfl fun B=>?_
 unfold oy
 have hml:(f.Glyphs.map bD).length=f.Glyphs.length:=Nu ..
 refine W0G ?_
 intros
 rename_i rb
 refine aj rfl (fun h=>?_) (fun h=>?_)
 ·have h:=Ny h
  refine W05 ?_
  exact NU a5 0 [] NC (List.nil_sublist _) (lK 0 (by rw [if_pos (by omega)];rfl))
 have h0:f.Glyphs.length≠0:=by have:=Nx h;omega
 rw [if_neg h0,bW rfl]
 clear h
 refine W01 ?_
 refine aj rfl (fun h=>?_) (fun h=>?_)
 ·have h:=Ny h
  refine W05 ?_
  exact NU a5 0 [] NC (List.nil_sublist _) (lK 0 (by rw [ei (by omega)];rfl))
 have hl:(f.Glyphs.length:Int)≤400:=by have:=Nx h;omega
 clear h
 refine W03 ?_
 refine aM [1,2] (α:=Nat) (fun i=>[(3,aK i)]) (fun i=>i≤f.Glyphs.length∧∀j y,j < i→f.Glyphs[j]?=some y→cX f j y=0) (fun _=>[(rb,.box [aK 0,aK 0] 55)]) (fun i=>f.Glyphs.length - i) 0 rfl ⟨rfl,trivial⟩ ⟨Nat.zero_le _,dv⟩ (fun _ _ h=>h) ?_
 rintro i ⟨hi,ha⟩
 try dsimp only [Ns,Nr,Nq,Nk]
 refine W01 ?_
 refine aj rfl (fun h=>?_) (fun h=>?_)
 ·have hil:i < f.Glyphs.length:=by have:=Ny h;omega
  obtain ⟨x,hx⟩:∃z,f.Glyphs[i]?=some z:=⟨_,Nz hil⟩
  haveI a1:AD Tryz.prog 156 [ca f,aK i] (aK (cX f i x)):=⟨yG f hs i x hx⟩
  clear h
  refine W10 ?_
  refine aj rfl (fun h2=>?_) (fun h2=>?_)
  ·have h2:=Ny h2
   refine W05 ?_
   exact NU a5 0 [] NC (List.nil_sublist _) (lK i (by rw [dG hl hx ha rfl h2,dp h2]))
  have h2:=Decidable.not_not.1 (Nx h2)
  refine W02 ?_
  exact aC (i+1) rfl ⟨by rw [Nv];rfl,trivial⟩ ⟨by omega,eh hx ha h2⟩ (by omega) (fun _ _ h=>h)
 have hil:i=f.Glyphs.length:=by have:=Nx h;omega
 subst hil
 clear h hi
 have hgl:(bT 400 f.Glyphs (cX f)).1=0:=d6.2 ⟨by omega,fun j y hy=>ha j y (Np hy).1 hy⟩
 clear ha
 rw [bW hgl]
 have hf:=gy hgl
 have hw:qW f:=fun gl hm=>by
  obtain ⟨j,hj⟩:=List.mem_iff_getElem?.1 hm
  have:=wA hj |>.1 ((d6.1 hgl).2 j gl hj)
  exact ⟨this.few.1,this.parts.1⟩
 refine W03 ?_
 refine aM [1,2] (α:=Nat) (fun i=>[(5,aK i)]) (fun i=>i≤f.Glyphs.length∧∀z:Int,0≤z→z < i→¬zU (prt f) z z) (fun _=>[(rb,.box [aK 0,aK 0] 55)]) (fun i=>f.Glyphs.length - i) 0 rfl ⟨rfl,trivial⟩ ⟨Nat.zero_le _,fun z h0 h1=>by omega⟩ (fun _ _ h=>h) ?_
 rintro i ⟨hi,ha⟩
 try dsimp only [Ns,Nr,Nq,Nk]
 refine W01 ?_
 refine aj rfl (fun h=>?_) (fun h=>?_)
 ·have hil:i < f.Glyphs.length:=by have:=Ny h;omega
  clear h
  refine W0n ?_
  refine bv 7 [(0,.v),(1,.v),(2,.v),(3,.v),(4,.v),(5,.v),(6,.e)] none ?_ trivial rfl (by kernel_rfl) (by kernel_rfl) (by kernel_rfl) bQ (by kernel_rfl) rfl
  refine W09 ?_
  refine JL a5 f.Glyphs.length rfl rfl rfl rfl rfl (by rw [hml]) (by rw [hml]) (by omega) (by omega) trivial fun b=>?_
  rw [show (List.replicate f.Glyphs.length (List.map AV.sc [Value.bool false])).flatten=jA [] f.Glyphs.length from Ca _]
  refine NP [1,2,5,42,43,44,48] IG ?_
  refine b7 [(b,.box (jA [] f.Glyphs.length) 4)] [(rb,.box [aK 0,aK 0] 55)] (sB f hf i b (f.Glyphs.length+1) [] i List.nodup_nil (fun z hz=>by cases hz) (by rw [List.length_nil];omega) ⟨by omega,by omega⟩) rfl rfl (Nn _) rfl fun c L1 ⟨r,T,hc,hL,hr,hP⟩=>?_
  subst hc;subst hL
  refine aL (bF (List.sublist_cons_self ..)) ?_
  cases r with
  | true=>
   refine W1b ?_
   exact NU a5 0 [] NC (List.nil_sublist _) (lK i (by rw [rH fun hA=>hA.noRing (fun g p hp=>pO (g:=g) hp) (g:=i) (by omega) (by omega) (hr rfl)];rfl))
  | false=>
   have hno:=Kc (hP rfl)
   refine W15 ?_
   exact aC (i+1) rfl ⟨by rw [Nv];rfl,trivial⟩ ⟨by omega,fun z z0 z1=>by
    by_cases e:z=i
    ·subst e;exact hno
    ·exact ha z z0 (by omega)⟩ (by omega) (fun _ _ h=>h)
 have hil:i=f.Glyphs.length:=by have:=Nx h;omega
 subst hil
 clear h hi
 have hA:iW f.Glyphs.length (prt f):=(vQ fun g p hp=>pO (g:=g) hp).2 ha
 clear ha
 obtain ⟨D,P,hD,hb⟩:=Hj hf hA
 rw [yg hf hD]
 haveI a1:AD Tryz.prog 158 [ca f] (.imm 1 (aW ((cj f.Glyphs.length).map D))):=⟨EH f hf D P hD hb⟩
 have hdl:(aW ((cj f.Glyphs.length).map D)).length=f.Glyphs.length:=by rw [aJ,Nu,dR]
 refine W10 ?_
 refine aM [1,2,7] (α:=Nat) (fun i=>[(8,aK i)]) (fun i=>i≤f.Glyphs.length∧∀j y,j < i→((cj f.Glyphs.length).map D)[j]?=some y→kr j y=0) (fun _=>[(rb,.box [aK 0,aK 0] 55)]) (fun i=>f.Glyphs.length - i) 0 rfl ⟨rfl,trivial⟩ ⟨Nat.zero_le _,dv⟩ (fun _ _ h=>h) ?_
 rintro i ⟨hi,ha⟩
 try dsimp only [Ns,Nr,Nq,Nk]
 refine W01 ?_
 refine aj rfl (fun h=>?_) (fun h=>?_)
 ·have hil:i < f.Glyphs.length:=by have:=Ny h;omega
  have hdx:((cj f.Glyphs.length).map D)[i]?=some (D i):=by rw [List.getElem?_map,ic hil];rfl
  have hdg:(aW ((cj f.Glyphs.length).map D))[i]?=some [aK (D i)]:=bK hdx
  clear h
  refine W0a ?_
  refine aj rfl (fun h2=>?_) (fun h2=>?_)
  ·have h2:=Ny h2
   refine W05 ?_
   exact NU a5 0 [] NC (List.nil_sublist _) (lK i (by rw [gx hdx ha (tv h2) (by omega)];rfl))
  have h2:=Nx h2
  refine W02 ?_
  exact aC (i+1) rfl ⟨by rw [Nv];rfl,trivial⟩ ⟨by omega,eh hdx ha (EG h2)⟩ (by omega) (fun _ _ h=>h)
 have hil:i=f.Glyphs.length:=by have:=Nx h;omega
 subst hil
 clear h hi
 rw [bW (eQ fun j y hj=>ha j y (by rw [Nu,dR] at hj;exact hj))]
 have h4:∀z:Int,0≤z→z < f.Glyphs.length→D z≤4:=fun z z0 z1=>by
  have:=ha z.toNat (D z) (by omega) (by rw [List.getElem?_map,ic (by omega)];show some (D ((z.toNat:Nat):Int))=some (D z);rw [Int.toNat_of_nonneg z0])
  exact EF this
 clear ha
 refine W03 ?_
 refine aM [1,2] (α:=Nat) (fun i=>[(9,aK i)]) (fun i=>i≤f.Glyphs.length∧∀j y,j < i→((cj f.Glyphs.length).map P)[j]?=some y→lC j y=0) (fun _=>[(rb,.box [aK 0,aK 0] 55)]) (fun i=>f.Glyphs.length - i) 0 rfl ⟨rfl,trivial⟩ ⟨Nat.zero_le _,dv⟩ (fun _ _ h=>h) ?_
 rintro i ⟨hi,ha⟩
 try dsimp only [Ns,Nr,Nq,Nk]
 refine W01 ?_
 refine aj rfl (fun h=>?_) (fun h=>?_)
 ·have hil:i < f.Glyphs.length:=by have:=Ny h;omega
  have hdx:((cj f.Glyphs.length).map P)[i]?=some (P i):=by rw [List.getElem?_map,ic hil];rfl
  clear h
  have hdp:rm f 5 i:=tw hf hD 5 i (by omega) (by omega) (by have:=h4 i (by omega) (by omega);omega)
  have hfc:=wx hf hw hD 5 i hdp
  haveI a2:AD Tryz.prog 159 [ca f,aK i] (aK (f4 f 5 i)):=⟨wy f hw 5 (by omega) i hdp⟩
  refine W10 ?_
  refine aj rfl (fun h2=>?_) (fun h2=>?_)
  ·have h2:=Ny h2
   refine W05 ?_
   exact NU a5 0 [] NC (List.nil_sublist _) (lK i (by rw [gx hdx ha (Cw (by omega)) (by omega)];rfl))
  have h2:=Nx h2
  refine W02 ?_
  exact aC (i+1) rfl ⟨by rw [Nv];rfl,trivial⟩ ⟨by omega,eh hdx ha (FA (by omega))⟩ (by omega) (fun _ _ h=>h)
 have hil:i=f.Glyphs.length:=by have:=Nx h;omega
 subst hil
 refine W05 ?_
 exact NU a5 0 [] NC (List.nil_sublist _) (lK 0 (by rw [bW (eQ fun j y hj=>ha j y (by rw [Nu,dR] at hj;exact hj))];rfl))
theorem EO (a:List Int) (r:List Int):eA (eA a::r)=eA (a++r):=by
 rw [oo]
 rfl
theorem JQ (f:aT):(iN f).1=eA [if f.Unit < 16∨f.Unit > 4096 then 1 else 0,oy f,(bT 1000 f.Chars (f7 f)).1,s3 f,w6 f,sy f]:=by
 unfold iN tH
 rw [iM]
 simp only [Nq,Nk]
 unfold oy s3 w6 sy mi
 by_cases hU:f.Unit < 16∨f.Unit > 4096
 ·rw [if_pos hU,if_pos hU]
  rfl
 rw [if_neg hU,if_neg hU,bW rfl,EO]
 generalize (if f.Glyphs.length=0 then (32:Int) else 0)=e1
 generalize (bT 400 f.Glyphs (cX f)).1=e2
 generalize (j8 f).1=e3
 generalize (bT 1000 f.Chars (f7 f)).1=e4
 generalize (bT 40 f.Lookups (g7 f)).1=e5
 generalize (bT 20 f.Features (f9 f)).1=e6
 generalize (bT 3 f.Axes (fV f)).1=e7
 generalize (bT 16 f.Regions (jN f)).1=e8
 generalize (bT 20 f.Funcs ox).1=e9
 generalize (bT 64 f.Cvt t3).1=e10
 simp only [Ns,Nr]
 simp only [eA]
 repeat' split
 all_goals first | rfl | simp_all
set_option maxHeartbeats 8000000 in
theorem EX (f:aT) (hs:dV f) (hax:∀a∈f.Axes,a.Name.size≤140737488355328):AC Tryz.prog 26 [ca f] [] (Kv ((iN f).1)):=by
 refine aV Tryz.func26 rfl Tryz.ntmps26 rfl fun B=>?_
 rw [JQ]
 refine W0G ?_
 intros
 rename_i rb
 refine cu [1,2] (f.Unit < 16∨f.Unit > 4096) rfl (fun Q' K=>?_) (fun hC=>?_) (fun hC=>?_)
 ·repeat' (first|refine Ng ?_|refine NG a5 IG ?_|refine NN IG ?_|refine NO NB ?_|refine NR NA (fun _=>?_) (fun _=>?_))
  all_goals exact K _ _ rfl rfl (by clear K;simp_all <;> omega)
 ·refine W05 ?_
  exact NU a5 0 [] NC (List.nil_sublist _) (lK 0 (by rw [if_pos hC];rfl))
 rw [if_neg hC,bW rfl]
 refine W01 ?_
 refine b7 [] _ (yH f hs) rfl rfl (Nn _) rfl fun c L1 ⟨hL,i,hc⟩=>?_
 subst hc;subst hL
 generalize oy f=e
 refine W0D ?_
 intros
 refine aj rfl (fun h=>?_) (fun h=>?_)
 rotate_left
 ·have h0:=Nx h
  refine W04 ?_
  refine aj rfl (fun h2=>absurd (h2.symm.trans h) (by decide)) (fun _=>?_)
  refine W04 ?_
  refine aj rfl (fun h2=>absurd (h2.symm.trans h) (by decide)) (fun _=>?_)
  refine W04 ?_
  refine aj rfl (fun h2=>absurd (h2.symm.trans h) (by decide)) (fun _=>?_)
  refine W07 ?_
  exact NU a5 1 [] NC (List.nil_sublist _) (lK i (dp h0))
 rw [bW (Ny h)]
 clear h
 refine W01 ?_
 refine b7 [] _ (BM f hs) rfl rfl (Nn _) rfl fun c L1 ⟨hL,i,hc⟩=>?_
 subst hc;subst hL
 generalize (bT 1000 f.Chars (f7 f)).1=e
 refine W0q ?_
 refine aj rfl (fun h=>?_) (fun h=>?_)
 rotate_left
 ·have h0:=Nx h
  refine W04 ?_
  refine aj rfl (fun h2=>absurd (h2.symm.trans h) (by decide)) (fun _=>?_)
  refine W04 ?_
  refine aj rfl (fun h2=>absurd (h2.symm.trans h) (by decide)) (fun _=>?_)
  refine W07 ?_
  exact NU a5 1 [] NC (List.nil_sublist _) (lK i (dp h0))
 rw [bW (Ny h)]
 clear h
 refine W01 ?_
 refine b7 [] _ (Cu f hs) rfl rfl (Nn _) rfl fun c L1 ⟨hL,i,hc⟩=>?_
 subst hc;subst hL
 generalize s3 f=e
 refine W0q ?_
 refine aj rfl (fun h=>?_) (fun h=>?_)
 rotate_left
 ·have h0:=Nx h
  refine W04 ?_
  refine aj rfl (fun h2=>absurd (h2.symm.trans h) (by decide)) (fun _=>?_)
  refine W07 ?_
  exact NU a5 1 [] NC (List.nil_sublist _) (lK i (dp h0))
 rw [bW (Ny h)]
 clear h
 refine W01 ?_
 refine b7 [] _ (Eb f hax) rfl rfl (Nn _) rfl fun c L1 ⟨hL,i,hc⟩=>?_
 subst hc;subst hL
 generalize w6 f=e
 refine W0q ?_
 refine aj rfl (fun h=>?_) (fun h=>?_)
 rotate_left
 ·have h0:=Nx h
  refine W07 ?_
  exact NU a5 1 [] NC (List.nil_sublist _) (lK i (dp h0))
 rw [bW (Ny h)]
 clear h
 refine W01 ?_
 refine b7 [] _ (CP f) rfl rfl (Nn _) rfl fun c L1 ⟨hL,i,hc⟩=>?_
 subst hc;subst hL
 generalize sy f=e
 refine W07 ?_
 exact NU a5 1 [] NC (List.nil_sublist _) (lK i (by by_cases h:e=0 <;> simp [eA,h]))
end Go.Proofs.YtpmdfoaadejmkaaGreatDoor
