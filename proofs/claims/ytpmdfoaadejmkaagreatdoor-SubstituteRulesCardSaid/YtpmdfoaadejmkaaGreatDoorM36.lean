/-
  The program's rules: what a rule does: all but chains.
-/
import Derived.Test.YtpmdfoaadejmkaaGreatDoorM35
namespace Go.Proofs.YtpmdfoaadejmkaaGreatDoor
open Go.RowKit
attribute [local irreducible] AT bJ AX AO Av Kt bi dq DA cG
abbrev i7 (wb n m:Nat) (ps:List Nat) (deep:Nat):List AV:=[dA wb,aF n,aF m,.imm 1 (bQ ps),aF deep]
def oB (wb:Nat) (f:aZ) (v:AV) (run':List aJ):AV→AL→Prop:=fun _ L=>∃q',cu q' run'∧L=ey wb f v q' run'
section
variable {f:aZ} {v:AV} {wb:Nat} {M:dD} {run:List aJ} (hq:cu (some M) run) (hr:run.length≤1000000) {n:Nat} {l:aL} (hl:f.Lookups[n]?=some l) {m:Nat} {r:bh} (hm:l.Rules[m]?=some r) (hro:ip r) {ps:List Nat} (hps:lw run ps) (deep:Nat)
include hq hr hl hm hro hps
set_option maxHeartbeats 8000000 in
theorem Jo (hk:l.Kind=1):AC Tryz.prog 173 (i7 wb n m ps deep) (ey wb f v (some M) run) (oB wb f v (dE l r ps run)):=by
 have _:=hr
 have _:=hro
 obtain ⟨kd,ig,rs⟩:=l
 dsimp only at hk hm
 subst hk
 have hlg:=c5 (c:=bw) hl
 have hmg:=c5 (c:=bC) hm
 obtain ⟨p,q,rfl⟩:=List.exists_cons_of_ne_nil hps.some_
 have hpl:=hps.lt p (by simp)
 obtain ⟨x,hx⟩:∃x,run[p]?=some x:=⟨_,Kz hpl⟩
 have hp0:(bQ (p::q))[(0:Int).toNat]?=some [aF p]:=rfl
 have hol:=bb r.Out
 obtain ⟨g1,g2,g3⟩:=hq.fit M rfl
 have hfl:=co run
 obtain ⟨i0,is,hin⟩:=List.exists_cons_of_ne_nil hro.some_
 have hin0:(bc r.In)[(0:Int).toNat]?=some [.imm 1 (aW i0)]:=by
  rw [hin]
  rfl
 have hsv:dE ⟨1,ig,rs⟩ r (p::q) run=dI r p run:=rfl
 rw [hsv]
 have hsg:dI r p run=match r.Out[i0.idxOf x.Glyph]? with
   | none=>run
   | some g=>if i0.idxOf x.Glyph < i0.length then run.set p { x with Glyph:=g } else run:=by
  unfold dI
  rw [hx,hin]
  rfl
 have h0:=ic (j:=0) M.junk hx rfl
 refine aN Tryz.func173 rfl Tryz.ntmps173 rfl fun B=>?_
 repeat' (first|refine L3 ?_|refine ak ?_|refine c9 rfl ?_|refine KG a4 HY ?_|(apply bo;first|refine KM a4 0 KC ?_|refine KM a4 1 KC ?_|refine KM a4 2 KC ?_|refine KM a4 3 KC ?_|refine KN a4 0 KC ?_|refine KN a4 1 KC ?_|refine KN a4 2 KC ?_|refine KO a4 1 KA (by assumption) rfl ?_|refine KO a4 0 KA (by assumption) rfl ?_|fail)|(apply aQ;first|refine aO a4 ?_|refine aG a4 ?_)|(apply aM;first|refine KL 10 a4 0 KF ?_|refine KL 10 a4 1 KF ?_|refine KL 10 a4 2 KF ?_|refine KH a4 0 KE ?_|refine KH a4 1 KE ?_|refine KH a4 2 KE ?_|refine KH a4 3 KE ?_|fail)|refine bq a4 fun _=>?_|refine bH rfl ?_|refine bE rfl ?_)
 refine bn 13 [(0,.v),(1,.v),(2,.v),(3,.v),(4,.v),(5,.v),(6,.v),(7,.l),(8,.v),(9,.v),(10,.v),(11,.l),(12,.v)] none ?_ trivial rfl (by kernel_rfl) (by kernel_rfl) (by kernel_rfl) bI (by kernel_rfl) rfl
 repeat' (first|refine aB ?_|refine aX a4 ?_|(apply cm;refine cA a4 ?_)|refine KY a4 0 KB (by first|trivial|rfl) ?_)
 refine cR a4 rfl rfl rfl ⟨by omega,by omega⟩ trivial ?_
 repeat' (first|refine aB ?_|refine aX a4 ?_|fail)
 refine bN a4 1 rfl rfl rfl h0 trivial ?_
 repeat' (first|refine aB ?_|(apply dh;refine dK ?_)|fail)
 refine KU [0,10,11,61] HY ?_
 repeat' (first|refine L3 ?_|refine a7 ?_|refine KG a4 HY ?_)
 generalize hn:(if x.Glyph∈i0 then ((i0.idxOf x.Glyph:Nat):Int) else -1)=z
 refine ce [0,10,11,12] (0≤z∧z < r.Out.length) rfl (fun Q' K=>?_) (fun hC=>?_) (fun hC=>?_)
 ·repeat' (first|refine L3 ?_|refine KG a4 HY ?_|refine KR HY ?_|refine KV KB ?_|refine KW KA (fun _=>?_) (fun _=>?_))
  all_goals exact K _ _ rfl rfl (by rw [hol] at *;simp_all <;> omega)
 ·have hmi:x.Glyph∈i0:=Classical.byContradiction fun hm=>by rw [if_neg hm] at hn;omega
  rw [if_pos hmi] at hn
  subst hn
  have hlt:i0.idxOf x.Glyph < r.Out.length:=by omega
  obtain ⟨g,hg⟩:∃g,r.Out[i0.idxOf x.Glyph]?=some g:=⟨_,Kz hlt⟩
  have hgg:(aW r.Out)[((i0.idxOf x.Glyph:Nat):Int).toNat]?=some [aF g]:=by rw [Int.toNat_natCast];exact bP hg
  rw [hg] at hsg
  dsimp only at hsg
  rw [if_pos (List.idxOf_lt_length_of_mem hmi)] at hsg
  rw [hsg]
  have hst:=fQ (j:=0) { x with Glyph:=g } (aF g) M.junk hx (by omega) rfl
  repeat' (first|fail)
  refine bn 10 [(0,.v),(1,.v),(2,.v),(3,.l),(4,.v),(5,.v),(6,.v),(7,.v),(8,.v),(9,.v)] none ?_ trivial rfl (by kernel_rfl) (by kernel_rfl) (by kernel_rfl) bI (by kernel_rfl) rfl
  repeat' (first|refine aB ?_|refine aX a4 ?_|(apply cm;refine cA a4 ?_)|refine KY a4 0 KB (by first|trivial|rfl) ?_)
  refine KU [74,75,80] HY ?_
  repeat' (first|refine KG a4 HY ?_|(apply aQ;first|refine aO a4 ?_|refine aG a4 ?_)|fail)
  refine KZ a4 1 KD (Nat.ble_eq_true_of_le (by rw [Int.toNat_natCast];simp;omega)) ?_
  rw [hst]
  repeat' (first|refine L3 ?_|refine c9 rfl ?_)
  exact ca rfl ⟨some M,hq.set p _,uv⟩
 ·have hsg2:dI r p run=run:=by
   rw [hsg]
   split
   ·rfl
   ·rename_i g hg
    rw [if_neg]
    intro h
    rw [if_pos (List.idxOf_lt_length_iff.1 h)] at hn
    have:=(Ko hg).1
    omega
  rw [hsg2]
  repeat' (first|refine L3 ?_|refine c9 rfl ?_)
  exact ca rfl ⟨some M,hq,rfl⟩
set_option maxHeartbeats 8000000 in
theorem Jr (hk:l.Kind=5):AC Tryz.prog 173 (i7 wb n m ps deep) (ey wb f v (some M) run) (oB wb f v (dE l r ps run)):=by
 have _:=hr
 have _:=hro
 obtain ⟨kd,ig,rs⟩:=l
 dsimp only at hk hm
 subst hk
 have hlg:=c5 (c:=bw) hl
 have hmg:=c5 (c:=bC) hm
 obtain ⟨p,q,rfl⟩:=List.exists_cons_of_ne_nil hps.some_
 have hpl:=hps.lt p (by simp)
 obtain ⟨x,hx⟩:∃x,run[p]?=some x:=⟨_,Kz hpl⟩
 have hp0:(bQ (p::q))[(0:Int).toNat]?=some [aF p]:=rfl
 have hol:=bb r.Out
 obtain ⟨g1,g2,g3⟩:=hq.fit M rfl
 have hfl:=co run
 obtain ⟨i0,is,hin⟩:=List.exists_cons_of_ne_nil hro.some_
 have hin0:(bc r.In)[(0:Int).toNat]?=some [.imm 1 (aW i0)]:=by
  rw [hin]
  rfl
 have hsv:dE ⟨5,ig,rs⟩ r (p::q) run=dI r p run:=rfl
 rw [hsv]
 have hsg:dI r p run=match r.Out[i0.idxOf x.Glyph]? with
   | none=>run
   | some g=>if i0.idxOf x.Glyph < i0.length then run.set p { x with Glyph:=g } else run:=by
  unfold dI
  rw [hx,hin]
  rfl
 have h0:=ic (j:=0) M.junk hx rfl
 refine aN Tryz.func173 rfl Tryz.ntmps173 rfl fun B=>?_
 repeat' (first|refine L3 ?_|refine ak ?_|refine KG a4 HY ?_|(apply bo;first|refine KM a4 0 KC ?_|refine KM a4 1 KC ?_|refine KM a4 2 KC ?_|refine KM a4 3 KC ?_|refine KN a4 0 KC ?_|refine KN a4 1 KC ?_|refine KN a4 2 KC ?_|refine KO a4 1 KA (by assumption) rfl ?_|refine KO a4 0 KA (by assumption) rfl ?_|fail)|(apply aQ;first|refine aO a4 ?_|refine aG a4 ?_)|(apply aM;first|refine KL 10 a4 0 KF ?_|refine KL 10 a4 1 KF ?_|refine KL 10 a4 2 KF ?_|refine KH a4 0 KE ?_|refine KH a4 1 KE ?_|refine KH a4 2 KE ?_|refine KH a4 3 KE ?_|fail)|refine bq a4 fun _=>?_|refine bH rfl ?_)
 refine bn 13 [(0,.v),(1,.v),(2,.v),(3,.v),(4,.v),(5,.v),(6,.v),(7,.l),(8,.v),(9,.v),(10,.v),(11,.l),(12,.v)] none ?_ trivial rfl (by kernel_rfl) (by kernel_rfl) (by kernel_rfl) bI (by kernel_rfl) rfl
 repeat' (first|refine aB ?_|refine aX a4 ?_|(apply cm;refine cA a4 ?_)|refine KY a4 0 KB (by first|trivial|rfl) ?_)
 refine cR a4 rfl rfl rfl ⟨by omega,by omega⟩ trivial ?_
 repeat' (first|refine aB ?_|refine aX a4 ?_|fail)
 refine bN a4 1 rfl rfl rfl h0 trivial ?_
 repeat' (first|refine aB ?_|(apply dh;refine dK ?_)|fail)
 refine KU [0,10,11,61] HY ?_
 repeat' (first|refine L3 ?_|refine a7 ?_|refine KG a4 HY ?_)
 generalize hn:(if x.Glyph∈i0 then ((i0.idxOf x.Glyph:Nat):Int) else -1)=z
 refine ce [0,10,11,12] (0≤z∧z < r.Out.length) rfl (fun Q' K=>?_) (fun hC=>?_) (fun hC=>?_)
 ·repeat' (first|refine L3 ?_|refine KG a4 HY ?_|refine KR HY ?_|refine KV KB ?_|refine KW KA (fun _=>?_) (fun _=>?_))
  all_goals exact K _ _ rfl rfl (by rw [hol] at *;simp_all <;> omega)
 ·have hmi:x.Glyph∈i0:=Classical.byContradiction fun hm=>by rw [if_neg hm] at hn;omega
  rw [if_pos hmi] at hn
  subst hn
  have hlt:i0.idxOf x.Glyph < r.Out.length:=by omega
  obtain ⟨g,hg⟩:∃g,r.Out[i0.idxOf x.Glyph]?=some g:=⟨_,Kz hlt⟩
  have hgg:(aW r.Out)[((i0.idxOf x.Glyph:Nat):Int).toNat]?=some [aF g]:=by rw [Int.toNat_natCast];exact bP hg
  rw [hg] at hsg
  dsimp only at hsg
  rw [if_pos (List.idxOf_lt_length_of_mem hmi)] at hsg
  rw [hsg]
  have hst:=fQ (j:=0) { x with Glyph:=g } (aF g) M.junk hx (by omega) rfl
  repeat' (first|fail)
  refine bn 10 [(0,.v),(1,.v),(2,.v),(3,.l),(4,.v),(5,.v),(6,.v),(7,.v),(8,.v),(9,.v)] none ?_ trivial rfl (by kernel_rfl) (by kernel_rfl) (by kernel_rfl) bI (by kernel_rfl) rfl
  repeat' (first|refine aB ?_|refine aX a4 ?_|(apply cm;refine cA a4 ?_)|refine KY a4 0 KB (by first|trivial|rfl) ?_)
  refine KU [74,75,80] HY ?_
  repeat' (first|refine KG a4 HY ?_|(apply aQ;first|refine aO a4 ?_|refine aG a4 ?_)|fail)
  refine KZ a4 1 KD (Nat.ble_eq_true_of_le (by rw [Int.toNat_natCast];simp;omega)) ?_
  rw [hst]
  repeat' (first|refine L3 ?_|refine c9 rfl ?_)
  exact ca rfl ⟨some M,hq.set p _,uv⟩
 ·have hsg2:dI r p run=run:=by
   rw [hsg]
   split
   ·rfl
   ·rename_i g hg
    rw [if_neg]
    intro h
    rw [if_pos (List.idxOf_lt_length_iff.1 h)] at hn
    have:=(Ko hg).1
    omega
  rw [hsg2]
  repeat' (first|refine L3 ?_|refine c9 rfl ?_)
  exact ca rfl ⟨some M,hq,rfl⟩
set_option maxHeartbeats 8000000 in
theorem Jp (hk:l.Kind=2):AC Tryz.prog 173 (i7 wb n m ps deep) (ey wb f v (some M) run) (oB wb f v (dE l r ps run)):=by
 have _:=hr
 have _:=hro
 obtain ⟨kd,ig,rs⟩:=l
 dsimp only at hk hm
 subst hk
 have hlg:=c5 (c:=bw) hl
 have hmg:=c5 (c:=bC) hm
 obtain ⟨p,q,rfl⟩:=List.exists_cons_of_ne_nil hps.some_
 have hpl:=hps.lt p (by simp)
 obtain ⟨x,hx⟩:∃x,run[p]?=some x:=⟨_,Kz hpl⟩
 have hp0:(bQ (p::q))[(0:Int).toNat]?=some [aF p]:=rfl
 have hol:=bb r.Out
 obtain ⟨g1,g2,g3⟩:=hq.fit M rfl
 have hfl:=co run
 have hmu:=AH (f:=f) (v:=v) wb M run hq hr p x hx r hro.out
 have hsv:dE ⟨2,ig,rs⟩ r (p::q) run=fC r p run:=rfl
 rw [hsv]
 refine aN Tryz.func173 rfl Tryz.ntmps173 rfl fun B=>?_
 repeat' (first|refine L3 ?_|refine ak ?_|refine c9 rfl ?_|refine KG a4 HY ?_|(apply bo;first|refine KM a4 0 KC ?_|refine KM a4 1 KC ?_|refine KM a4 2 KC ?_|refine KM a4 3 KC ?_|refine KN a4 0 KC ?_|refine KN a4 1 KC ?_|refine KN a4 2 KC ?_|refine KO a4 1 KA (by assumption) rfl ?_|refine KO a4 0 KA (by assumption) rfl ?_|fail)|(apply aQ;first|refine aO a4 ?_|refine aG a4 ?_)|(apply aM;first|refine KL 10 a4 0 KF ?_|refine KL 10 a4 1 KF ?_|refine KL 10 a4 2 KF ?_|refine KH a4 0 KE ?_|refine KH a4 1 KE ?_|refine KH a4 2 KE ?_|refine KH a4 3 KE ?_|fail)|refine bq a4 fun _=>?_|refine bH rfl ?_|refine bE rfl ?_)
 refine b6 (ey wb f v (some M) run) [] hmu rfl rfl (bK rfl) rfl fun c L1 ⟨q',h1,h2⟩=>?_
 subst h2
 rw [List.append_nil]
 repeat' (first|refine L3 ?_|refine c9 rfl ?_)
 exact ca rfl ⟨q',h1,rfl⟩
set_option maxHeartbeats 8000000 in
theorem Jq (hk:l.Kind=3):AC Tryz.prog 173 (i7 wb n m ps deep) (ey wb f v (some M) run) (oB wb f v (dE l r ps run)):=by
 have _:=hr
 have _:=hro
 obtain ⟨kd,ig,rs⟩:=l
 dsimp only at hk hm
 subst hk
 have hlg:=c5 (c:=bw) hl
 have hmg:=c5 (c:=bC) hm
 obtain ⟨p,q,rfl⟩:=List.exists_cons_of_ne_nil hps.some_
 have hpl:=hps.lt p (by simp)
 obtain ⟨x,hx⟩:∃x,run[p]?=some x:=⟨_,Kz hpl⟩
 have hp0:(bQ (p::q))[(0:Int).toNat]?=some [aF p]:=rfl
 have hol:=bb r.Out
 obtain ⟨g1,g2,g3⟩:=hq.fit M rfl
 have hfl:=co run
 refine aN Tryz.func173 rfl Tryz.ntmps173 rfl fun B=>?_
 repeat' (first|refine L3 ?_|refine ak ?_|refine c9 rfl ?_|refine KG a4 HY ?_|(apply bo;first|refine KM a4 0 KC ?_|refine KM a4 1 KC ?_|refine KM a4 2 KC ?_|refine KM a4 3 KC ?_|refine KN a4 0 KC ?_|refine KN a4 1 KC ?_|refine KN a4 2 KC ?_|refine KO a4 1 KA (by assumption) rfl ?_|refine KO a4 0 KA (by assumption) rfl ?_|fail)|(apply aQ;first|refine aO a4 ?_|refine aG a4 ?_)|(apply aM;first|refine KL 10 a4 0 KF ?_|refine KL 10 a4 1 KF ?_|refine KL 10 a4 2 KF ?_|refine KH a4 0 KE ?_|refine KH a4 1 KE ?_|refine KH a4 2 KE ?_|refine KH a4 3 KE ?_|fail)|refine bq a4 fun _=>?_|refine bH rfl ?_|refine bE rfl ?_)
 refine aw rfl (fun h=>?_) (fun h=>?_)
 ·have hne:r.Out≠[]:=fun e=>by rw [e] at h;cases h
  obtain ⟨g,gs,hg⟩:=List.exists_cons_of_ne_nil hne
  have hj:=D8 (f:=f) (v:=v) wb M run hq hr p q hps.lt hps.inc x hx r g gs hg
  have hg0:(aW r.Out)[(0:Int).toNat]?=some [aF g]:=by rw [hg];rfl
  clear h
  repeat' (first|refine L3 ?_|refine KG a4 HY ?_|(apply aQ;first|refine aO a4 ?_|refine aG a4 ?_)|fail)
  refine b6 (ey wb f v (some M) run) [] hj rfl rfl (bK rfl) rfl fun c L1 ⟨q',h1,h2⟩=>?_
  subst h2
  rw [List.append_nil]
  repeat' (first|refine L3 ?_|refine c9 rfl ?_)
  exact ca rfl ⟨q',h1,rfl⟩
 ·have hz:r.Out=[]:=List.eq_nil_of_length_eq_zero (by have:=Kx h;omega)
  have hsv:dE ⟨3,ig,rs⟩ r (p::q) run=run:=by
   show j5 r (p::q) run=run
   unfold j5
   rw [hz]
  rw [hsv]
  repeat' (first|refine L3 ?_|refine c9 rfl ?_)
  exact ca rfl ⟨some M,hq,rfl⟩
set_option maxHeartbeats 8000000 in
theorem Js (hk:l.Kind=6):AC Tryz.prog 173 (i7 wb n m ps deep) (ey wb f v (some M) run) (oB wb f v (dE l r ps run)):=by
 have _:=hr
 have _:=hro
 obtain ⟨kd,ig,rs⟩:=l
 dsimp only at hk hm
 subst hk
 have hlg:=c5 (c:=bw) hl
 have hmg:=c5 (c:=bC) hm
 obtain ⟨p,q,rfl⟩:=List.exists_cons_of_ne_nil hps.some_
 have hpl:=hps.lt p (by simp)
 obtain ⟨x,hx⟩:∃x,run[p]?=some x:=⟨_,Kz hpl⟩
 have hp0:(bQ (p::q))[(0:Int).toNat]?=some [aF p]:=rfl
 have hol:=bb r.Out
 obtain ⟨g1,g2,g3⟩:=hq.fit M rfl
 have hfl:=co run
 have hsv:dE ⟨6,ig,rs⟩ r (p::q) run=run.set p { x with Advance:=IntKind.i64.wrap (x.Advance+r.X) }:=by
  show nX r p run=_
  unfold nX
  rw [hx]
 rw [hsv]
 have h3:=ic (j:=3) M.junk hx rfl
 have hst:=fQ (j:=3) { x with Advance:=IntKind.i64.wrap (x.Advance+r.X) } (aF (IntKind.i64.wrap (x.Advance+r.X))) M.junk hx (by omega) rfl
 refine aN Tryz.func173 rfl Tryz.ntmps173 rfl fun B=>?_
 repeat' (first|refine L3 ?_|refine ak ?_|refine c9 rfl ?_|refine KG a4 HY ?_|(apply bo;first|refine KM a4 0 KC ?_|refine KM a4 1 KC ?_|refine KM a4 2 KC ?_|refine KM a4 3 KC ?_|refine KN a4 0 KC ?_|refine KN a4 1 KC ?_|refine KN a4 2 KC ?_|refine KO a4 1 KA (by assumption) rfl ?_|refine KO a4 0 KA (by assumption) rfl ?_|fail)|(apply aQ;first|refine aO a4 ?_|refine aG a4 ?_)|(apply aM;first|refine KL 10 a4 0 KF ?_|refine KL 10 a4 1 KF ?_|refine KL 10 a4 2 KF ?_|refine KH a4 0 KE ?_|refine KH a4 1 KE ?_|refine KH a4 2 KE ?_|refine KH a4 3 KE ?_|fail)|refine bq a4 fun _=>?_|refine bH rfl ?_|refine bE rfl ?_)
 refine bn 11 [(0,.v),(1,.v),(2,.v),(3,.l),(4,.v),(5,.v),(6,.v),(7,.l),(8,.v),(9,.v),(10,.v)] none ?_ trivial rfl (by kernel_rfl) (by kernel_rfl) (by kernel_rfl) bI (by kernel_rfl) rfl
 repeat' (first|refine aB ?_|refine aX a4 ?_|refine KY a4 0 KB (by first|trivial|rfl) ?_)
 refine cR a4 rfl rfl rfl ⟨by omega,by omega⟩ trivial ?_
 repeat' (first|refine aB ?_|refine aX a4 ?_|fail)
 refine bN a4 1 rfl rfl rfl h3 trivial ?_
 repeat' (first|refine aB ?_|refine aX a4 ?_|fail)
 refine Cu rfl rfl trivial ?_
 repeat' (first|fail)
 refine KU [117,118,124] HY ?_
 repeat' (first|refine KG a4 HY ?_|(apply aQ;first|refine aO a4 ?_|refine aG a4 ?_)|fail)
 refine KZ a4 1 KD (Nat.ble_eq_true_of_le (by rw [Int.toNat_natCast];simp;omega)) ?_
 rw [hst]
 repeat' (first|refine L3 ?_|fail)
 exact ca rfl ⟨some M,hq.set p _,uv⟩
end
end Go.Proofs.YtpmdfoaadejmkaaGreatDoor
namespace Go.Proofs.YtpmdfoaadejmkaaGreatDoor
open Go.RowKit
attribute [local irreducible] AT bJ AX AO Av Kt bi dq DA cG
def iI (wb:Nat) (f:aZ) (mb:Nat) (run':List aJ):AV→AL→Prop:=fun _ L=>∃q' mp,cu q' run'∧fX f mp∧L=ey wb f (lR mb) q' run'++[nM mb mp]
abbrev pV (wb:Nat) (f:aZ) (mb:Nat) (q:Option dD) (run:List aJ) (mp:Value→Option AV):AL:=ey wb f (lR mb) q run++[nM mb mp]
def Gm (f:aZ) (wb mb deep k:Nat):Prop:=∀(n:Nat) (l:aL) (m:Nat) (r:bh) (ps:List Nat) (q:Option dD) (run:List aJ) (mp:Value→Option AV),f.Lookups[n]?=some l→l.Rules[m]?=some r→1≤l.Kind→l.Kind≤6→ip r→lw run ps→cu q run→run.length≤1000000→fX f mp→
 AC Tryz.prog 173 (i7 wb n m ps deep) (pV wb f mb q run mp) (iI wb f mb (fq (aS f) f.Lookups k l r ps run))
section
variable {f:aZ} (hf:iz f) {wb mb:Nat}
include hf
theorem lV (mp:Value→Option AV) (hm:fX f mp) (n:Nat) (l:aL) (hl:f.Lookups[n]?=some l) (q:Option dD) (run:List aJ):AC Tryz.prog 171 [dA wb,aF n] (pV wb f mb q run mp) fun c L=>c= .iptr (pP l)∧∃mp',fX f mp'∧L=[BB wb f (cM q run) (lR mb),nM mb mp']++fP q run:=by
 have:=(xJ hf (wb:=wb) (mb:=mb) (u:=cM q run) mp hm n l hl).frame (Lf:=fP q run)
 refine (this.perm (L2:=pV wb f mb q run mp) ?_).mono fun c L' ⟨L1,⟨h1,mp',h2,h3⟩,h4⟩=>⟨h1,mp',h2,by rw [h4,h3]⟩
 exact List.Perm.cons _ (List.perm_append_comm (l₂:=[nM mb mp]))
theorem rS {q:Option dD} {run:List aJ} {mp:Value→Option AV}:([BB wb f (cM q run) (lR mb),nM mb mp]++fP q run).Perm (pV wb f mb q run mp):=by
 have _:=hf
 exact List.Perm.cons _ (List.perm_append_comm (l₁:=[nM mb mp]))
set_option maxHeartbeats 16000000 in
theorem zU {deep k:Nat} (hd:deep < 4) (hdo:Gm f wb mb (deep+1) k) (ig:Bool) (cs:List gK) (hcs:cs.length≤1000000) (hca:∀c∈cs,0≤c.At∧c.At≤1000000) (p:Nat) (hp:p≤1000000) (q:Option dD) (run:List aJ) (mp:Value→Option AV) (hq:cu q run) (hr:run.length≤1000000) (hmp:fX f mp):
  AC Tryz.prog 250 [dA wb,d6 ig,.imm 2 (cs.map eK),aF p,aF deep] (pV wb f mb q run mp) (iI wb f mb (cs.foldl (dX (aS f) f.Lookups (fq (aS f) f.Lookups k) ig p) run)):=by
 refine aN Tryz.func250 rfl Tryz.ntmps250 rfl fun B=>?_
 have hll:(f.Lookups.map bw).length=f.Lookups.length:=Ku ..
 have hcl:(cs.map eK).length=cs.length:=Ku ..
 repeat' (first|refine L3 ?_|refine KG a4 HY ?_)
 refine aw rfl (fun h=>?_) (fun h=>?_)
 ·have:=Ky h
  omega
 clear h
 repeat' (first|refine L3 ?_|refine ak ?_|refine KG a4 HY ?_)
 refine aR [0,1,3,4,19,20] (α:=Nat×Option dD×List aJ×(Value→Option AV)) (fun s=>[(21,aF s.1)]) (fun s=>s.1≤cs.length∧cu s.2.1 s.2.2.1∧s.2.2.1.length≤1000000∧fX f s.2.2.2∧s.2.2.1=(cs.take s.1).foldl (dX (aS f) f.Lookups (fq (aS f) f.Lookups k) ig p) run) (fun s=>pV wb f mb s.2.1 s.2.2.1 s.2.2.2) (fun s=>cs.length - s.1) (0,q,run,mp) rfl ⟨rfl,trivial⟩ ⟨Nat.zero_le _,hq,hr,hmp,rfl⟩ (fun _ _ h=>h) ?_
 rintro ⟨i,q1,cur,mp1⟩ ⟨hi,hq1,hcu,hmp1,hv⟩
 dsimp only at hi hq1 hcu hmp1 hv ⊢
 try dsimp only [Kr,Kq,Kp,Lv]
 repeat' (first|refine L3 ?_|refine KG a4 HY ?_)
 refine aw rfl (fun h=>?_) (fun h=>?_)
 ·have hi2:i < cs.length:=by have:=Ky h;omega
  obtain ⟨c,hc⟩:∃c,cs[i]?=some c:=⟨_,Kz hi2⟩
  have hcg:=c5 (c:=eK) hc
  obtain ⟨ca0,ca1⟩:=hca c (Kw hc)
  have hnx:(cs.take (i+1)).foldl (dX (aS f) f.Lookups (fq (aS f) f.Lookups k) ig p) run=dX (aS f) f.Lookups (fq (aS f) f.Lookups k) ig p cur c:=by
   rw [List.take_add_one,hc,Option.toList_some,List.foldl_append,←hv]
   rfl
  obtain ⟨a,ha⟩:∃a:Nat,c.At=a:=⟨c.At.toNat,by omega⟩
  have hnt:=FK (wb:=wb) (f:=f) (v:=lR mb) hq1 hcu ig true (p:Int) ⟨by omega,fun _=>by omega,fun e=>by cases e⟩ (by omega) a (by omega) p rfl rfl
  rw [←ha] at hnt
  clear h
  repeat' (first|refine L3 ?_|refine ak ?_|refine KG a4 HY ?_|(apply aQ;first|refine aO a4 ?_|refine aG a4 ?_)|(apply aM;first|refine KL 11 a4 0 KF ?_|refine KL 11 a4 1 KF ?_|refine KL 11 a4 2 KF ?_|refine KH a4 0 KE ?_|refine KH a4 1 KE ?_|refine KH a4 2 KE ?_|refine KH a4 3 KE ?_|fail)|refine bq a4 fun _=>?_|fail)
  refine b6 (ey wb f (lR mb) q1 cur) [nM mb mp1] hnt rfl rfl (Lz _) rfl fun c1 L1 ⟨hc1,hL⟩=>?_
  subst hc1;subst hL
  cases hno:mC (aS f) ig cur p c.At with
  | none=>
   have hch:dX (aS f) f.Lookups (fq (aS f) f.Lookups k) ig p cur c=cur:=by
    unfold dX
    rw [hno]
   rw [hch] at hnx
   dsimp only
   repeat' (first|refine L3 ?_|refine KG a4 HY ?_)
   refine bn 18 [(0,.v),(1,.v),(2,.v),(3,.v),(4,.v),(5,.v),(6,.v),(7,.v),(8,.v),(9,.v),(10,.v),(11,.v),(12,.v),(13,.v),(14,.v),(15,.v),(16,.v),(17,.v)] none ?_ trivial rfl (by kernel_rfl) (by kernel_rfl) (by kernel_rfl) bI (by kernel_rfl) rfl
   repeat' (first|refine aB ?_|refine aX a4 ?_|refine ld rfl rfl ?_)
   refine KU [0,1,3,4,11,12,19,20,21,51] HY ?_
   repeat' (first|refine L3 ?_|refine a7 ?_|refine KG a4 HY ?_|(apply aU;refine aT ?_)|refine bH rfl ?_)
   exact aD (i+1,q1,cur,mp1) rfl ⟨by rw [Kv];rfl,trivial⟩ ⟨hi2,hq1,hcu,hmp1,hnx.symm⟩ (by dsimp only;omega) (fun _ _ h=>h)
  | some j=>
   have hjl:=FL hno
   have hch:dX (aS f) f.Lookups (fq (aS f) f.Lookups k) ig p cur c=iA (aS f) f.Lookups (fq (aS f) f.Lookups k) c.Lookup j cur:=by
    unfold dX
    rw [hno]
   rw [hch] at hnx
   dsimp only
   by_cases hn0:c.Lookup < 0
   ·have hcv:iA (aS f) f.Lookups (fq (aS f) f.Lookups k) c.Lookup j cur=cur:=by
     unfold iA
     rw [if_pos hn0]
    rw [hcv] at hnx
    repeat' (first|refine L3 ?_|refine KG a4 HY ?_)
    refine bn 18 [(0,.v),(1,.v),(2,.v),(3,.v),(4,.v),(5,.v),(6,.v),(7,.v),(8,.v),(9,.v),(10,.v),(11,.v),(12,.v),(13,.v),(14,.v),(15,.v),(16,.v),(17,.v)] none ?_ trivial rfl (by kernel_rfl) (by kernel_rfl) (by kernel_rfl) bI (by kernel_rfl) rfl
    repeat' (first|refine aB ?_|refine aX a4 ?_|fail)
    rw [decide_eq_true hn0]
    repeat' (first|refine aB ?_|refine aX a4 ?_|refine ld rfl rfl ?_)
    refine KU [0,1,3,4,11,12,19,20,21,51] HY ?_
    repeat' (first|refine L3 ?_|refine a7 ?_|refine KG a4 HY ?_|(apply aU;refine aT ?_)|refine bH rfl ?_)
    exact aD (i+1,q1,cur,mp1) rfl ⟨by rw [Kv];rfl,trivial⟩ ⟨hi2,hq1,hcu,hmp1,hnx.symm⟩ (by dsimp only;omega) (fun _ _ h=>h)
   obtain ⟨z,hz⟩:∃z:Nat,c.Lookup=z:=⟨c.Lookup.toNat,by omega⟩
   rw [hz] at hn0 hnx
   by_cases hzl:z < f.Lookups.length
   ·obtain ⟨l,hl⟩:∃l,f.Lookups[z]?=some l:=⟨_,Kz hzl⟩
    have hlg:=c5 (c:=bw) hl
    have hlm:=Kw hl
    have hcv:iA (aS f) f.Lookups (fq (aS f) f.Lookups k) (z:Int) j cur=if l.Kind < 1∨4 < l.Kind then cur else match ek (aS f) l cur j [] with
     | none=>cur
     | some r=>fq (aS f) f.Lookups k l r (d8 (aS f) l cur j r) cur:=by
     unfold iA
     rw [if_neg (by omega),Int.toNat_natCast,hl]
     rfl
    have hmt:=lV hf (wb:=wb) (mb:=mb) mp1 hmp1 z l hl q1 cur
    have hma:=AC.args (oX hf (wb:=wb) (v:=lR mb) l hlm q1 cur hq1 hcu j hjl []) (a:=[dA wb,.iptr (pP l),aF j,.sc (.slice none 0 0)]) ⟨da.refl _,da.refl _,da.refl _,da.nil 1,trivial⟩
    obtain ⟨cAt,cLk⟩:=c
    dsimp only at hz ha hcg hno ca0 ca1
    subst hz
    repeat' (first|refine L3 ?_|refine KG a4 HY ?_)
    refine bn 18 [(0,.v),(1,.v),(2,.v),(3,.v),(4,.v),(5,.v),(6,.v),(7,.v),(8,.v),(9,.v),(10,.v),(11,.v),(12,.v),(13,.v),(14,.l),(15,.v),(16,.v),(17,.v)] none ?_ trivial rfl (by kernel_rfl) (by kernel_rfl) (by kernel_rfl) bI (by kernel_rfl) rfl
    repeat' (first|refine aB ?_|refine aX a4 ?_|refine KY a4 0 KB (by first|trivial|rfl) ?_)
    rw [decide_eq_false hn0]
    repeat' (first|fail)
    refine KU [0,1,3,4,11,12,19,20,21,51] HY ?_
    repeat' (first|refine L3 ?_|refine a7 ?_|fail)
    rw [decide_eq_false (show ¬(((f.Lookups.map bw).length:Nat):Int)≤(z:Int) by omega)]
    repeat' (first|refine L3 ?_|refine bE rfl ?_)
    refine bn 10 [(0,.v),(1,.v),(2,.v),(3,.v),(4,.l),(5,.v),(6,.v),(7,.v),(8,.v),(9,.v)] none ?_ trivial rfl (by kernel_rfl) (by kernel_rfl) (by kernel_rfl) bI (by kernel_rfl) rfl
    repeat' (first|refine aB ?_|refine aX a4 ?_|refine KY a4 0 KB (by first|trivial|rfl) ?_)
    refine cA a4 ?_ (h0:=by show (0:Int)≤(z:Int);omega) (hl:=hlg)
    repeat' (first|refine aB ?_|refine aX a4 ?_|fail)
    refine KU [0,1,3,4,11,12,19,20,21,61] HY ?_
    repeat' (first|refine L3 ?_|refine a7 ?_|refine KG a4 HY ?_)
    refine ce [0,1,3,4,11,12,19,20,21] (l.Kind < 1∨4 < l.Kind) rfl (fun Q' K=>?_) (fun hC=>?_) (fun hC=>?_)
    ·repeat' (first|refine L3 ?_|refine KG a4 HY ?_|refine KR HY ?_|refine KV KB ?_|refine KW KA (fun _=>?_) (fun _=>?_))
     all_goals exact K _ _ rfl rfl (by simp_all <;> omega)
    ·rw [if_pos hC] at hcv
     rw [hcv] at hnx
     repeat' (first|refine L3 ?_|refine KG a4 HY ?_|(apply aU;refine aT ?_)|fail)
     exact aD (i+1,q1,cur,mp1) rfl ⟨by rw [Kv];rfl,trivial⟩ ⟨hi2,hq1,hcu,hmp1,hnx.symm⟩ (by dsimp only;omega) (fun _ _ h=>h)
    ·rw [if_neg hC] at hcv
     repeat' (first|refine L3 ?_|refine KG a4 HY ?_)
     refine b6 (pV wb f mb q1 cur mp1) [] hmt rfl rfl (bK rfl) rfl fun c1 L1 ⟨hc1,mp2,hmp2,hL⟩=>?_
     subst hc1;subst hL
     rw [List.append_nil]
     refine aP (aI (rS hf)) ?_
     repeat' (first|refine KG a4 HY ?_)
     refine b6 (ey wb f (lR mb) q1 cur) [nM mb mp2] hma rfl rfl (Lz _) rfl fun c1 L1 ⟨hc1,hL⟩=>?_
     subst hc1;subst hL
     unfold rr
     cases hmn:kS (aS f) l cur j [] with
     | none=>
      rw [lT hmn] at hcv
      dsimp only at hcv ⊢
      rw [hcv] at hnx
      repeat' (first|refine L3 ?_|refine KG a4 HY ?_|(apply aU;refine aT ?_)|refine bE rfl ?_)
      exact aD (i+1,q1,cur,mp2) rfl ⟨by rw [Kv];rfl,trivial⟩ ⟨hi2,hq1,hcu,hmp2,hnx.symm⟩ (by dsimp only;omega) (fun _ _ h=>h)
     | some mr=>
      obtain ⟨r,hm,hmv⟩:=lU hmn
      rw [hmv] at hcv
      dsimp only at hcv ⊢
      rw [hm]
      simp only [Option.map_some,Option.getD_some]
      rw [show (dk (aS f) l.Ignore cur j).take r.In.length=d8 (aS f) l cur j r from rfl]
      obtain ⟨hps,hrm,hin,_,hhd⟩:=AW hmv
      generalize d8 (aS f) l cur j r=ps at *
      have hd2:=hdo z l mr r ps q1 cur mp2 hl hm (by omega) (by omega) (hf.ruleO hlm hrm hin) hps hq1 hcu hmp2
      have hr2:=(iK (ms:=aS f) (ls:=f.Lookups) k l r ps cur).big hcu
      rw [hcv] at hnx
      have hd3:AC Tryz.prog 173 [dA wb,aF z,aF mr,.imm 1 (bQ ps),aF ((deep:Int)+1)] (pV wb f mb q1 cur mp2) (iI wb f mb (fq (aS f) f.Lookups k l r ps cur)):=by
       unfold i7 at hd2
       rw [Kv] at hd2
       exact hd2
      generalize fq (aS f) f.Lookups k l r ps cur=R at *
      repeat' (first|refine L3 ?_|refine KG a4 HY ?_|(apply aU;refine aT ?_)|refine bH rfl ?_)
      refine b6 (pV wb f mb q1 cur mp2) [] hd3 rfl rfl (bK rfl) rfl fun c1 L1 ⟨q2,mp3,k1,k2,k3⟩=>?_
      subst k3
      rw [List.append_nil]
      repeat' (first|refine L3 ?_|refine KG a4 HY ?_|(apply aU;refine aT ?_)|fail)
      exact aD (i+1,q2,R,mp3) rfl ⟨by rw [Kv];rfl,trivial⟩ ⟨hi2,k1,hr2,k2,hnx.symm⟩ (by dsimp only;omega) (fun _ _ h=>h)
   ·have hcv:iA (aS f) f.Lookups (fq (aS f) f.Lookups k) (z:Int) j cur=cur:=by
     unfold iA
     rw [if_neg (by omega),Int.toNat_natCast,List.getElem?_eq_none (by omega)]
    rw [hcv] at hnx
    obtain ⟨cAt,cLk⟩:=c
    dsimp only at hz ha hcg hno ca0 ca1
    subst hz
    repeat' (first|refine L3 ?_|refine KG a4 HY ?_)
    refine bn 18 [(0,.v),(1,.v),(2,.v),(3,.v),(4,.v),(5,.v),(6,.v),(7,.v),(8,.v),(9,.v),(10,.v),(11,.v),(12,.v),(13,.v),(14,.l),(15,.v),(16,.v),(17,.v)] none ?_ trivial rfl (by kernel_rfl) (by kernel_rfl) (by kernel_rfl) bI (by kernel_rfl) rfl
    repeat' (first|refine aB ?_|refine aX a4 ?_|refine KY a4 0 KB (by first|trivial|rfl) ?_)
    rw [decide_eq_false hn0]
    repeat' (first|fail)
    refine KU [0,1,3,4,11,12,19,20,21,51] HY ?_
    repeat' (first|refine L3 ?_|refine a7 ?_|fail)
    rw [decide_eq_true (show (((f.Lookups.map bw).length:Nat):Int)≤(z:Int) by omega)]
    repeat' (first|refine L3 ?_|refine KG a4 HY ?_|(apply aU;refine aT ?_)|refine bH rfl ?_)
    exact aD (i+1,q1,cur,mp1) rfl ⟨by rw [Kv];rfl,trivial⟩ ⟨hi2,hq1,hcu,hmp1,hnx.symm⟩ (by dsimp only;omega) (fun _ _ h=>h)
 ·have hi2:i=cs.length:=by have:=Kx h;omega
  subst hi2
  rw [List.take_length] at hv
  rw [←hv]
  repeat' (first|refine L3 ?_|fail)
  exact ca rfl ⟨q1,mp1,hq1,hmp1,rfl⟩
end
end Go.Proofs.YtpmdfoaadejmkaaGreatDoor
namespace Go.Proofs.YtpmdfoaadejmkaaGreatDoor
open Go.RowKit
attribute [local irreducible] AT bJ AX AO Av Kt bi dq DA cG
section
variable {f:aZ} (hf:iz f) {wb mb:Nat}
include hf
set_option maxHeartbeats 8000000 in
theorem x6 (ig:Bool) (cs:List gK) (p:Nat) (q:Option dD) (run:List aJ) (mp:Value→Option AV) (hq:cu q run) (hmp:fX f mp):
  AC Tryz.prog 250 [dA wb,d6 ig,.imm 2 (cs.map eK),aF p,aF ((4:Nat):Int)] (pV wb f mb q run mp) (iI wb f mb run):=by
 have _:=hf
 refine aN Tryz.func250 rfl Tryz.ntmps250 rfl fun B=>?_
 repeat' (first|refine L3 ?_|refine KG a4 HY ?_|refine bH rfl ?_)
 refine jt rfl ⟨q,mp,hq,hmp,rfl⟩
set_option maxHeartbeats 8000000 in
theorem Iw {q:Option dD} {run R:List aJ} (hq:cu q run) {n:Nat} {l:aL} (hl:f.Lookups[n]?=some l) {m:Nat} {r:bh} (hm:l.Rules[m]?=some r) {ps:List Nat} {p:Nat} (hps:lw run (p::ps)) (deep:Nat) (mp:Value→Option AV) (hk:l.Kind=4)
  (hch:AC Tryz.prog 250 [dA wb,d6 l.Ignore,.imm 2 (r.Calls.map eK),aF p,aF deep] (pV wb f mb q run mp) (iI wb f mb R)):AC Tryz.prog 173 (i7 wb n m (p::ps) deep) (pV wb f mb q run mp) (iI wb f mb R):=by
 have _:=hf
 have _:=hq
 obtain ⟨kd,ig,rs⟩:=l
 dsimp only at hk hm hch
 subst hk
 have hlg:=c5 (c:=bw) hl
 have hmg:=c5 (c:=bC) hm
 have hp0:(bQ (p::ps))[(0:Int).toNat]?=some [aF p]:=rfl
 refine aN Tryz.func173 rfl Tryz.ntmps173 rfl fun B=>?_
 repeat' (first|refine L3 ?_|refine ak ?_|refine c9 rfl ?_|refine KG a4 HY ?_|(apply bo;first|refine KM a4 0 KC ?_|refine KM a4 1 KC ?_|refine KM a4 2 KC ?_|refine KM a4 3 KC ?_|refine KN a4 0 KC ?_|refine KN a4 1 KC ?_|refine KN a4 2 KC ?_|refine KO a4 1 KA (by assumption) rfl ?_|refine KO a4 0 KA (by assumption) rfl ?_|fail)|(apply aQ;first|refine aO a4 ?_|refine aG a4 ?_)|(apply aM;first|refine KL 10 a4 0 KF ?_|refine KL 10 a4 1 KF ?_|refine KL 10 a4 2 KF ?_|refine KH a4 0 KE ?_|refine KH a4 1 KE ?_|refine KH a4 2 KE ?_|refine KH a4 3 KE ?_|fail)|refine bq a4 fun _=>?_|refine bH rfl ?_|refine bE rfl ?_)
 refine bn 15 [(0,.v),(1,.v),(2,.v),(3,.v),(4,.v),(5,.l),(6,.v),(7,.v),(8,.v),(9,.v),(10,.v),(11,.v),(12,.v),(13,.v),(14,.e)] none ?_ trivial rfl (by kernel_rfl) (by kernel_rfl) (by kernel_rfl) bI (by kernel_rfl) rfl
 repeat' (first|refine aB ?_|refine aX a4 ?_|(apply cm;refine cA a4 ?_)|refine KY a4 0 KB (by first|trivial|rfl) ?_)
 refine fG (pV wb f mb q run mp) [] hch rfl rfl (bK rfl) trivial fun c L1 ⟨q',mp',h1,h2,h3⟩=>?_
 subst h3
 rw [List.append_nil]
 refine KU [] HY ?_
 repeat' (first|refine L3 ?_|refine a7 ?_|refine c9 rfl ?_)
 exact ca rfl ⟨q',mp',h1,h2,rfl⟩
theorem sT {q:Option dD} {run:List aJ} (hq:cu q run) (hr:run.length≤1000000) {n:Nat} {l:aL} (hl:f.Lookups[n]?=some l) {m:Nat} {r:bh} (hm:l.Rules[m]?=some r) (hro:ip r) {ps:List Nat} (hps:lw run ps) (deep k:Nat) (mp:Value→Option AV) (hmp:fX f mp) (h1:1≤l.Kind) (h6:l.Kind≤6) (h4:l.Kind≠4):
  AC Tryz.prog 173 (i7 wb n m ps deep) (pV wb f mb q run mp) (iI wb f mb (fq (aS f) f.Lookups k l r ps run)):=by
 have _:=hf
 rw [oK h4]
 cases q with
 | none=>
  have:=hq.emp rfl
  subst this
  obtain ⟨p,q,rfl⟩:=List.exists_cons_of_ne_nil hps.some_
  have:=hps.lt p (by simp)
  exact absurd this (Nat.not_lt_zero _)
 | some M=>
  have:=(show AC Tryz.prog 173 (i7 wb n m ps deep) (ey wb f (lR mb) (some M) run) (oB wb f (lR mb) (dE l r ps run)) by
   rcases (by omega:l.Kind=1∨l.Kind=5∨l.Kind=2∨l.Kind=3∨l.Kind=6) with h | h | h | h | h
   ·exact Jo hq hr hl hm hro hps deep h
   ·exact Jr hq hr hl hm hro hps deep h
   ·exact Jp hq hr hl hm hro hps deep h
   ·exact Jq hq hr hl hm hro hps deep h
   ·exact Js hq hr hl hm hro hps deep h)
  refine (this.frame (Lf:=[nM mb mp])).mono fun c L' ⟨L1,⟨q',h2,h3⟩,h4⟩=>⟨q',mp,h2,hmp,by rw [h4,h3]⟩
theorem Gz:∀(k deep:Nat),deep+k=4→Gm f wb mb deep k:=by
 intro k
 induction k with
 | zero=>
  intro deep hdk n l m r ps q run mp hl hm h1 h6 hro hps hq hr hmp
  by_cases h4:l.Kind=4
  ·have nE:deep=4:=by omega
   subst nE
   obtain ⟨p,ps',rfl⟩:=List.exists_cons_of_ne_nil hps.some_
   have hs:fq (aS f) f.Lookups 0 l r (p::ps') run=run:=by
    show dE l r (p::ps') run=run
    unfold dE
    rw [if_neg (by omega),if_neg (by omega),if_neg (by omega),if_neg (by omega)]
   rw [hs]
   exact Iw hf hq hl hm hps 4 mp h4 (x6 hf l.Ignore r.Calls p q run mp hq hmp)
  ·exact sT hf hq hr hl hm hro hps deep 0 mp hmp h1 h6 h4
 | succ k ih=>
  intro deep hdk n l m r ps q run mp hl hm h1 h6 hro hps hq hr hmp
  by_cases h4:l.Kind=4
  ·obtain ⟨p,ps',rfl⟩:=List.exists_cons_of_ne_nil hps.some_
   have hpl:=hps.lt p (by simp)
   have hs:fq (aS f) f.Lookups (k+1) l r (p::ps') run=r.Calls.foldl (dX (aS f) f.Lookups (fq (aS f) f.Lookups k) l.Ignore p) run:=by
    rw [fq]
    dsimp only
    rw [if_pos h4]
    rfl
   rw [hs]
   exact Iw hf hq hl hm hps deep mp h4 (zU hf (by omega) (ih (deep+1) (by omega)) l.Ignore r.Calls hro.calls hro.at_ p (by omega) q run mp hq hr hmp)
  ·exact sT hf hq hr hl hm hro hps deep (k+1) mp hmp h1 h6 h4
end
end Go.Proofs.YtpmdfoaadejmkaaGreatDoor
