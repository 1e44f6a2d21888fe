/-
  An engine's passes over a run: from one end to the other one.
-/
import Derived.Test.YtpmdfoaadejmkaaGreatDoorM19
import Derived.Test.YtpmdfoaadejmkaaGreatDoorM14
import Derived.Test.YtpmdfoaadejmkaaGreatDoorM17
namespace Go.Proofs.YtpmdfoaadejmkaaGreatDoor
open Go.RowKit
attribute [local irreducible] AT bJ AX AO Av Kt bi dq DA cG
theorem rI {p:Nat} {q:List Nat}:(bQ (p::q))[(((p::q).length:Int) - 1).toNat]?=some [aF ((p::q).getLastD p:Nat)]:=by
 have he:(p::q).getLastD p=(p::q).getLast (by simp):=by rw [List.getLastD_eq_getLast?,List.getLast?_eq_some_getLast (by simp)];rfl
 have hi:(((p::q).length:Int) - 1).toNat=(p::q).length - 1:=by omega
 rw [hi,he]
 unfold bQ
 refine bP ?_
 rw [List.getElem?_map,←List.getLast?_eq_getElem?,List.getLast?_eq_some_getLast (by simp)]
 rfl
section
variable {E:pZ} (hE:mD E) (wb:Nat)
include hE
set_option maxHeartbeats 8000000 in
theorem IP (e:pY) (he:e∈E.lks) (h1:1≤e.l.Kind) (h6:e.l.Kind≤6) (forms:List Int) (q0:Option dD) (run0:List aJ) (hq0:cu q0 run0) (hr0:run0.length≤1000000):
  AC Tryz.prog 37 [dA wb,.iptr (fM e),.imm 1 (aW forms)] (jQ wb E q0 run0) (gU wb E (sm E.ms E.ls e.l forms run0.length 0 run0)):=by
 refine aN Tryz.func37 rfl Tryz.ntmps37 rfl fun B=>?_
 have hau:=hE.auto e he h1 h6
 repeat' (first|refine L3 ?_|refine ak ?_|refine KG a4 HY ?_)
 refine aR [0,1,2] (α:=Nat×Nat×Option dD×List aJ) (fun s=>[(6,aF s.1)]) (fun s=>cu s.2.2.1 s.2.2.2∧s.2.2.2.length≤1000000∧s.1≤1000001∧s.2.2.2.length - s.1≤s.2.1∧sm E.ms E.ls e.l forms s.2.1 s.1 s.2.2.2=sm E.ms E.ls e.l forms run0.length 0 run0) (fun s=>jQ wb E s.2.2.1 s.2.2.2) (fun s=>s.2.1) (0,run0.length,q0,run0) rfl ⟨rfl,trivial⟩ ⟨hq0,hr0,by dsimp only;omega,by dsimp only;omega,rfl⟩ (fun _ _ h=>h) ?_
 rintro ⟨i,k,q,run⟩ ⟨hq,hr,hi1,hk,hv⟩
 dsimp only at hq hr hi1 hk hv ⊢
 try dsimp only [Kr,Kq,Kp,Lv]
 repeat' (first|refine L3 ?_|refine KG a4 HY ?_|(apply bo;first|refine KM a4 0 KC ?_|refine KM a4 1 KC ?_|refine KM a4 2 KC ?_|refine KM a4 3 KC ?_|refine KN a4 0 KC ?_|refine KN a4 1 KC ?_|refine KN a4 2 KC ?_|refine KO a4 1 KA (by assumption) rfl ?_|refine KO a4 0 KA (by assumption) rfl ?_|fail)|fail)
 refine iw a4 rfl hq rfl rfl ?_
 repeat' (first|refine L3 ?_|refine KG a4 HY ?_)
 refine aw rfl (fun h=>?_) (fun h=>?_)
 ·have hi:i < run.length:=by have:=Ky h;omega
  obtain ⟨k,rfl⟩:∃j,k=j+1:=⟨k - 1,by omega⟩
  rw [sm,if_pos hi] at hv
  have hma:=rt E e hau wb q run hq hr i (by omega) forms
  clear h
  repeat' (first|refine L3 ?_|refine ak ?_|refine KG a4 HY ?_)
  refine b6 (jQ wb E q run) [] hma rfl rfl (by rw [List.append_nil];exact Lz _) rfl fun c L1 ⟨hc,hL⟩=>?_
  subst hc;subst hL
  unfold lS
  cases hmv:ek E.ms e.l run i forms with
  | none=>
   rw [hmv] at hv
   dsimp only at hv ⊢
   repeat' (first|refine L3 ?_|refine KG a4 HY ?_)
   refine rD Tryz.underlying190 rfl rfl rfl rfl ?_
   repeat' (first|refine L3 ?_|refine KG a4 HY ?_|(apply aU;refine aT ?_)|refine bH rfl ?_)
   exact aD (i+1,k,q,run) rfl ⟨by rw [Kv];rfl,trivial⟩ ⟨hq,hr,by dsimp only;omega,by dsimp only;omega,hv⟩ (by dsimp only;omega) (fun _ _ h=>by rw [List.append_nil] at h;exact h)
  | some r=>
   rw [hmv] at hv
   dsimp only at hv ⊢
   obtain ⟨hps,hrm,hin,_,hhd⟩:=AW hmv
   have hro:=hE.rule e he r hrm hin
   have hdo:=CC hE wb 4 0 rfl e r (d8 E.ms e.l run i r) q run he h1 h6 hro hps hq hr
   generalize d8 E.ms e.l run i r=ps at *
   obtain ⟨p,ps',rfl⟩:=List.exists_cons_of_ne_nil hps.some_
   simp only [List.head?_cons,Option.some.injEq] at hhd
   subst hhd
   obtain ⟨l1,l2,l3⟩:=qj hps
   have hlg:=rI (p:=p) (q:=ps')
   have hnl:=f8 (p::ps')
   have hlen:=iK (ms:=E.ms) (ls:=E.ls) 4 e.l r (p::ps') run
   have hr2:=hlen.big hr
   have hleft:e.l.Kind≠4→run.length - 1 - (p::ps').getLastD p≤(fq E.ms E.ls 4 e.l r (p::ps') run).length:=fun h4=>vm h4 hps
   have hpl1:(p::ps').length=ps'.length+1:=rfl
   have hlen1:(1 < ((bQ (p::ps')).length:Int))↔p < (p::ps').getLastD p:=by
    rw [hnl,hpl1,←l3,←List.length_pos_iff]
    omega
   have hpair:e.l.Kind=6→(fq E.ms E.ls 4 e.l r (p::ps') run).length=run.length:=fun h6=>by
    rw [fq]
    dsimp only
    rw [if_neg (by omega)]
    unfold dE
    rw [if_neg (by omega),if_neg (by omega),if_neg (by omega),if_pos h6]
    unfold nX
    split
    ·rw [List.length_set]
    ·rfl
   generalize fq E.ms E.ls 4 e.l r (p::ps') run=run2 at *
   generalize (p::ps').getLastD p=last at *
   repeat' (first|refine L3 ?_|refine KG a4 HY ?_)
   refine rD Tryz.underlying190 rfl rfl rfl rfl ?_
   repeat' (first|refine L3 ?_|refine KG a4 HY ?_|(apply aU;refine aT ?_)|refine bE rfl ?_)
   refine aO a4 ?_ (hl:=by rw [hnl];exact hlg) (h0:=by rw [hnl,hpl1];omega)
   repeat' (first|refine L3 ?_|refine KG a4 HY ?_|(apply bo;first|refine KM a4 0 KC ?_|refine KM a4 1 KC ?_|refine KM a4 2 KC ?_|refine KM a4 3 KC ?_|refine KN a4 0 KC ?_|refine KN a4 1 KC ?_|refine KN a4 2 KC ?_|refine KO a4 1 KA (by assumption) rfl ?_|refine KO a4 0 KA (by assumption) rfl ?_|fail)|fail)
   refine iw a4 rfl hq rfl rfl ?_
   repeat' (first|refine L3 ?_|refine KG a4 HY ?_|(apply aU;refine aT ?_)|fail)
   refine b6 (jQ wb E q run) [] hdo rfl rfl (by rw [List.append_nil]) rfl fun c L1 ⟨q',g1,g2⟩=>?_
   subst g2
   repeat' (first|refine L3 ?_|refine KG a4 HY ?_|(apply bo;first|refine KM a4 0 KC ?_|refine KM a4 1 KC ?_|refine KM a4 2 KC ?_|refine KM a4 3 KC ?_|refine KN a4 0 KC ?_|refine KN a4 1 KC ?_|refine KN a4 2 KC ?_|refine KO a4 1 KA (by assumption) rfl ?_|refine KO a4 0 KA (by assumption) rfl ?_|fail)|fail)
   refine iw a4 rfl g1 rfl rfl ?_
   repeat' (first|refine L3 ?_|refine ak ?_|refine KG a4 HY ?_|(apply aU;refine aT ?_)|fail)
   refine aw rfl (fun h4=>?_) (fun h4=>?_)
   ·have hk4:e.l.Kind=4:=Ky h4
    unfold ki at hv
    rw [if_pos hk4] at hv
    repeat' (first|refine L3 ?_|refine KG a4 HY ?_|(apply aU;refine aT ?_)|fail)
    refine aD (max (run2.length - (run.length - 1 - last)) (p+1),k,q',run2) rfl ⟨?_,trivial⟩ ⟨g1,hr2,by dsimp only;omega,by dsimp only;omega,hv⟩ (by dsimp only;omega) (fun _ _ h=>by rw [List.append_nil] at h;exact h)
    show some (AV.sc (.int .i64 (max ((run2.length:Int) - ((run.length:Int) - 1 - last)) ((p:Int)+1))))=some (aF ((max (run2.length - (run.length - 1 - last)) (p+1):Nat):Int))
    rw [show max ((run2.length:Int) - ((run.length:Int) - 1 - last)) ((p:Int)+1)=((max (run2.length - (run.length - 1 - last)) (p+1):Nat):Int) by omega]
   ·have hk4:e.l.Kind≠4:=Kx h4
    have hlf:=hleft hk4
    repeat' (first|refine L3 ?_|refine KG a4 HY ?_)
    refine ce [0,1,2,9,11] (e.l.Kind=6∧p < last) rfl (fun Q' K=>?_) (fun hC=>?_) (fun hC=>?_)
    ·repeat' (first|refine L3 ?_|refine KG a4 HY ?_|refine KR HY ?_|refine KV KB ?_|refine KW KA (fun _=>?_) (fun _=>?_))
     all_goals exact K _ _ rfl rfl (by rw [←hlen1];simp_all)
    ·unfold ki at hv
     rw [if_neg hk4,if_pos hC] at hv
     repeat' (first|refine L3 ?_|refine KG a4 HY ?_)
     refine aD (last,k,q',run2) rfl ⟨rfl,trivial⟩ ⟨g1,hr2,by dsimp only;omega,by have:=hpair hC.1;dsimp only;omega,hv⟩ (by dsimp only;omega) (fun _ _ h=>by rw [List.append_nil] at h;exact h)
    ·unfold ki at hv
     rw [if_neg hk4,if_neg hC] at hv
     repeat' (first|refine L3 ?_|refine KG a4 HY ?_)
     refine aD (run2.length - (run.length - 1 - last),k,q',run2) rfl ⟨?_,trivial⟩ ⟨g1,hr2,by dsimp only;omega,by dsimp only;omega,hv⟩ (by dsimp only;omega) (fun _ _ h=>by rw [List.append_nil] at h;exact h)
     show some (AV.sc (.int .i64 ((run2.length:Int) - ((run.length:Int) - 1 - last))))=some (aF ((run2.length - (run.length - 1 - last):Nat):Int))
     rw [show (run2.length:Int) - ((run.length:Int) - 1 - last)=((run2.length - (run.length - 1 - last):Nat):Int) by omega]
 ·have hi:run.length≤i:=by have:=Kx h;omega
  have hrun:run=sm E.ms E.ls e.l forms run0.length 0 run0:=by
   rw [←hv]
   cases k with
   | zero=>rw [sm]
   | succ k=>rw [sm,if_neg (by omega)]
  repeat' (first|refine L3 ?_|fail)
  exact ca rfl ⟨q,by rw [←hrun];exact hq,by rw [←hrun];rfl⟩
set_option maxHeartbeats 8000000 in
theorem CF (e:pY) (he:e∈E.lks) (h1:1≤e.l.Kind) (h6:e.l.Kind≤6) (forms:List Int) (q0:Option dD) (run0:List aJ) (hq0:cu q0 run0) (hr0:run0.length≤1000000):
  AC Tryz.prog 38 [dA wb,.iptr (fM e),.imm 1 (aW forms)] (jQ wb E q0 run0) (gU wb E (gz E.ms E.ls e.l forms run0.length run0)):=by
 refine aN Tryz.func38 rfl Tryz.ntmps38 rfl fun B=>?_
 have hau:=hE.auto e he h1 h6
 repeat' (first|refine L3 ?_|refine KG a4 HY ?_|(apply bo;first|refine KM a4 0 KC ?_|refine KM a4 1 KC ?_|refine KM a4 2 KC ?_|refine KM a4 3 KC ?_|refine KN a4 0 KC ?_|refine KN a4 1 KC ?_|refine KN a4 2 KC ?_|refine KO a4 1 KA (by assumption) rfl ?_|refine KO a4 0 KA (by assumption) rfl ?_|fail)|fail)
 refine iw a4 rfl hq0 rfl rfl ?_
 repeat' (first|refine ak ?_|refine L3 ?_|refine KG a4 HY ?_|(apply aU;refine aT ?_)|fail)
 refine aR [0,1,2] (α:=Nat×Option dD×List aJ) (fun s=>[(6,aF ((s.1:Int) - 1))]) (fun s=>cu s.2.1 s.2.2∧s.2.2.length≤1000000∧s.1≤1000000∧gz E.ms E.ls e.l forms s.1 s.2.2=gz E.ms E.ls e.l forms run0.length run0) (fun s=>jQ wb E s.2.1 s.2.2) (fun s=>s.1) (run0.length,q0,run0) rfl ⟨rfl,trivial⟩ ⟨hq0,hr0,hr0,rfl⟩ (fun _ _ h=>h) ?_
 rintro ⟨n,q,run⟩ ⟨hq,hr,hn1,hv⟩
 dsimp only at hq hr hn1 hv ⊢
 try dsimp only [Kr,Kq,Kp,Lv]
 repeat' (first|refine L3 ?_|refine KG a4 HY ?_)
 refine aw rfl (fun h=>?_) (fun h=>?_)
 ·have hn0:0 < n:=by have:=Ky h;omega
  obtain ⟨i,rfl⟩:∃j,n=j+1:=⟨n - 1,by omega⟩
  rw [gz] at hv
  have hi0:((i+1:Nat):Int) - 1=(i:Int):=by omega
  have hma:=rt E e hau wb q run hq hr i (by omega) forms
  clear h
  rw [hi0]
  repeat' (first|refine L3 ?_|refine ak ?_|refine KG a4 HY ?_)
  refine b6 (jQ wb E q run) [] hma rfl rfl (by rw [List.append_nil];exact Lz _) rfl fun c L1 ⟨hc,hL⟩=>?_
  subst hc;subst hL
  unfold lS
  cases hmv:ek E.ms e.l run i forms with
  | none=>
   rw [hmv] at hv
   dsimp only at hv ⊢
   repeat' (first|refine L3 ?_|refine KG a4 HY ?_)
   refine ug Tryz.underlying190 rfl rfl rfl rfl ?_
   repeat' (first|refine L3 ?_|refine KG a4 HY ?_|(apply aU;refine aT ?_)|refine bE rfl ?_)
   exact aD (i,q,run) rfl ⟨rfl,trivial⟩ ⟨hq,hr,by dsimp only;omega,hv⟩ (by dsimp only;omega) (fun _ _ h=>by rw [List.append_nil] at h;exact h)
  | some r=>
   rw [hmv] at hv
   dsimp only at hv ⊢
   obtain ⟨hps,hrm,hin,_,hhd⟩:=AW hmv
   have hro:=hE.rule e he r hrm hin
   have hdo:=CC hE wb 4 0 rfl e r (d8 E.ms e.l run i r) q run he h1 h6 hro hps hq hr
   have hr2:=(iK (ms:=E.ms) (ls:=E.ls) 4 e.l r (d8 E.ms e.l run i r) run).big hr
   repeat' (first|refine L3 ?_|refine KG a4 HY ?_)
   refine ug Tryz.underlying190 rfl rfl rfl rfl ?_
   repeat' (first|refine L3 ?_|refine KG a4 HY ?_|refine bH rfl ?_)
   refine b6 (jQ wb E q run) [] hdo rfl rfl (by rw [List.append_nil]) rfl fun c L1 ⟨q',g1,g2⟩=>?_
   subst g2
   repeat' (first|refine L3 ?_|refine KG a4 HY ?_|(apply aU;refine aT ?_)|fail)
   exact aD (i,q',_) rfl ⟨rfl,trivial⟩ ⟨g1,hr2,by dsimp only;omega,hv⟩ (by dsimp only;omega) (fun _ _ h=>by rw [List.append_nil] at h;exact h)
 ·have hn0:n=0:=by have:=Kx h;omega
  subst hn0
  have hrun:run=gz E.ms E.ls e.l forms run0.length run0:=by rw [←hv,gz]
  repeat' (first|refine L3 ?_|fail)
  exact ca rfl ⟨q,by rw [←hrun];exact hq,by rw [←hrun];rfl⟩
end
end Go.Proofs.YtpmdfoaadejmkaaGreatDoor
namespace Go.Proofs.YtpmdfoaadejmkaaGreatDoor
open Go.RowKit
attribute [local irreducible] AT bJ AX AO Av Kt bi dq DA cG
theorem v4 (k:Int):bU Tryz.prog 34 [aF k] (d6 (decide (1≤k∧k≤6))):=by
 refine aN Tryz.func34 rfl Tryz.ntmps34 rfl fun B=>?_
 repeat' (first|refine L3 ?_|refine KG a4 HY ?_|refine KR HY ?_|refine KV KB ?_|refine KW KA (fun _=>?_) (fun _=>?_))
 all_goals exact KP HY (by simp_all <;> omega)
instance (k:Int):AD Tryz.prog 34 [aF k] (d6 (decide (1≤k∧k≤6))):=⟨v4 k⟩
section
variable {nt:Nat} {fr:cf} {B:Bs} {D:List Deferred}
theorem pd {t:Nat} {q:Option dD} {run:List aJ} {Lf:AL} (hq:cu q run) (hl:ci fr t=some (cM q run)):mQ nt D B fr (fP q run++Lf) ((t,.imm 6 (run.map bO))::fr) Lf:=by
 cases q with
 | none=>
  have he:=hq.emp rfl
  subst he
  exact bS hl fun σ v h=>h
 | some m=>
  obtain ⟨h1,h2,h3⟩:=hq.fit m rfl
  have hfl:=co run
  have hcl:run.length * 6≤(bB run++m.junk).length:=by rw [List.length_append];omega
  have htk:(bB run++m.junk).take (run.length * 6)=(run.map bO).flatten:=by
   have:=mi run m.junk (Nat.le_refl _)
   rw [List.take_length] at this
   exact this
  exact jl (sz:=6) (n:=run.length) (cap:=m.cap) (l:=run.map bO) 0 hl rfl htk hcl (fun e he=>by obtain ⟨z,_,rfl⟩:=List.mem_map.1 he;rfl) (Ku ..) h1 h2
theorem oq {t wb:Nat} {eng:AV} {q:Option dD} {run:List aJ} {Lf:AL} (hq:cu q run) (hl:ci fr t=some (cM q run)):mQ nt D B fr ((wb,.box [eng,cM q run] 102)::(fP q run++Lf)) ((t,.imm 6 (run.map bO))::fr) Lf:=fun σ a w ha hw=>
 pd hq hl σ a w ha (hw.sublist (List.sublist_cons_self ..))
end
section
variable {E:pZ} (hE:mD E)
include hE
set_option maxHeartbeats 8000000 in
theorem C4 (n:Int) (run:List aJ) (hr:run.length≤1000000) (forms:List Int):AC Tryz.prog 18 [.iptr (eC E),aF n,.imm 6 (run.map bO),.imm 1 (aW forms)] [dN] fun c L=>c= .imm 6 ((cK E.ms E.ls n run forms).map bO)∧L=[dN]:=by
 refine aN Tryz.func18 rfl Tryz.ntmps18 rfl fun B=>?_
 have hll:=sP E
 have hcl:=x8 run hr
 repeat' (first|refine L3 ?_|refine KG a4 HY ?_)
 refine b6 [] [dN] hcl rfl rfl (Lz _) rfl fun c L1 ⟨q,hq,hc,hL⟩=>?_
 subst hc;subst hL
 repeat' (first|fail)
 refine cw (u:= .agg [.iptr (eC E),cM q run]) (na a4 (by cases q <;> rfl)) rfl rfl ?_
 repeat' (first|refine L3 ?_|refine KG a4 HY ?_|refine te (d:=15) fun _=>?_|fail)
 refine rD Tryz.underlying34 rfl rfl rfl rfl ?_
 by_cases hin:0≤n∧n < E.lks.length
 ·obtain ⟨e,he⟩:∃e,E.lks[n.toNat]?=some e:=⟨_,Kz (by omega)⟩
  have heg:(E.lks.map fM)[n.toNat]?=some (fM e):=by simp [he]
  have hem:=Kw he
  refine ce [0,1,3,9] (¬(1≤e.l.Kind∧e.l.Kind≤6)) rfl (fun Q' K=>?_) (fun hC=>?_) (fun hC=>?_)
  ·repeat' (first|refine L3 ?_|refine KG a4 HY ?_|refine KR HY ?_|refine KV KB ?_|(apply aQ;first|refine aO a4 ?_|refine aG a4 ?_)|(apply bF;refine bv ?_)|refine KW KA (fun _=>?_) (fun _=>?_))
   all_goals exact K _ _ rfl rfl (by simp_all <;> omega)
  ·have hv:cK E.ms E.ls n run forms=run:=by
    unfold cK
    rw [if_neg (by omega),List.getElem?_map,he]
    show (if e.l.Kind < 1∨6 < e.l.Kind then run else _)=run
    rw [if_pos (by omega)]
   rw [hv]
   repeat' (first|refine L3 ?_|refine KG a4 HY ?_|(apply bo;first|refine KM a4 0 KC ?_|refine KM a4 1 KC ?_|refine KM a4 2 KC ?_|refine KM a4 3 KC ?_|refine KN a4 0 KC ?_|refine KN a4 1 KC ?_|refine KN a4 2 KC ?_|refine KO a4 1 KA (by assumption) rfl ?_|refine KO a4 0 KA (by assumption) rfl ?_|fail)|fail)
   refine bj (oq (t:=8) hq rfl) ?_
   exact KP HY ⟨rfl,rfl⟩
  ·have hC:1≤e.l.Kind∧e.l.Kind≤6:=Classical.not_not.1 hC
   have hv:cK E.ms E.ls n run forms=if e.l.Kind=5 then gz E.ms E.ls e.l forms run.length run else sm E.ms E.ls e.l forms run.length 0 run:=by
    unfold cK
    rw [if_neg (by omega),List.getElem?_map,he]
    show (if e.l.Kind < 1∨6 < e.l.Kind then run else _)=_
    rw [if_neg (by omega)]
   rw [hv]
   rename_i wb _
   have hdn:=CF hE wb e hem hC.1 hC.2 forms q run hq hr
   have hon:=IP hE wb e hem hC.1 hC.2 forms q run hq hr
   repeat' (first|refine L3 ?_|refine KG a4 HY ?_|(apply aQ;first|refine aO a4 ?_|refine aG a4 ?_)|fail)
   refine aw rfl (fun h5=>?_) (fun h5=>?_)
   ·rw [if_pos (Ky h5)]
    repeat' (first|refine L3 ?_|refine KG a4 HY ?_|(apply aQ;first|refine aO a4 ?_|refine aG a4 ?_)|fail)
    refine jB (jQ wb E q run) [] (jm.fnB (f:=38) (fs:=[dA wb]) (caps:=[]) hdn) rfl rfl (by rw [List.append_nil];exact Lz _) rfl rfl fun c L1 ⟨q',g1,g2⟩=>?_
    subst g2
    repeat' (first|refine L3 ?_|refine KG a4 HY ?_|(apply bo;first|refine KM a4 0 KC ?_|refine KM a4 1 KC ?_|refine KM a4 2 KC ?_|refine KM a4 3 KC ?_|refine KN a4 0 KC ?_|refine KN a4 1 KC ?_|refine KN a4 2 KC ?_|refine KO a4 1 KA (by assumption) rfl ?_|refine KO a4 0 KA (by assumption) rfl ?_|fail)|fail)
    refine bj (aI (List.Perm.of_eq (List.append_nil _))) ?_
    refine bj (oq (t:=8) g1 rfl) ?_
    exact KP HY ⟨rfl,rfl⟩
   ·rw [if_neg (Kx h5)]
    repeat' (first|refine L3 ?_|refine KG a4 HY ?_|(apply aQ;first|refine aO a4 ?_|refine aG a4 ?_)|fail)
    refine jB (jQ wb E q run) [] (jm.fnB (f:=37) (fs:=[dA wb]) (caps:=[]) hon) rfl rfl (by rw [List.append_nil];exact Lz _) rfl rfl fun c L1 ⟨q',g1,g2⟩=>?_
    subst g2
    repeat' (first|refine L3 ?_|refine KG a4 HY ?_|(apply bo;first|refine KM a4 0 KC ?_|refine KM a4 1 KC ?_|refine KM a4 2 KC ?_|refine KM a4 3 KC ?_|refine KN a4 0 KC ?_|refine KN a4 1 KC ?_|refine KN a4 2 KC ?_|refine KO a4 1 KA (by assumption) rfl ?_|refine KO a4 0 KA (by assumption) rfl ?_|fail)|fail)
    refine bj (aI (List.Perm.of_eq (List.append_nil _))) ?_
    refine bj (oq (t:=8) g1 rfl) ?_
    exact KP HY ⟨rfl,rfl⟩
 ·have hv:cK E.ms E.ls n run forms=run:=by
   unfold cK
   by_cases h0:n < 0
   ·rw [if_pos h0]
   ·rw [if_neg h0,List.getElem?_eq_none (by rw [Ku];omega)]
  rw [hv]
  refine ce [0,1,3,9] True rfl (fun Q' K=>?_) (fun hC=>?_) (fun hC=>absurd trivial hC)
  ·repeat' (first|refine L3 ?_|refine KG a4 HY ?_|refine KR HY ?_|refine KV KB ?_|refine KW KA (fun _=>?_) (fun _=>?_))
   all_goals first | exact K _ _ rfl rfl (by simp_all <;> omega) | (exfalso;simp_all <;> omega)
  ·repeat' (first|refine L3 ?_|refine KG a4 HY ?_|(apply bo;first|refine KM a4 0 KC ?_|refine KM a4 1 KC ?_|refine KM a4 2 KC ?_|refine KM a4 3 KC ?_|refine KN a4 0 KC ?_|refine KN a4 1 KC ?_|refine KN a4 2 KC ?_|refine KO a4 1 KA (by assumption) rfl ?_|refine KO a4 0 KA (by assumption) rfl ?_|fail)|fail)
   refine bj (oq (t:=8) hq rfl) ?_
   exact KP HY ⟨rfl,rfl⟩
end
def uw (ap:Int→List aJ→List Int→List aJ):List Int→List (List Int)→List aJ→List aJ
 | [],_,run=>run
 | n::ns,fs,run=>uw ap ns (fs.drop 1) (ap n run (fs.headD []))
structure Ew (u:AV) (ap:Int→List aJ→List Int→List aJ):Prop where
 ac:∀(n:Int) (run:List aJ) (forms:List Int),run.length≤1000000→AC Tryz.prog 18 [u,aF n,.imm 6 (run.map bO),.imm 1 (aW forms)] [dN] fun c L=>c= .imm 6 ((ap n run forms).map bO)∧L=[dN]
 len:∀(n:Int) (run:List aJ) (forms:List Int),run.length≤1000000→(ap n run forms).length≤1000000
theorem ul {ms:List Bool} {ls:List aL} {l:aL} {forms:List Int}:∀(k i:Nat) (run:List aJ),gC run.length (sm ms ls l forms k i run).length
 | 0,_,_=>by unfold gC;rw [sm];omega
 | k+1,i,run=>by
  rw [sm]
  split
  ·split
   ·exact ul k (i+1) run
   ·exact (iK 4 l _ _ run).trans (ul k _ _)
  ·unfold gC;omega
theorem oL {ms:List Bool} {ls:List aL} {l:aL} {forms:List Int}:∀(k:Nat) (run:List aJ),gC run.length (gz ms ls l forms k run).length
 | 0,_=>by unfold gC;rw [gz];omega
 | i+1,run=>by
  rw [gz]
  split
  ·exact oL i run
  ·exact (iK 4 l _ _ run).trans (oL i _)
theorem wS {ms:List Bool} {ls:List aL} {n:Int} {run:List aJ} {forms:List Int}:gC run.length (cK ms ls n run forms).length:=by
 have hs:gC run.length run.length:=by unfold gC;omega
 unfold cK
 split
 ·exact hs
 ·split
  ·exact hs
  ·split
   ·exact hs
   ·split
    ·exact oL _ _
    ·exact ul _ _ _
theorem Ip {E:pZ} (hE:mD E):Ew (.iptr (eC E)) (cK E.ms E.ls):=⟨fun n run forms hr=>C4 hE n run hr forms,fun _ _ _ hr=>wS.big hr⟩
def Ju:AV→Bool
 | .iptr _=>true
 | .sc (.pointer none)=>true
 | _=>false
set_option maxHeartbeats 4000000 in
theorem zb (cs:List AV) {ap:Int→List aJ→List Int→List aJ} (h:Ew (.iptr cs) ap) (ns:List Int) (fs:List (List Int)) (run:List aJ) (hr:run.length≤1000000):AC Tryz.prog 22 [.iptr cs,.imm 1 (aW ns),.imm 1 (bc fs),.imm 6 (run.map bO)] [dN] fun c L=>c= .imm 6 ((uw ap ns fs run).map bO)∧L=[dN]:=by
 refine aN Tryz.func22 rfl Tryz.ntmps22 rfl fun B=>?_
 refine cW 1 rfl rfl fun hlen=>?_
 have hcl:=x8 run hr
 have hnl:=bb ns
 rw [hnl] at hlen
 have hfl:=bY fs
 repeat' (first|refine L3 ?_|refine KG a4 HY ?_)
 refine b6 [] [dN] hcl rfl rfl (Lz _) rfl fun c L1 ⟨q,hq,hc,hL⟩=>?_
 subst hc;subst hL
 repeat' (first|refine L3 ?_|refine ak ?_|refine KG a4 HY ?_)
 refine c8 (pd (t:=3) hq rfl) ?_
 refine aR [2,9,17,18] (α:=Nat×List aJ) (fun s=>[(19,aF s.1),(3,.imm 6 (s.2.map bO))]) (fun s=>s.1≤ns.length∧s.2.length≤1000000∧uw ap (ns.drop s.1) (fs.drop s.1) s.2=uw ap ns fs run) (fun _=>[dN]) (fun s=>ns.length - s.1) (0,run) rfl ⟨rfl,rfl,trivial⟩ ⟨Nat.zero_le _,hr,rfl⟩ (fun _ _ h=>h) ?_
 rintro ⟨k,run1⟩ ⟨hk,hr1,hv⟩
 dsimp only at hk hr1 hv ⊢
 try dsimp only [Kr,Kq,Kp,Lv]
 repeat' (first|refine L3 ?_|refine KG a4 HY ?_)
 refine aw rfl (fun h0=>?_) (fun h0=>?_)
 ·have hk2:k < ns.length:=by have:=Ky h0;omega
  obtain ⟨n,hn⟩:∃n,ns[k]?=some n:=⟨_,Kz hk2⟩
  have hng:=bP hn
  rw [List.drop_eq_getElem_cons hk2,(Ko hn).2,uw,List.drop_drop] at hv
  clear h0
  repeat' (first|refine L3 ?_|refine ak ?_|refine KG a4 HY ?_|(apply aQ;first|refine aO a4 ?_|refine aG a4 ?_)|fail)
  refine aw rfl (fun h1=>?_) (fun h1=>?_)
  ·have hf:k < fs.length:=by have:=Ky h1;omega
   obtain ⟨f,hfg⟩:∃f,fs[k]?=some f:=⟨_,Kz hf⟩
   have hfgg:=gn hfg
   have hh:(fs.drop k).headD []=f:=by rw [List.drop_eq_getElem_cons hf,(Ko hfg).2];rfl
   rw [hh] at hv
   have hap:=h.ac n run1 f hr1
   clear h1
   repeat' (first|refine L3 ?_|refine KG a4 HY ?_|(apply aQ;first|refine aO a4 ?_|refine aG a4 ?_)|fail)
   refine jB [dN] [] (jm.fnB (f:=18) (fs:=[.iptr cs]) (caps:=[]) hap) rfl rfl (Lz _) rfl rfl fun c L1 ⟨hc,hL⟩=>?_
   subst hc;subst hL
   repeat' (first|refine L3 ?_|refine KG a4 HY ?_|(apply aU;refine aT ?_)|fail)
   exact aD (k+1,_) rfl ⟨by rw [Kv];rfl,rfl,trivial⟩ ⟨hk2,h.len _ _ _ hr1,hv⟩ (by dsimp only;omega) (fun _ _ h=>h)
  ·have hf:fs.length≤k:=by have:=Kx h1;omega
   have hh:(fs.drop k).headD []=[]:=by rw [List.drop_eq_nil_of_le hf];rfl
   rw [hh] at hv
   have hap:=AC.args (a:=[.iptr cs,aF n,.imm 6 (run1.map bO),.sc (.slice none 0 0)]) (h.ac n run1 [] hr1) ⟨da.refl _,da.refl _,da.refl _,da.nil 1,trivial⟩
   clear h1
   repeat' (first|refine L3 ?_|refine KG a4 HY ?_)
   refine jB [dN] [] (jm.fnB (f:=18) (fs:=[.iptr cs]) (caps:=[]) hap) rfl rfl (Lz _) rfl rfl fun c L1 ⟨hc,hL⟩=>?_
   subst hc;subst hL
   repeat' (first|refine L3 ?_|refine KG a4 HY ?_|(apply aU;refine aT ?_)|fail)
   exact aD (k+1,_) rfl ⟨by rw [Kv];rfl,rfl,trivial⟩ ⟨hk2,h.len _ _ _ hr1,hv⟩ (by dsimp only;omega) (fun _ _ h=>h)
 ·have hk2:k=ns.length:=by have:=Kx h0;omega
  subst hk2
  rw [List.drop_length] at hv
  have hv2:run1=uw ap ns fs run:=hv
  repeat' (first|refine L3 ?_|refine KG a4 HY ?_)
  exact KP HY ⟨by rw [←hv2],rfl⟩
end Go.Proofs.YtpmdfoaadejmkaaGreatDoor
namespace Go.Proofs.YtpmdfoaadejmkaaGreatDoor
open Go.RowKit
attribute [local irreducible] AT bJ AX AO Av Kt bi dq DA cG
theorem g8 {α:Type} {g:α→Nat} {k:Nat}:∀{l:List α} {m:Nat},m≤k→(∀x∈l,g x≤k)→l.foldl (fun m x=>max m (g x)) m≤k
 | [],_,h,_=>h
 | a::l,m,h,hl=>by
  rw [List.foldl_cons]
  exact g8 (by have:=hl a (by simp);omega) fun x hx=>hl x (by simp [hx])
theorem An (rs:List bh):kP pt rs=t1 rs:=by
 funext n
 unfold kP t1 pt
 rfl
theorem wV (rs:List bh) (gl:List Int):cx (fb (rs.map bh.Back) (kP qJ rs) gl) (rs.map bh.Back).length=cx (fb (rs.map bh.Back) (fun _=>true) gl) (rs.map bh.Back).length:=by
 refine ia fun i=>?_
 rw [ct,ct]
 by_cases hi:i < (rs.map bh.Back).length
 ·rw [Ku] at hi
  congr 1
  unfold fb kP
  rw [List.getElem?_map,Kz hi]
  rfl
 ·rw [decide_eq_false hi,Bool.false_and,Bool.false_and]
def F5 (l:aL) (a:lr):pY:=⟨l,a.cls,a.fore,a.back,a.foreE,a.backE⟩
theorem wr {cls:List Int} {rows:List (List (List Int))} {hv:Nat→Bool} {C:Nat} {tab:List (List Int)} {ends:List Nat} (h:sI cls rows hv C tab ends) (hr:rows.length≤6):∀z∈ends,z < 2 ^ 64:=by
 intro z hz
 obtain ⟨met,h0,h1,h2,h3,h4⟩:=h.met
 obtain ⟨i,hi⟩:=List.mem_iff_getElem?.1 hz
 have hil:=(Ko hi).1
 obtain ⟨p,hp⟩:∃p,met[i]?=some p:=⟨_,Kz (by omega)⟩
 have:=h3 i p hp
 rw [hi] at this
 cases this
 unfold jU
 split
 ·exact Nat.pow_pos (by omega)
 ·refine Nat.lt_of_le_of_lt Nat.and_le_right ?_
  exact oH (by omega)
theorem ES {N:Nat} {l:aL} (h:yg N l) {a:lr} (hb:yh N l.Rules a):lu (F5 l a):=by
 have hcs:∀z∈a.cls,z.toNat < (gO a.cls).toNat:=fun z hz=>by
  have h1:=hb.cls.dom z hz
  omega
 have hf:∀r∈l.Rules,(dZ r).length≤200∧r.Back.length≤200:=fun r hr=>by
  have:=(h.rule r hr).long
  have:=lI r
  omega
 refine ⟨h.few,⟨wr hb.fore (by rw [Ku];exact h.few),wr hb.back (by rw [Ku];exact h.few)⟩,fun gl=>?_,fun gl=>?_,?_,?_⟩
 ·have:=pI hb.cls (rows:=l.Rules.map dZ) (fun f9 hrow s hs=>?_) hb.fore hcs gl
  ·rw [An] at this
   exact this
  ·obtain ⟨r,hr,rfl⟩:=List.mem_map.1 hrow
   have hbr:=h.rule r hr
   refine ⟨List.mem_flatMap.2 ⟨r,hr,?_⟩,?_⟩
   ·rw [List.mem_append,List.mem_append]
    rcases lJ hs with hs | hs
    ·exact .inl (.inr hs)
    ·exact .inr hs
   ·rcases lJ hs with hs | hs
    ·exact (hbr.in_ s hs).2
    ·exact (hbr.ahead s hs).2
 ·have:=pI hb.cls (rows:=l.Rules.map bh.Back) (fun f9 hrow s hs=>?_) hb.back hcs gl
  ·rw [wV] at this
   exact this
  ·obtain ⟨r,hr,rfl⟩:=List.mem_map.1 hrow
   exact ⟨List.mem_flatMap.2 ⟨r,hr,by rw [List.mem_append,List.mem_append];exact .inl (.inl hs)⟩,((h.rule r hr).back s hs).2⟩
 ·exact g8 (by omega) fun r hr=>by have:=(h.rule r hr).long;show r.In.length+r.Ahead.length≤_;omega
 ·exact g8 (by omega) fun r hr=>by have:=(h.rule r hr).long;show r.Back.length≤_;omega
theorem Cq (l:List Int) (hl:l.length≤1000000):bU Tryz.prog 96 [.imm 1 (aW l)] (.imm 1 (aW l)):=by
 refine aN Tryz.func96 rfl Tryz.ntmps96 rfl fun B=>?_
 have hml:=bb l
 repeat' (first|refine L3 ?_|refine KG a4 HY ?_)
 refine ue a4 rfl rfl rfl rfl rfl fun b hb=>?_
 repeat' (first|refine L3 ?_|fail)
 cases b with
 | true=>
  rw [hb rfl]
  repeat' (first|refine L3 ?_|refine KG a4 HY ?_|refine bH rfl ?_)
  refine bj (bS (t:=2) (c':= .imm 1 []) rfl fun σ v h=>i9 1 h) ?_
  exact KQ KA
 | false=>
  repeat' (first|refine L3 ?_|refine KG a4 HY ?_|refine rE (d:=5) a4 fun _=>?_|refine bE rfl ?_)
  refine bV a4 [] rfl rfl rfl rfl (Lz _) (by rw [hml];simp;omega) (by rw [hml];simp;omega) rfl fun k'=>?_
  repeat' (first|refine L3 ?_|refine KG a4 HY ?_)
  refine bj (bS (t:=2) (c':= .imm 1 (aW l)) rfl fun σ v h=>VR.im h) ?_
  refine dH (List.nil_sublist _) ?_
  exact KQ KA
theorem Hj (l:List gK) (hl:l.length≤1000000):bU Tryz.prog 97 [.imm 2 (l.map eK)] (.imm 2 (l.map eK)):=by
 refine aN Tryz.func97 rfl Tryz.ntmps97 rfl fun B=>?_
 have hml:(l.map eK).length=l.length:=Ku ..
 repeat' (first|refine L3 ?_|refine KG a4 HY ?_)
 refine ue a4 rfl rfl rfl rfl rfl fun b hb=>?_
 repeat' (first|refine L3 ?_|fail)
 cases b with
 | true=>
  rw [hb rfl]
  repeat' (first|refine L3 ?_|refine KG a4 HY ?_|refine bH rfl ?_)
  refine bj (bS (t:=2) (c':= .imm 2 []) rfl fun σ v h=>i9 2 h) ?_
  exact KQ KA
 | false=>
  repeat' (first|refine L3 ?_|refine KG a4 HY ?_|refine rE (d:=5) a4 fun _=>?_|refine bE rfl ?_)
  refine bV a4 [] rfl rfl rfl rfl (Lz _) (by rw [hml];simp;omega) (by rw [hml];simp;omega) rfl fun k'=>?_
  repeat' (first|refine L3 ?_|refine KG a4 HY ?_)
  refine bj (bS (t:=2) (c':= .imm 2 (l.map eK)) rfl fun σ v h=>VR.im h) ?_
  refine dH (List.nil_sublist _) ?_
  exact KQ KA
abbrev cS:AV:= .sc (.slice none 0 0)
def dL {α:Type} (w:α→List AV) (z:List AV) (l:List α) (i:Nat):List (List AV):=(l.take i).map w++List.replicate (l.length - i) z
theorem iY {α:Type} {w:α→List AV} {z:List AV} {l:List α}:dL w z l 0=List.replicate l.length z:=by simp [dL]
theorem jV {α:Type} {w:α→List AV} {z:List AV} {l:List α}:dL w z l l.length=l.map w:=by simp [dL]
theorem jX {α:Type} {w:α→List AV} {z:List AV} {l:List α} {i:Nat} {x:α} (h:l[i]?=some x):(dL w z l i).set i (w x)=dL w z l (i+1):=by
 have hi:=(Ko h).1
 unfold dL
 rw [List.set_append,if_neg (by rw [Ku,List.length_take];omega),Ku,List.length_take,Nat.min_eq_left (by omega),Nat.sub_self,show l.length - i=(l.length - (i+1))+1 by omega,List.replicate_succ,List.set_cons_zero,List.take_add_one,h]
 simp
theorem jW {α:Type} {w:α→List AV} {z:List AV} {l:List α} {i:Nat} (hi:i≤l.length):(dL w z l i).length=l.length:=by
 unfold dL
 rw [List.length_append,Ku,List.length_take,List.length_replicate]
 omega
theorem iS {sz:Nat}:∀{l:List (List AV)} {i:Nat} {e:List AV},(∀q∈l,q.length=sz)→e.length=sz→i < l.length→f5 l.flatten (i * sz) e=(l.set i e).flatten
 | [],_,_,_,_,h=>by simp at h
 | q::l,0,e,hs,he,_=>by
  have hq:=hs q (by simp)
  rw [List.set_cons_zero,List.flatten_cons,List.flatten_cons,Nat.zero_mul]
  apply List.ext_getElem?
  intro j
  rw [f6 _ _ _ _ (by rw [List.length_append];omega)]
  by_cases hj:j < e.length
  ·rw [if_pos (by omega),Nat.sub_zero,List.getElem?_append_left hj]
  ·rw [if_neg (by omega),List.getElem?_append_right (by omega),List.getElem?_append_right (by omega),hq,he]
 | q::l,i+1,e,hs,he,h=>by
  have hq:=hs q (by simp)
  have ih:=iS (l:=l) (i:=i) (e:=e) (fun x hx=>hs x (by simp [hx])) he (by simpa using h)
  have hlen:i * sz+e.length≤l.flatten.length:=by
   have hl:l.flatten.length=l.length * sz:=dV l fun x hx=>hs x (by simp [hx])
   rw [hl,he]
   have:(i+1) * sz≤l.length * sz:=Nat.mul_le_mul_right _ (by simp at h;omega)
   rw [Nat.add_mul,Nat.one_mul] at this
   exact this
  rw [List.set_cons_succ,List.flatten_cons,List.flatten_cons,←ih]
  apply List.ext_getElem?
  intro j
  have e1:(i+1) * sz=i * sz+sz:=by rw [Nat.add_mul,Nat.one_mul]
  rw [f6 _ _ _ _ (by rw [List.length_append];omega),e1]
  by_cases hj:j < sz
  ·rw [if_neg (by omega),List.getElem?_append_left (by omega),List.getElem?_append_left (by omega)]
  ·rw [List.getElem?_append_right (by omega),List.getElem?_append_right (by omega),f6 _ _ _ _ hlen,hq]
   by_cases h2:i * sz≤j - sz∧j - sz < i * sz+e.length
   ·rw [if_pos h2,if_pos (by omega)]
    congr 1
    omega
   ·rw [if_neg h2,if_neg (by omega)]
set_option maxHeartbeats 4000000 in
theorem su (l:List (List Int)) (hl:l.length≤1000000) (hs:∀s∈l,s.length≤1000000):bU Tryz.prog 95 [.imm 1 (bc l)] (.imm 1 (bc l)):=by
 refine aN Tryz.func95 rfl Tryz.ntmps95 rfl fun B=>?_
 have hil:=bY l
 repeat' (first|refine L3 ?_|refine KG a4 HY ?_)
 refine j9 a4 l.length rfl rfl rfl rfl rfl (by rw [hil]) (by rw [hil]) (by omega) (by omega) rfl fun rb=>?_
 repeat' (first|refine L3 ?_|refine ak ?_|refine KG a4 HY ?_)
 refine aR [3,9,10] (α:=Nat) (fun i=>[(11,aF i)]) (fun i=>i≤l.length) (fun i=>[(rb,.box (dL (fun s=>[AV.imm 1 (aW s)]) [cS] l i).flatten 22)]) (fun i=>l.length - i) 0 rfl ⟨rfl,trivial⟩ (Nat.zero_le _) (fun _ _ hh=>by rw [iY];exact hh) fun i hi=>?_
 try dsimp only [Kr,Kq,Kp,Lv]
 repeat' (first|refine L3 ?_|refine KG a4 HY ?_)
 refine aw rfl (fun h1=>?_) (fun h1=>?_)
 ·have hi2:i < l.length:=by have:=Ky h1;omega
  obtain ⟨s,hsi⟩:∃z,l[i]?=some z:=⟨_,Kz hi2⟩
  have hsg:=gn hsi
  haveI:=AD.mk (Cq s (hs s (Kw hsi)))
  have hsz:∀q∈dL (fun s=>[AV.imm 1 (aW s)]) [cS] l i,q.length=1:=by
   intro q hq
   unfold dL at hq
   rw [List.mem_append] at hq
   rcases hq with hq | hq
   ·obtain ⟨_,_,rfl⟩:=List.mem_map.1 hq;rfl
   ·rw [(List.mem_replicate.1 hq).2];rfl
  have hfl:=jW (w:=fun s=>[AV.imm 1 (aW s)]) (z:=[cS]) (l:=l) (i:=i) hi
  have hput:=iS (sz:=1) (l:=dL (fun s=>[AV.imm 1 (aW s)]) [cS] l i) (i:=i) (e:=[AV.imm 1 (aW s)]) hsz rfl (by omega)
  rw [jX hsi] at hput
  have hfll:(dL (fun s=>[AV.imm 1 (aW s)]) [cS] l i).flatten.length=l.length * 1:=by rw [dV _ hsz,hfl]
  clear h1
  repeat' (first|refine L3 ?_|refine ak ?_|refine KG a4 HY ?_|(apply aQ;first|refine aO a4 ?_|refine aG a4 ?_)|(apply bF;refine bv ?_)|fail)
  refine KZ a4 0 KD (Nat.ble_eq_true_of_le (by rw [hfll,Int.toNat_natCast];show 0+i * 1+1≤_;omega)) ?_
  repeat' (first|refine L3 ?_|refine KG a4 HY ?_|(apply aU;refine aT ?_)|fail)
  refine aD (i+1) rfl ⟨by rw [Kv];rfl,trivial⟩ hi2 (by omega) (fun _ _ hh=>?_)
  rw [←hput]
  rw [Int.toNat_natCast,Nat.zero_add] at hh
  exact hh
 ·have hi2:i=l.length:=by have:=Kx h1;omega
  subst hi2
  rw [jV]
  clear h1
  repeat' (first|refine L3 ?_|refine KG a4 HY ?_)
  have hml:(l.map fun s=>[AV.imm 1 (aW s)]).flatten.length=l.length * 1:=by rw [dV _ (sz:=1) (fun q hq=>by obtain ⟨_,_,rfl⟩:=List.mem_map.1 hq;rfl),Ku]
  refine bj (jl (t:=2) (sz:=1) (n:=l.length) (cap:=l.length) (l:=bc l) 0 rfl rfl (by rw [List.take_of_length_le (by omega)];rfl) (by omega) (fun e he=>by unfold bc at he;obtain ⟨_,_,rfl⟩:=List.mem_map.1 he;rfl) hil (Nat.le_refl _) (by unfold maxLen;omega)) ?_
  exact KQ KA
def jF (r:bh):List AV:=[cS,.imm 1 (bc r.In),cS,.imm 1 (aW r.Out),.imm 2 (r.Calls.map eK),aF r.X]
theorem Er (r:bh):mE (jF r) (bC (fj r)):=⟨da.nil 1,da.refl _,da.nil 1,da.refl _,da.refl _,da.refl _,trivial⟩
theorem uG {α:Type} {a b:α→List AV} (h:∀x,mE (a x) (b x)):∀(l:List α),GS (l.map a) (l.map b)
 | []=>trivial
 | x::l=>⟨h x,uG h l⟩
structure Gk (r:bh):Prop where
 in_:r.In.length≤1000000∧∀s∈r.In,s.length≤1000000
 out:r.Out.length≤1000000
 calls:r.Calls.length≤1000000
set_option maxHeartbeats 8000000 in
theorem vi (l:aL) (hl:l.Rules.length≤1000000) (hr:∀r∈l.Rules,Gk r):bU Tryz.prog 33 [.agg (bw l)] (.agg (bw (jO l))):=by
 refine aN Tryz.func33 rfl Tryz.ntmps33 rfl fun B=>?_
 have hml:(l.Rules.map bC).length=l.Rules.length:=Ku ..
 repeat' (first|refine L3 ?_|refine KG a4 HY ?_|refine bA ?_|refine bq a4 fun _=>?_|fail)
 refine j9 a4 l.Rules.length rfl rfl rfl rfl rfl (by rw [hml]) (by rw [hml]) (by omega) (by omega) rfl fun rb=>?_
 repeat' (first|refine L3 ?_|refine ak ?_|refine KG a4 HY ?_)
 rename_i r2
 refine aR [1,2,3,11,12] (α:=Nat) (fun i=>[(13,aF i)]) (fun i=>i≤l.Rules.length) (fun i=>[(rb,.box (dL jF [cS,cS,cS,cS,cS,aF 0] l.Rules i).flatten 79),(r2,.box [aF 0,d6 false,cS] 59)]) (fun i=>l.Rules.length - i) 0 rfl ⟨rfl,trivial⟩ (Nat.zero_le _) (fun _ _ hh=>by rw [iY];exact hh) fun i hi=>?_
 try dsimp only [Kr,Kq,Kp,Lv]
 repeat' (first|refine L3 ?_|refine KG a4 HY ?_)
 refine aw rfl (fun h1=>?_) (fun h1=>?_)
 ·have hi2:i < l.Rules.length:=by have:=Ky h1;omega
  obtain ⟨r,hri⟩:∃z,l.Rules[i]?=some z:=⟨_,Kz hi2⟩
  have hrg:(l.Rules.map bC)[i]?=some (bC r):=by simp [hri]
  have hcr:=hr r (Kw hri)
  haveI:=AD.mk (su r.In hcr.in_.1 hcr.in_.2)
  haveI:=AD.mk (Cq r.Out hcr.out)
  haveI:=AD.mk (Hj r.Calls hcr.calls)
  have hsz:∀q∈dL jF [cS,cS,cS,cS,cS,aF 0] l.Rules i,q.length=6:=by
   intro q hq
   unfold dL at hq
   rw [List.mem_append] at hq
   rcases hq with hq | hq
   ·obtain ⟨_,_,rfl⟩:=List.mem_map.1 hq;rfl
   ·rw [(List.mem_replicate.1 hq).2];rfl
  have hfl:=jW (w:=jF) (z:=[cS,cS,cS,cS,cS,aF 0]) (l:=l.Rules) (i:=i) hi
  have hput:=iS (sz:=6) (l:=dL jF [cS,cS,cS,cS,cS,aF 0] l.Rules i) (i:=i) (e:=jF r) hsz rfl (by omega)
  rw [jX hri] at hput
  have hfll:(dL jF [cS,cS,cS,cS,cS,aF 0] l.Rules i).flatten.length=l.Rules.length * 6:=by rw [dV _ hsz,hfl]
  clear h1
  repeat' (first|refine L3 ?_|refine ak ?_|refine KG a4 HY ?_|(apply aQ;first|refine aO a4 ?_|refine aG a4 ?_)|(apply aM;first|refine KL 5 a4 0 KF ?_|refine KL 5 a4 1 KF ?_|refine KL 5 a4 2 KF ?_|refine KH a4 0 KE ?_|refine KH a4 1 KE ?_|refine KH a4 2 KE ?_|refine KH a4 3 KE ?_|fail)|refine bq a4 fun _=>?_|fail)
  refine bn 14 [(0,.v),(1,.v),(2,.v),(3,.v),(4,.v),(5,.v),(6,.v),(7,.v),(8,.v),(9,.v),(10,.v),(11,.v),(12,.v),(13,.v)] none ?_ trivial rfl (by kernel_rfl) (by kernel_rfl) (by kernel_rfl) bI (by kernel_rfl) rfl
  repeat' (first|refine aB ?_|refine aX a4 ?_|(apply dh;refine dK ?_)|fail)
  refine KU [1,2,3,11,12,13,18,19,31] HY ?_
  repeat' (first|(apply aQ;first|refine aO a4 ?_|refine aG a4 ?_)|fail)
  refine KZ a4 0 KD (Nat.ble_eq_true_of_le (by rw [hfll,Int.toNat_natCast];show 0+i * 6+6≤_;omega)) ?_
  repeat' (first|refine L3 ?_|refine KG a4 HY ?_|(apply aU;refine aT ?_)|fail)
  refine aD (i+1) rfl ⟨by rw [Kv];rfl,trivial⟩ hi2 (by omega) (fun _ _ hh=>?_)
  rw [←hput]
  rw [Int.toNat_natCast,Nat.zero_add] at hh
  exact hh
 ·have hi2:i=l.Rules.length:=by have:=Kx h1;omega
  subst hi2
  rw [jV]
  clear h1
  have hsz:∀q∈l.Rules.map jF,q.length=6:=fun q hq=>by obtain ⟨_,_,rfl⟩:=List.mem_map.1 hq;rfl
  have hml2:(l.Rules.map jF).flatten.length=l.Rules.length * 6:=by rw [dV _ hsz,Ku]
  refine c8 (jl (t:=3) (sz:=6) (n:=l.Rules.length) (cap:=l.Rules.length) (l:=l.Rules.map jF) 0 rfl rfl (by rw [List.take_of_length_le (by omega)]) (by omega) hsz (Ku ..) (Nat.le_refl _) (by unfold maxLen;omega)) ?_
  refine c8 (bS (t:=3) (c':= .imm 6 ((jO l).Rules.map bC)) rfl fun σ v h=>?_) ?_
  ·have e:(jO l).Rules.map bC=l.Rules.map fun r=>bC (fj r):=by unfold jO;rw [List.map_map];rfl
   rw [e]
   exact da.imm (uG Er l.Rules) σ v h
  repeat' (first|refine L3 ?_|refine KG a4 HY ?_|(apply aM;first|refine KL 5 a4 0 KF ?_|refine KL 5 a4 1 KF ?_|refine KL 5 a4 2 KF ?_|refine KH a4 0 KE ?_|refine KH a4 1 KE ?_|refine KH a4 2 KE ?_|refine KH a4 3 KE ?_|fail))
  exact i6 (cs:=[.agg (bw (jO l))]) [] ⟨⟨_,0,_,_,rfl,rfl,.inr ⟨eO a4 rfl,rfl⟩⟩,trivial⟩ (List.nil_sublist _) rfl
end Go.Proofs.YtpmdfoaadejmkaaGreatDoor
