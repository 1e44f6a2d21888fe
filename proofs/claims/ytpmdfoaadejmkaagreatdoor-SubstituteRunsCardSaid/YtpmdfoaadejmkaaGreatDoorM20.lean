/-
  An engine's passes over a run: from one end to the other one.
-/
import Derived.Test.YtpmdfoaadejmkaaGreatDoorM19
import Derived.Test.YtpmdfoaadejmkaaGreatDoorM14
import Derived.Test.YtpmdfoaadejmkaaGreatDoorM17
namespace Go.Proofs.YtpmdfoaadejmkaaGreatDoor
open Go.RowKit
attribute [local irreducible] AT bK AX AO Av Kt bh dw DA cK
theorem qT {p:Nat} {q:List Nat}:(bY (p::q))[(((p::q).length:Int) - 1).toNat]?=some [aF ((p::q).getLastD p:Nat)]:=by
 have he:(p::q).getLastD p=(p::q).getLast (by simp):=by rw [List.getLastD_eq_getLast?,List.getLast?_eq_some_getLast (by simp)];rfl
 have hi:(((p::q).length:Int) - 1).toNat=(p::q).length - 1:=by omega
 rw [hi,he]
 unfold bY
 refine bO ?_
 rw [List.getElem?_map,←List.getLast?_eq_getElem?,List.getLast?_eq_some_getLast (by simp)]
 rfl
section
variable {E:pk} (hE:lS E) (wb:Nat)
include hE
set_option maxHeartbeats 8000000 in
theorem I0 (e:pj) (he:e∈E.lks) (h1:1≤e.l.Kind) (h6:e.l.Kind≤6) (forms:List Int) (q0:Option ge) (run0:List aI) (hq0:dV q0 run0) (hr0:run0.length≤1000000):
  AC Tryz.prog 37 [g9 wb,.iptr (fB e),.imm 1 (aW forms)] (jm wb E q0 run0) (gE wb E (rH E.ms E.ls e.l forms run0.length 0 run0)):=by
 refine aN Tryz.func37 rfl Tryz.ntmps37 rfl fun B=>?_
 have hau:=hE.auto e he h1 h6
 repeat' (first|refine JU ?_|refine am ?_|refine JG a5 JA ?_)
 refine aP [0,1,2] (α:=Nat×Nat×Option ge×List aI) (fun s=>[(6,aF s.1)]) (fun s=>dV s.2.2.1 s.2.2.2∧s.2.2.2.length≤1000000∧s.1≤1000001∧s.2.2.2.length - s.1≤s.2.1∧rH E.ms E.ls e.l forms s.2.1 s.1 s.2.2.2=rH E.ms E.ls e.l forms run0.length 0 run0) (fun s=>jm wb E s.2.2.1 s.2.2.2) (fun s=>s.2.1) (0,run0.length,q0,run0) rfl ⟨rfl,trivial⟩ ⟨hq0,hr0,by dsimp only;omega,by dsimp only;omega,rfl⟩ (fun _ _ h=>h) ?_
 rintro ⟨i,k,q,run⟩ ⟨hq,hr,hi1,hk,hv⟩
 dsimp only at hq hr hi1 hk hv ⊢
 try dsimp only [Jt,Js,Jr,Kz]
 repeat' (first|refine JU ?_|refine JG a5 JA ?_|(apply bF;first|refine JJ a5 0 JD ?_|refine JJ a5 1 JD ?_|refine JJ a5 2 JD ?_|refine JJ a5 3 JD ?_|refine JK a5 0 JD ?_|refine JK a5 1 JD ?_|refine JK a5 2 JD ?_|refine JL a5 1 JB (by assumption) rfl ?_|refine JL a5 0 JB (by assumption) rfl ?_|fail)|fail)
 refine mp a5 rfl hq rfl rfl ?_
 repeat' (first|refine JU ?_|refine JG a5 JA ?_)
 refine ar rfl (fun h=>?_) (fun h=>?_)
 ·have hi:i < run.length:=by have:=Jz h;omega
  obtain ⟨k,rfl⟩:∃j,k=j+1:=⟨k - 1,by omega⟩
  rw [rH,if_pos hi] at hv
  have hma:=qL E e hau wb q run hq hr i (by omega) forms
  clear h
  repeat' (first|refine JU ?_|refine am ?_|refine JG a5 JA ?_)
  refine b9 (jm wb E q run) [] hma rfl rfl (by rw [List.append_nil];exact Jp _) rfl fun c L1 ⟨hc,hL⟩=>?_
  subst hc;subst hL
  unfold lf
  cases hmv:dS E.ms e.l run i forms with
  | none=>
   rw [hmv] at hv
   dsimp only at hv ⊢
   repeat' (first|refine JU ?_|refine JG a5 JA ?_)
   refine qP Tryz.underlying190 rfl rfl rfl rfl ?_
   repeat' (first|refine JU ?_|refine JG a5 JA ?_|(apply aS;refine aQ ?_)|refine bD rfl ?_)
   exact aC (i+1,k,q,run) rfl ⟨by rw [Jw];rfl,trivial⟩ ⟨hq,hr,by dsimp only;omega,by dsimp only;omega,hv⟩ (by dsimp only;omega) (fun _ _ h=>by rw [List.append_nil] at h;exact h)
  | some r=>
   rw [hmv] at hv
   dsimp only at hv ⊢
   obtain ⟨hps,hrm,hin,_,hhd⟩:=zW hmv
   have hro:=hE.rule e he r hrm hin
   have hdo:=BM hE wb 4 0 rfl e r (cU E.ms e.l run i r) q run he h1 h6 hro hps hq hr
   generalize cU E.ms e.l run i r=ps at *
   obtain ⟨p,ps',rfl⟩:=List.exists_cons_of_ne_nil hps.some_
   simp only [List.head?_cons,Option.some.injEq] at hhd
   subst hhd
   obtain ⟨l1,l2,l3⟩:=gO hps
   have hlg:=qT (p:=p) (q:=ps')
   have hnl:=dm (p::ps')
   have hlen:=ie (ms:=E.ms) (ls:=E.ls) 4 e.l r (p::ps') run
   have hr2:=hlen.big hr
   have hleft:e.l.Kind≠4→run.length - 1 - (p::ps').getLastD p≤(fT E.ms E.ls 4 e.l r (p::ps') run).length:=fun h4=>BK h4 hps
   have hpl1:(p::ps').length=ps'.length+1:=rfl
   have hlen1:(1 < ((bY (p::ps')).length:Int))↔p < (p::ps').getLastD p:=by
    rw [hnl,hpl1,←l3,←List.length_pos_iff]
    omega
   have hpair:e.l.Kind=6→(fT E.ms E.ls 4 e.l r (p::ps') run).length=run.length:=fun h6=>by
    rw [fT]
    dsimp only
    rw [if_neg (by omega)]
    unfold dW
    rw [if_neg (by omega),if_neg (by omega),if_neg (by omega),if_pos h6]
    unfold kD
    split
    ·rw [List.length_set]
    ·rfl
   generalize fT E.ms E.ls 4 e.l r (p::ps') run=run2 at *
   generalize (p::ps').getLastD p=last at *
   repeat' (first|refine JU ?_|refine JG a5 JA ?_)
   refine qP Tryz.underlying190 rfl rfl rfl rfl ?_
   repeat' (first|refine JU ?_|refine JG a5 JA ?_|(apply aS;refine aQ ?_)|refine bC rfl ?_)
   refine aK a5 ?_ (hl:=by rw [hnl];exact hlg) (h0:=by rw [hnl,hpl1];omega)
   repeat' (first|refine JU ?_|refine JG a5 JA ?_|(apply bF;first|refine JJ a5 0 JD ?_|refine JJ a5 1 JD ?_|refine JJ a5 2 JD ?_|refine JJ a5 3 JD ?_|refine JK a5 0 JD ?_|refine JK a5 1 JD ?_|refine JK a5 2 JD ?_|refine JL a5 1 JB (by assumption) rfl ?_|refine JL a5 0 JB (by assumption) rfl ?_|fail)|fail)
   refine mp a5 rfl hq rfl rfl ?_
   repeat' (first|refine JU ?_|refine JG a5 JA ?_|(apply aS;refine aQ ?_)|fail)
   refine b9 (jm wb E q run) [] hdo rfl rfl (by rw [List.append_nil]) rfl fun c L1 ⟨q',g1,g2⟩=>?_
   subst g2
   repeat' (first|refine JU ?_|refine JG a5 JA ?_|(apply bF;first|refine JJ a5 0 JD ?_|refine JJ a5 1 JD ?_|refine JJ a5 2 JD ?_|refine JJ a5 3 JD ?_|refine JK a5 0 JD ?_|refine JK a5 1 JD ?_|refine JK a5 2 JD ?_|refine JL a5 1 JB (by assumption) rfl ?_|refine JL a5 0 JB (by assumption) rfl ?_|fail)|fail)
   refine mp a5 rfl g1 rfl rfl ?_
   repeat' (first|refine JU ?_|refine am ?_|refine JG a5 JA ?_|(apply aS;refine aQ ?_)|fail)
   refine ar rfl (fun h4=>?_) (fun h4=>?_)
   ·have hk4:e.l.Kind=4:=Jz h4
    unfold jA at hv
    rw [if_pos hk4] at hv
    repeat' (first|refine JU ?_|refine JG a5 JA ?_|(apply aS;refine aQ ?_)|fail)
    refine aC (max (run2.length - (run.length - 1 - last)) (p+1),k,q',run2) rfl ⟨?_,trivial⟩ ⟨g1,hr2,by dsimp only;omega,by dsimp only;omega,hv⟩ (by dsimp only;omega) (fun _ _ h=>by rw [List.append_nil] at h;exact h)
    show some (AV.sc (.int .i64 (max ((run2.length:Int) - ((run.length:Int) - 1 - last)) ((p:Int)+1))))=some (aF ((max (run2.length - (run.length - 1 - last)) (p+1):Nat):Int))
    rw [show max ((run2.length:Int) - ((run.length:Int) - 1 - last)) ((p:Int)+1)=((max (run2.length - (run.length - 1 - last)) (p+1):Nat):Int) by omega]
   ·have hk4:e.l.Kind≠4:=Jy h4
    have hlf:=hleft hk4
    repeat' (first|refine JU ?_|refine JG a5 JA ?_)
    refine bX [0,1,2,9,11] (e.l.Kind=6∧p < last) rfl (fun Q' K=>?_) (fun hC=>?_) (fun hC=>?_)
    ·repeat' (first|refine JU ?_|refine JG a5 JA ?_|refine JO JA ?_|refine JP JC ?_|refine JS JB (fun _=>?_) (fun _=>?_))
     all_goals exact K _ _ rfl rfl (by rw [←hlen1];simp_all)
    ·unfold jA at hv
     rw [if_neg hk4,if_pos hC] at hv
     repeat' (first|refine JU ?_|refine JG a5 JA ?_)
     refine aC (last,k,q',run2) rfl ⟨rfl,trivial⟩ ⟨g1,hr2,by dsimp only;omega,by have:=hpair hC.1;dsimp only;omega,hv⟩ (by dsimp only;omega) (fun _ _ h=>by rw [List.append_nil] at h;exact h)
    ·unfold jA at hv
     rw [if_neg hk4,if_neg hC] at hv
     repeat' (first|refine JU ?_|refine JG a5 JA ?_)
     refine aC (run2.length - (run.length - 1 - last),k,q',run2) rfl ⟨?_,trivial⟩ ⟨g1,hr2,by dsimp only;omega,by dsimp only;omega,hv⟩ (by dsimp only;omega) (fun _ _ h=>by rw [List.append_nil] at h;exact h)
     show some (AV.sc (.int .i64 ((run2.length:Int) - ((run.length:Int) - 1 - last))))=some (aF ((run2.length - (run.length - 1 - last):Nat):Int))
     rw [show (run2.length:Int) - ((run.length:Int) - 1 - last)=((run2.length - (run.length - 1 - last):Nat):Int) by omega]
 ·have hi:run.length≤i:=by have:=Jy h;omega
  have hrun:run=rH E.ms E.ls e.l forms run0.length 0 run0:=by
   rw [←hv]
   cases k with
   | zero=>rw [rH]
   | succ k=>rw [rH,if_neg (by omega)]
  repeat' (first|refine JU ?_|fail)
  exact cH rfl ⟨q,by rw [←hrun];exact hq,by rw [←hrun];rfl⟩
set_option maxHeartbeats 8000000 in
theorem BN (e:pj) (he:e∈E.lks) (h1:1≤e.l.Kind) (h6:e.l.Kind≤6) (forms:List Int) (q0:Option ge) (run0:List aI) (hq0:dV q0 run0) (hr0:run0.length≤1000000):
  AC Tryz.prog 38 [g9 wb,.iptr (fB e),.imm 1 (aW forms)] (jm wb E q0 run0) (gE wb E (gT E.ms E.ls e.l forms run0.length run0)):=by
 refine aN Tryz.func38 rfl Tryz.ntmps38 rfl fun B=>?_
 have hau:=hE.auto e he h1 h6
 repeat' (first|refine JU ?_|refine JG a5 JA ?_|(apply bF;first|refine JJ a5 0 JD ?_|refine JJ a5 1 JD ?_|refine JJ a5 2 JD ?_|refine JJ a5 3 JD ?_|refine JK a5 0 JD ?_|refine JK a5 1 JD ?_|refine JK a5 2 JD ?_|refine JL a5 1 JB (by assumption) rfl ?_|refine JL a5 0 JB (by assumption) rfl ?_|fail)|fail)
 refine mp a5 rfl hq0 rfl rfl ?_
 repeat' (first|refine am ?_|refine JU ?_|refine JG a5 JA ?_|(apply aS;refine aQ ?_)|fail)
 refine aP [0,1,2] (α:=Nat×Option ge×List aI) (fun s=>[(6,aF ((s.1:Int) - 1))]) (fun s=>dV s.2.1 s.2.2∧s.2.2.length≤1000000∧s.1≤1000000∧gT E.ms E.ls e.l forms s.1 s.2.2=gT E.ms E.ls e.l forms run0.length run0) (fun s=>jm wb E s.2.1 s.2.2) (fun s=>s.1) (run0.length,q0,run0) rfl ⟨rfl,trivial⟩ ⟨hq0,hr0,hr0,rfl⟩ (fun _ _ h=>h) ?_
 rintro ⟨n,q,run⟩ ⟨hq,hr,hn1,hv⟩
 dsimp only at hq hr hn1 hv ⊢
 try dsimp only [Jt,Js,Jr,Kz]
 repeat' (first|refine JU ?_|refine JG a5 JA ?_)
 refine ar rfl (fun h=>?_) (fun h=>?_)
 ·have hn0:0 < n:=by have:=Jz h;omega
  obtain ⟨i,rfl⟩:∃j,n=j+1:=⟨n - 1,by omega⟩
  rw [gT] at hv
  have hi0:((i+1:Nat):Int) - 1=(i:Int):=by omega
  have hma:=qL E e hau wb q run hq hr i (by omega) forms
  clear h
  rw [hi0]
  repeat' (first|refine JU ?_|refine am ?_|refine JG a5 JA ?_)
  refine b9 (jm wb E q run) [] hma rfl rfl (by rw [List.append_nil];exact Jp _) rfl fun c L1 ⟨hc,hL⟩=>?_
  subst hc;subst hL
  unfold lf
  cases hmv:dS E.ms e.l run i forms with
  | none=>
   rw [hmv] at hv
   dsimp only at hv ⊢
   repeat' (first|refine JU ?_|refine JG a5 JA ?_)
   refine tE Tryz.underlying190 rfl rfl rfl rfl ?_
   repeat' (first|refine JU ?_|refine JG a5 JA ?_|(apply aS;refine aQ ?_)|refine bC rfl ?_)
   exact aC (i,q,run) rfl ⟨rfl,trivial⟩ ⟨hq,hr,by dsimp only;omega,hv⟩ (by dsimp only;omega) (fun _ _ h=>by rw [List.append_nil] at h;exact h)
  | some r=>
   rw [hmv] at hv
   dsimp only at hv ⊢
   obtain ⟨hps,hrm,hin,_,hhd⟩:=zW hmv
   have hro:=hE.rule e he r hrm hin
   have hdo:=BM hE wb 4 0 rfl e r (cU E.ms e.l run i r) q run he h1 h6 hro hps hq hr
   have hr2:=(ie (ms:=E.ms) (ls:=E.ls) 4 e.l r (cU E.ms e.l run i r) run).big hr
   repeat' (first|refine JU ?_|refine JG a5 JA ?_)
   refine tE Tryz.underlying190 rfl rfl rfl rfl ?_
   repeat' (first|refine JU ?_|refine JG a5 JA ?_|refine bD rfl ?_)
   refine b9 (jm wb E q run) [] hdo rfl rfl (by rw [List.append_nil]) rfl fun c L1 ⟨q',g1,g2⟩=>?_
   subst g2
   repeat' (first|refine JU ?_|refine JG a5 JA ?_|(apply aS;refine aQ ?_)|fail)
   exact aC (i,q',_) rfl ⟨rfl,trivial⟩ ⟨g1,hr2,by dsimp only;omega,hv⟩ (by dsimp only;omega) (fun _ _ h=>by rw [List.append_nil] at h;exact h)
 ·have hn0:n=0:=by have:=Jy h;omega
  subst hn0
  have hrun:run=gT E.ms E.ls e.l forms run0.length run0:=by rw [←hv,gT]
  repeat' (first|refine JU ?_|fail)
  exact cH rfl ⟨q,by rw [←hrun];exact hq,by rw [←hrun];rfl⟩
end
end Go.Proofs.YtpmdfoaadejmkaaGreatDoor
namespace Go.Proofs.YtpmdfoaadejmkaaGreatDoor
open Go.RowKit
attribute [local irreducible] AT bK AX AO Av Kt bh dw DA cK
theorem ul (k:Int):bJ Tryz.prog 34 [aF k] (dY (decide (1≤k∧k≤6))):=by
 refine aN Tryz.func34 rfl Tryz.ntmps34 rfl fun B=>?_
 repeat' (first|refine JU ?_|refine JG a5 JA ?_|refine JO JA ?_|refine JP JC ?_|refine JS JB (fun _=>?_) (fun _=>?_))
 all_goals exact JM JA (by simp_all <;> omega)
instance (k:Int):AD Tryz.prog 34 [aF k] (dY (decide (1≤k∧k≤6))):=⟨ul k⟩
section
variable {nt:Nat} {fr:c8} {B:Bs} {D:List Deferred}
theorem sU {t:Nat} {q:Option ge} {run:List aI} {Lf:AL} (hq:dV q run) (hl:cj fr t=some (eX q run)):mJ nt D B fr (om q run++Lf) ((t,.imm 6 (run.map aY))::fr) Lf:=by
 cases q with
 | none=>
  have he:=hq.emp rfl
  subst he
  exact bL hl fun σ v h=>h
 | some m=>
  obtain ⟨h1,h2,h3⟩:=hq.fit m rfl
  have hfl:=dl run
  have hcl:run.length * 6≤(ca run++m.junk).length:=by rw [List.length_append];omega
  have htk:(ca run++m.junk).take (run.length * 6)=(run.map aY).flatten:=by
   have:=o4 run m.junk (Nat.le_refl _)
   rw [List.take_length] at this
   exact this
  exact lx (sz:=6) (n:=run.length) (cap:=m.cap) (l:=run.map aY) 0 hl rfl htk hcl (fun e he=>by obtain ⟨z,_,rfl⟩:=List.mem_map.1 he;rfl) (Jv ..) h1 h2
theorem nD {t wb:Nat} {eng:AV} {q:Option ge} {run:List aI} {Lf:AL} (hq:dV q run) (hl:cj fr t=some (eX q run)):mJ nt D B fr ((wb,.box [eng,eX q run] 102)::(om q run++Lf)) ((t,.imm 6 (run.map aY))::fr) Lf:=fun σ a w ha hw=>
 sU hq hl σ a w ha (hw.sublist (List.sublist_cons_self ..))
end
section
variable {E:pk} (hE:lS E)
include hE
set_option maxHeartbeats 8000000 in
theorem Bg (n:Int) (run:List aI) (hr:run.length≤1000000) (forms:List Int):AC Tryz.prog 18 [.iptr (ei E),aF n,.imm 6 (run.map aY),.imm 1 (aW forms)] [dP] fun c L=>c= .imm 6 ((cV E.ms E.ls n run forms).map aY)∧L=[dP]:=by
 refine aN Tryz.func18 rfl Tryz.ntmps18 rfl fun B=>?_
 have hll:=rV E
 have hcl:=BB run hr
 repeat' (first|refine JU ?_|refine JG a5 JA ?_)
 refine b9 [] [dP] hcl rfl rfl (Jp _) rfl fun c L1 ⟨q,hq,hc,hL⟩=>?_
 subst hc;subst hL
 repeat' (first|fail)
 refine cf (u:= .agg [.iptr (ei E),eX q run]) (mz a5 (by cases q <;> rfl)) rfl rfl ?_
 repeat' (first|refine JU ?_|refine JG a5 JA ?_|refine yc (d:=15) fun _=>?_|fail)
 refine qP Tryz.underlying34 rfl rfl rfl rfl ?_
 by_cases hin:0≤n∧n < E.lks.length
 ·obtain ⟨e,he⟩:∃e,E.lks[n.toNat]?=some e:=⟨_,Hb (by omega)⟩
  have heg:(E.lks.map fB)[n.toNat]?=some (fB e):=by simp [he]
  have hem:=Jx he
  refine bX [0,1,3,9] (¬(1≤e.l.Kind∧e.l.Kind≤6)) rfl (fun Q' K=>?_) (fun hC=>?_) (fun hC=>?_)
  ·repeat' (first|refine JU ?_|refine JG a5 JA ?_|refine JO JA ?_|refine JP JC ?_|(apply aL;first|refine aK a5 ?_|refine aG a5 ?_)|(apply bw;refine bn ?_)|refine JS JB (fun _=>?_) (fun _=>?_))
   all_goals exact K _ _ rfl rfl (by simp_all <;> omega)
  ·have hv:cV E.ms E.ls n run forms=run:=by
    unfold cV
    rw [if_neg (by omega),List.getElem?_map,he]
    show (if e.l.Kind < 1∨6 < e.l.Kind then run else _)=run
    rw [if_pos (by omega)]
   rw [hv]
   repeat' (first|refine JU ?_|refine JG a5 JA ?_|(apply bF;first|refine JJ a5 0 JD ?_|refine JJ a5 1 JD ?_|refine JJ a5 2 JD ?_|refine JJ a5 3 JD ?_|refine JK a5 0 JD ?_|refine JK a5 1 JD ?_|refine JK a5 2 JD ?_|refine JL a5 1 JB (by assumption) rfl ?_|refine JL a5 0 JB (by assumption) rfl ?_|fail)|fail)
   refine bk (nD (t:=8) hq rfl) ?_
   exact JM JA ⟨rfl,rfl⟩
  ·have hC:1≤e.l.Kind∧e.l.Kind≤6:=Classical.not_not.1 hC
   have hv:cV E.ms E.ls n run forms=if e.l.Kind=5 then gT E.ms E.ls e.l forms run.length run else rH E.ms E.ls e.l forms run.length 0 run:=by
    unfold cV
    rw [if_neg (by omega),List.getElem?_map,he]
    show (if e.l.Kind < 1∨6 < e.l.Kind then run else _)=_
    rw [if_neg (by omega)]
   rw [hv]
   rename_i wb _
   have hdn:=BN hE wb e hem hC.1 hC.2 forms q run hq hr
   have hon:=I0 hE wb e hem hC.1 hC.2 forms q run hq hr
   repeat' (first|refine JU ?_|refine JG a5 JA ?_|(apply aL;first|refine aK a5 ?_|refine aG a5 ?_)|fail)
   refine ar rfl (fun h5=>?_) (fun h5=>?_)
   ·rw [if_pos (Jz h5)]
    repeat' (first|refine JU ?_|refine JG a5 JA ?_|(apply aL;first|refine aK a5 ?_|refine aG a5 ?_)|fail)
    refine j8 (jm wb E q run) [] (jP.fnB (f:=38) (fs:=[g9 wb]) (caps:=[]) hdn) rfl rfl (by rw [List.append_nil];exact Jp _) rfl rfl fun c L1 ⟨q',g1,g2⟩=>?_
    subst g2
    repeat' (first|refine JU ?_|refine JG a5 JA ?_|(apply bF;first|refine JJ a5 0 JD ?_|refine JJ a5 1 JD ?_|refine JJ a5 2 JD ?_|refine JJ a5 3 JD ?_|refine JK a5 0 JD ?_|refine JK a5 1 JD ?_|refine JK a5 2 JD ?_|refine JL a5 1 JB (by assumption) rfl ?_|refine JL a5 0 JB (by assumption) rfl ?_|fail)|fail)
    refine bk (aR (List.Perm.of_eq (List.append_nil _))) ?_
    refine bk (nD (t:=8) g1 rfl) ?_
    exact JM JA ⟨rfl,rfl⟩
   ·rw [if_neg (Jy h5)]
    repeat' (first|refine JU ?_|refine JG a5 JA ?_|(apply aL;first|refine aK a5 ?_|refine aG a5 ?_)|fail)
    refine j8 (jm wb E q run) [] (jP.fnB (f:=37) (fs:=[g9 wb]) (caps:=[]) hon) rfl rfl (by rw [List.append_nil];exact Jp _) rfl rfl fun c L1 ⟨q',g1,g2⟩=>?_
    subst g2
    repeat' (first|refine JU ?_|refine JG a5 JA ?_|(apply bF;first|refine JJ a5 0 JD ?_|refine JJ a5 1 JD ?_|refine JJ a5 2 JD ?_|refine JJ a5 3 JD ?_|refine JK a5 0 JD ?_|refine JK a5 1 JD ?_|refine JK a5 2 JD ?_|refine JL a5 1 JB (by assumption) rfl ?_|refine JL a5 0 JB (by assumption) rfl ?_|fail)|fail)
    refine bk (aR (List.Perm.of_eq (List.append_nil _))) ?_
    refine bk (nD (t:=8) g1 rfl) ?_
    exact JM JA ⟨rfl,rfl⟩
 ·have hv:cV E.ms E.ls n run forms=run:=by
   unfold cV
   by_cases h0:n < 0
   ·rw [if_pos h0]
   ·rw [if_neg h0,List.getElem?_eq_none (by rw [Jv];omega)]
  rw [hv]
  refine bX [0,1,3,9] True rfl (fun Q' K=>?_) (fun hC=>?_) (fun hC=>absurd trivial hC)
  ·repeat' (first|refine JU ?_|refine JG a5 JA ?_|refine JO JA ?_|refine JP JC ?_|refine JS JB (fun _=>?_) (fun _=>?_))
   all_goals first | exact K _ _ rfl rfl (by simp_all <;> omega) | (exfalso;simp_all <;> omega)
  ·repeat' (first|refine JU ?_|refine JG a5 JA ?_|(apply bF;first|refine JJ a5 0 JD ?_|refine JJ a5 1 JD ?_|refine JJ a5 2 JD ?_|refine JJ a5 3 JD ?_|refine JK a5 0 JD ?_|refine JK a5 1 JD ?_|refine JK a5 2 JD ?_|refine JL a5 1 JB (by assumption) rfl ?_|refine JL a5 0 JB (by assumption) rfl ?_|fail)|fail)
   refine bk (nD (t:=8) hq rfl) ?_
   exact JM JA ⟨rfl,rfl⟩
end
def my (ap:Int→List aI→List Int→List aI):List Int→List (List Int)→List aI→List aI
 | [],_,run=>run
 | n::ns,fs,run=>my ap ns (fs.drop 1) (ap n run (fs.headD []))
structure Dz (u:AV) (ap:Int→List aI→List Int→List aI):Prop where
 ac:∀(n:Int) (run:List aI) (forms:List Int),run.length≤1000000→AC Tryz.prog 18 [u,aF n,.imm 6 (run.map aY),.imm 1 (aW forms)] [dP] fun c L=>c= .imm 6 ((ap n run forms).map aY)∧L=[dP]
 len:∀(n:Int) (run:List aI) (forms:List Int),run.length≤1000000→(ap n run forms).length≤1000000
theorem tI {ms:List Bool} {ls:List aO} {l:aO} {forms:List Int}:∀(k i:Nat) (run:List aI),fN run.length (rH ms ls l forms k i run).length
 | 0,_,_=>by unfold fN;rw [rH];omega
 | k+1,i,run=>by
  rw [rH]
  split
  ·split
   ·exact tI k (i+1) run
   ·exact (ie 4 l _ _ run).trans (tI k _ _)
  ·unfold fN;omega
theorem nW {ms:List Bool} {ls:List aO} {l:aO} {forms:List Int}:∀(k:Nat) (run:List aI),fN run.length (gT ms ls l forms k run).length
 | 0,_=>by unfold fN;rw [gT];omega
 | i+1,run=>by
  rw [gT]
  split
  ·exact nW i run
  ·exact (ie 4 l _ _ run).trans (nW i _)
theorem md {ms:List Bool} {ls:List aO} {n:Int} {run:List aI} {forms:List Int}:fN run.length (cV ms ls n run forms).length:=by
 have hs:fN run.length run.length:=by unfold fN;omega
 unfold cV
 split
 ·exact hs
 ·split
  ·exact hs
  ·split
   ·exact hs
   ·split
    ·exact nW _ _
    ·exact tI _ _ _
theorem Hy {E:pk} (hE:lS E):Dz (.iptr (ei E)) (cV E.ms E.ls):=⟨fun n run forms hr=>Bg hE n run hr forms,fun _ _ _ hr=>md.big hr⟩
def IA:AV→Bool
 | .iptr _=>true
 | .sc (.pointer none)=>true
 | _=>false
set_option maxHeartbeats 4000000 in
theorem yp (cs:List AV) {ap:Int→List aI→List Int→List aI} (h:Dz (.iptr cs) ap) (ns:List Int) (fs:List (List Int)) (run:List aI) (hr:run.length≤1000000):AC Tryz.prog 22 [.iptr cs,.imm 1 (aW ns),.imm 1 (b6 fs),.imm 6 (run.map aY)] [dP] fun c L=>c= .imm 6 ((my ap ns fs run).map aY)∧L=[dP]:=by
 refine aN Tryz.func22 rfl Tryz.ntmps22 rfl fun B=>?_
 refine cB 1 rfl rfl fun hlen=>?_
 have hcl:=BB run hr
 have hnl:=aZ ns
 rw [hnl] at hlen
 have hfl:=c6 fs
 repeat' (first|refine JU ?_|refine JG a5 JA ?_)
 refine b9 [] [dP] hcl rfl rfl (Jp _) rfl fun c L1 ⟨q,hq,hc,hL⟩=>?_
 subst hc;subst hL
 repeat' (first|refine JU ?_|refine am ?_|refine JG a5 JA ?_)
 refine bS (sU (t:=3) hq rfl) ?_
 refine aP [2,9,17,18] (α:=Nat×List aI) (fun s=>[(19,aF s.1),(3,.imm 6 (s.2.map aY))]) (fun s=>s.1≤ns.length∧s.2.length≤1000000∧my ap (ns.drop s.1) (fs.drop s.1) s.2=my ap ns fs run) (fun _=>[dP]) (fun s=>ns.length - s.1) (0,run) rfl ⟨rfl,rfl,trivial⟩ ⟨Nat.zero_le _,hr,rfl⟩ (fun _ _ h=>h) ?_
 rintro ⟨k,run1⟩ ⟨hk,hr1,hv⟩
 dsimp only at hk hr1 hv ⊢
 try dsimp only [Jt,Js,Jr,Kz]
 repeat' (first|refine JU ?_|refine JG a5 JA ?_)
 refine ar rfl (fun h0=>?_) (fun h0=>?_)
 ·have hk2:k < ns.length:=by have:=Jz h0;omega
  obtain ⟨n,hn⟩:∃n,ns[k]?=some n:=⟨_,Hb hk2⟩
  have hng:=bO hn
  rw [List.drop_eq_getElem_cons hk2,(Jq hn).2,my,List.drop_drop] at hv
  clear h0
  repeat' (first|refine JU ?_|refine am ?_|refine JG a5 JA ?_|(apply aL;first|refine aK a5 ?_|refine aG a5 ?_)|fail)
  refine ar rfl (fun h1=>?_) (fun h1=>?_)
  ·have hf:k < fs.length:=by have:=Jz h1;omega
   obtain ⟨f,hfg⟩:∃f,fs[k]?=some f:=⟨_,Hb hf⟩
   have hfgg:=eR hfg
   have hh:(fs.drop k).headD []=f:=by rw [List.drop_eq_getElem_cons hf,(Jq hfg).2];rfl
   rw [hh] at hv
   have hap:=h.ac n run1 f hr1
   clear h1
   repeat' (first|refine JU ?_|refine JG a5 JA ?_|(apply aL;first|refine aK a5 ?_|refine aG a5 ?_)|fail)
   refine j8 [dP] [] (jP.fnB (f:=18) (fs:=[.iptr cs]) (caps:=[]) hap) rfl rfl (Jp _) rfl rfl fun c L1 ⟨hc,hL⟩=>?_
   subst hc;subst hL
   repeat' (first|refine JU ?_|refine JG a5 JA ?_|(apply aS;refine aQ ?_)|fail)
   exact aC (k+1,_) rfl ⟨by rw [Jw];rfl,rfl,trivial⟩ ⟨hk2,h.len _ _ _ hr1,hv⟩ (by dsimp only;omega) (fun _ _ h=>h)
  ·have hf:fs.length≤k:=by have:=Jy h1;omega
   have hh:(fs.drop k).headD []=[]:=by rw [List.drop_eq_nil_of_le hf];rfl
   rw [hh] at hv
   have hap:=AC.args (a:=[.iptr cs,aF n,.imm 6 (run1.map aY),.sc (.slice none 0 0)]) (h.ac n run1 [] hr1) ⟨cY.refl _,cY.refl _,cY.refl _,cY.nil 1,trivial⟩
   clear h1
   repeat' (first|refine JU ?_|refine JG a5 JA ?_)
   refine j8 [dP] [] (jP.fnB (f:=18) (fs:=[.iptr cs]) (caps:=[]) hap) rfl rfl (Jp _) rfl rfl fun c L1 ⟨hc,hL⟩=>?_
   subst hc;subst hL
   repeat' (first|refine JU ?_|refine JG a5 JA ?_|(apply aS;refine aQ ?_)|fail)
   exact aC (k+1,_) rfl ⟨by rw [Jw];rfl,rfl,trivial⟩ ⟨hk2,h.len _ _ _ hr1,hv⟩ (by dsimp only;omega) (fun _ _ h=>h)
 ·have hk2:k=ns.length:=by have:=Jy h0;omega
  subst hk2
  rw [List.drop_length] at hv
  have hv2:run1=my ap ns fs run:=hv
  repeat' (first|refine JU ?_|refine JG a5 JA ?_)
  exact JM JA ⟨by rw [←hv2],rfl⟩
end Go.Proofs.YtpmdfoaadejmkaaGreatDoor
namespace Go.Proofs.YtpmdfoaadejmkaaGreatDoor
open Go.RowKit
attribute [local irreducible] AT bK AX AO Av Kt bh dw DA cK
theorem iC {α:Type} {g:α→Nat} {k:Nat}:∀{l:List α} {m:Nat},m≤k→(∀x∈l,g x≤k)→l.foldl (fun m x=>max m (g x)) m≤k
 | [],_,h,_=>h
 | a::l,m,h,hl=>by
  rw [List.foldl_cons]
  exact iC (by have:=hl a (by simp);omega) fun x hx=>hl x (by simp [hx])
theorem zu (rs:List bc):kf oM rs=se rs:=by
 funext n
 unfold kf se oM
 rfl
theorem wa (rs:List bc) (gl:List Int):cn (eT (rs.map bc.Back) (kf pQ rs) gl) (rs.map bc.Back).length=cn (eT (rs.map bc.Back) (fun _=>true) gl) (rs.map bc.Back).length:=by
 refine gS fun i=>?_
 rw [cm,cm]
 by_cases hi:i < (rs.map bc.Back).length
 ·rw [Jv] at hi
  congr 1
  unfold eT kf
  rw [List.getElem?_map,Hb hi]
  rfl
 ·rw [decide_eq_false hi,Bool.false_and,Bool.false_and]
def Ee (l:aO) (a:kL):pj:=⟨l,a.cls,a.fore,a.back,a.foreE,a.backE⟩
theorem vD {cls:List Int} {rows:List (List (List Int))} {hv:Nat→Bool} {C:Nat} {tab:List (List Int)} {ends:List Nat} (h:rP cls rows hv C tab ends) (hr:rows.length≤6):∀z∈ends,z < 2 ^ 64:=by
 intro z hz
 obtain ⟨met,h0,h1,h2,h3,h4⟩:=h.met
 obtain ⟨i,hi⟩:=List.mem_iff_getElem?.1 hz
 have hil:=(Jq hi).1
 obtain ⟨p,hp⟩:∃p,met[i]?=some p:=⟨_,Hb (by omega)⟩
 have:=h3 i p hp
 rw [hi] at this
 cases this
 unfold js
 split
 ·exact Nat.pow_pos (by omega)
 ·refine Nat.lt_of_le_of_lt Nat.and_le_right ?_
  exact nS (by omega)
theorem E1 {N:Nat} {l:aO} (h:xw N l) {a:kL} (hb:xy N l.Rules a):kM (Ee l a):=by
 have hcs:∀z∈a.cls,z.toNat < (gB a.cls).toNat:=fun z hz=>by
  have h1:=hb.cls.dom z hz
  omega
 have hf:∀r∈l.Rules,(dK r).length≤200∧r.Back.length≤200:=fun r hr=>by
  have:=(h.rule r hr).long
  have:=l4 r
  omega
 refine ⟨h.few,⟨vD hb.fore (by rw [Jv];exact h.few),vD hb.back (by rw [Jv];exact h.few)⟩,fun gl=>?_,fun gl=>?_,?_,?_⟩
 ·have:=p7 hb.cls (rows:=l.Rules.map dK) (fun eQ hrow s hs=>?_) hb.fore hcs gl
  ·rw [zu] at this
   exact this
  ·obtain ⟨r,hr,rfl⟩:=List.mem_map.1 hrow
   have hbr:=h.rule r hr
   refine ⟨List.mem_flatMap.2 ⟨r,hr,?_⟩,?_⟩
   ·rw [List.mem_append,List.mem_append]
    rcases l6 hs with hs | hs
    ·exact .inl (.inr hs)
    ·exact .inr hs
   ·rcases l6 hs with hs | hs
    ·exact (hbr.in_ s hs).2
    ·exact (hbr.ahead s hs).2
 ·have:=p7 hb.cls (rows:=l.Rules.map bc.Back) (fun eQ hrow s hs=>?_) hb.back hcs gl
  ·rw [wa] at this
   exact this
  ·obtain ⟨r,hr,rfl⟩:=List.mem_map.1 hrow
   exact ⟨List.mem_flatMap.2 ⟨r,hr,by rw [List.mem_append,List.mem_append];exact .inl (.inl hs)⟩,((h.rule r hr).back s hs).2⟩
 ·exact iC (by omega) fun r hr=>by have:=(h.rule r hr).long;show r.In.length+r.Ahead.length≤_;omega
 ·exact iC (by omega) fun r hr=>by have:=(h.rule r hr).long;show r.Back.length≤_;omega
theorem BA (l:List Int) (hl:l.length≤1000000):bJ Tryz.prog 96 [.imm 1 (aW l)] (.imm 1 (aW l)):=by
 refine aN Tryz.func96 rfl Tryz.ntmps96 rfl fun B=>?_
 have hml:=aZ l
 repeat' (first|refine JU ?_|refine JG a5 JA ?_)
 refine tC a5 rfl rfl rfl rfl rfl fun b hb=>?_
 repeat' (first|refine JU ?_|fail)
 cases b with
 | true=>
  rw [hb rfl]
  repeat' (first|refine JU ?_|refine JG a5 JA ?_|refine bD rfl ?_)
  refine bk (bL (t:=2) (c':= .imm 1 []) rfl fun σ v h=>io 1 h) ?_
  exact JN JB
 | false=>
  repeat' (first|refine JU ?_|refine JG a5 JA ?_|refine iL (d:=5) a5 fun _=>?_|refine bC rfl ?_)
  refine bI a5 [] rfl rfl rfl rfl (Jp _) (by rw [hml];simp;omega) (by rw [hml];simp;omega) rfl fun k'=>?_
  repeat' (first|refine JU ?_|refine JG a5 JA ?_)
  refine bk (bL (t:=2) (c':= .imm 1 (aW l)) rfl fun σ v h=>VR.im h) ?_
  refine dI (List.nil_sublist _) ?_
  exact JN JB
theorem Gz (l:List gQ) (hl:l.length≤1000000):bJ Tryz.prog 97 [.imm 2 (l.map eM)] (.imm 2 (l.map eM)):=by
 refine aN Tryz.func97 rfl Tryz.ntmps97 rfl fun B=>?_
 have hml:(l.map eM).length=l.length:=Jv ..
 repeat' (first|refine JU ?_|refine JG a5 JA ?_)
 refine tC a5 rfl rfl rfl rfl rfl fun b hb=>?_
 repeat' (first|refine JU ?_|fail)
 cases b with
 | true=>
  rw [hb rfl]
  repeat' (first|refine JU ?_|refine JG a5 JA ?_|refine bD rfl ?_)
  refine bk (bL (t:=2) (c':= .imm 2 []) rfl fun σ v h=>io 2 h) ?_
  exact JN JB
 | false=>
  repeat' (first|refine JU ?_|refine JG a5 JA ?_|refine iL (d:=5) a5 fun _=>?_|refine bC rfl ?_)
  refine bI a5 [] rfl rfl rfl rfl (Jp _) (by rw [hml];simp;omega) (by rw [hml];simp;omega) rfl fun k'=>?_
  repeat' (first|refine JU ?_|refine JG a5 JA ?_)
  refine bk (bL (t:=2) (c':= .imm 2 (l.map eM)) rfl fun σ v h=>VR.im h) ?_
  refine dI (List.nil_sublist _) ?_
  exact JN JB
abbrev eC:AV:= .sc (.slice none 0 0)
def gk {α:Type} (w:α→List AV) (z:List AV) (l:List α) (i:Nat):List (List AV):=(l.take i).map w++List.replicate (l.length - i) z
theorem qi {α:Type} {w:α→List AV} {z:List AV} {l:List α}:gk w z l 0=List.replicate l.length z:=by simp [gk]
theorem s7 {α:Type} {w:α→List AV} {z:List AV} {l:List α}:gk w z l l.length=l.map w:=by simp [gk]
theorem s9 {α:Type} {w:α→List AV} {z:List AV} {l:List α} {i:Nat} {x:α} (h:l[i]?=some x):(gk w z l i).set i (w x)=gk w z l (i+1):=by
 have hi:=(Jq h).1
 unfold gk
 rw [List.set_append,if_neg (by rw [Jv,List.length_take];omega),Jv,List.length_take,Nat.min_eq_left (by omega),Nat.sub_self,show l.length - i=(l.length - (i+1))+1 by omega,List.replicate_succ,List.set_cons_zero,List.take_add_one,h]
 simp
theorem s8 {α:Type} {w:α→List AV} {z:List AV} {l:List α} {i:Nat} (hi:i≤l.length):(gk w z l i).length=l.length:=by
 unfold gk
 rw [List.length_append,Jv,List.length_take,List.length_replicate]
 omega
theorem o0 {sz:Nat}:∀{l:List (List AV)} {i:Nat} {e:List AV},(∀q∈l,q.length=sz)→e.length=sz→i < l.length→fj l.flatten (i * sz) e=(l.set i e).flatten
 | [],_,_,_,_,h=>by simp at h
 | q::l,0,e,hs,he,_=>by
  have hq:=hs q (by simp)
  rw [List.set_cons_zero,List.flatten_cons,List.flatten_cons,Nat.zero_mul]
  apply List.ext_getElem?
  intro j
  rw [gq _ _ _ _ (by rw [List.length_append];omega)]
  by_cases hj:j < e.length
  ·rw [if_pos (by omega),Nat.sub_zero,List.getElem?_append_left hj]
  ·rw [if_neg (by omega),List.getElem?_append_right (by omega),List.getElem?_append_right (by omega),hq,he]
 | q::l,i+1,e,hs,he,h=>by
  have hq:=hs q (by simp)
  have ih:=o0 (l:=l) (i:=i) (e:=e) (fun x hx=>hs x (by simp [hx])) he (by simpa using h)
  have hlen:i * sz+e.length≤l.flatten.length:=by
   have hl:l.flatten.length=l.length * sz:=fc l fun x hx=>hs x (by simp [hx])
   rw [hl,he]
   have:(i+1) * sz≤l.length * sz:=Nat.mul_le_mul_right _ (by simp at h;omega)
   rw [Nat.add_mul,Nat.one_mul] at this
   exact this
  rw [List.set_cons_succ,List.flatten_cons,List.flatten_cons,←ih]
  apply List.ext_getElem?
  intro j
  have e1:(i+1) * sz=i * sz+sz:=by rw [Nat.add_mul,Nat.one_mul]
  rw [gq _ _ _ _ (by rw [List.length_append];omega),e1]
  by_cases hj:j < sz
  ·rw [if_neg (by omega),List.getElem?_append_left (by omega),List.getElem?_append_left (by omega)]
  ·rw [List.getElem?_append_right (by omega),List.getElem?_append_right (by omega),gq _ _ _ _ hlen,hq]
   by_cases h2:i * sz≤j - sz∧j - sz < i * sz+e.length
   ·rw [if_pos h2,if_pos (by omega)]
    congr 1
    omega
   ·rw [if_neg h2,if_neg (by omega)]
set_option maxHeartbeats 4000000 in
theorem rC (l:List (List Int)) (hl:l.length≤1000000) (hs:∀s∈l,s.length≤1000000):bJ Tryz.prog 95 [.imm 1 (b6 l)] (.imm 1 (b6 l)):=by
 refine aN Tryz.func95 rfl Tryz.ntmps95 rfl fun B=>?_
 have hil:=c6 l
 repeat' (first|refine JU ?_|refine JG a5 JA ?_)
 refine li a5 l.length rfl rfl rfl rfl rfl (by rw [hil]) (by rw [hil]) (by omega) (by omega) rfl fun rb=>?_
 repeat' (first|refine JU ?_|refine am ?_|refine JG a5 JA ?_)
 refine aP [3,9,10] (α:=Nat) (fun i=>[(11,aF i)]) (fun i=>i≤l.length) (fun i=>[(rb,.box (gk (fun s=>[AV.imm 1 (aW s)]) [eC] l i).flatten 22)]) (fun i=>l.length - i) 0 rfl ⟨rfl,trivial⟩ (Nat.zero_le _) (fun _ _ hh=>by rw [qi];exact hh) fun i hi=>?_
 try dsimp only [Jt,Js,Jr,Kz]
 repeat' (first|refine JU ?_|refine JG a5 JA ?_)
 refine ar rfl (fun h1=>?_) (fun h1=>?_)
 ·have hi2:i < l.length:=by have:=Jz h1;omega
  obtain ⟨s,hsi⟩:∃z,l[i]?=some z:=⟨_,Hb hi2⟩
  have hsg:=eR hsi
  haveI:=AD.mk (BA s (hs s (Jx hsi)))
  have hsz:∀q∈gk (fun s=>[AV.imm 1 (aW s)]) [eC] l i,q.length=1:=by
   intro q hq
   unfold gk at hq
   rw [List.mem_append] at hq
   rcases hq with hq | hq
   ·obtain ⟨_,_,rfl⟩:=List.mem_map.1 hq;rfl
   ·rw [(List.mem_replicate.1 hq).2];rfl
  have hfl:=s8 (w:=fun s=>[AV.imm 1 (aW s)]) (z:=[eC]) (l:=l) (i:=i) hi
  have hput:=o0 (sz:=1) (l:=gk (fun s=>[AV.imm 1 (aW s)]) [eC] l i) (i:=i) (e:=[AV.imm 1 (aW s)]) hsz rfl (by omega)
  rw [s9 hsi] at hput
  have hfll:(gk (fun s=>[AV.imm 1 (aW s)]) [eC] l i).flatten.length=l.length * 1:=by rw [fc _ hsz,hfl]
  clear h1
  repeat' (first|refine JU ?_|refine am ?_|refine JG a5 JA ?_|(apply aL;first|refine aK a5 ?_|refine aG a5 ?_)|(apply bw;refine bn ?_)|fail)
  refine aa a5 0 rfl rfl rfl rfl rfl rfl (Nat.ble_eq_true_of_le (by rw [hfll,Int.toNat_natCast];show 0+i * 1+1≤_;omega)) ?_
  repeat' (first|refine JU ?_|refine JG a5 JA ?_|(apply aS;refine aQ ?_)|fail)
  refine aC (i+1) rfl ⟨by rw [Jw];rfl,trivial⟩ hi2 (by omega) (fun _ _ hh=>?_)
  rw [←hput]
  rw [Int.toNat_natCast,Nat.zero_add] at hh
  exact hh
 ·have hi2:i=l.length:=by have:=Jy h1;omega
  subst hi2
  rw [s7]
  clear h1
  repeat' (first|refine JU ?_|refine JG a5 JA ?_)
  have hml:(l.map fun s=>[AV.imm 1 (aW s)]).flatten.length=l.length * 1:=by rw [fc _ (sz:=1) (fun q hq=>by obtain ⟨_,_,rfl⟩:=List.mem_map.1 hq;rfl),Jv]
  refine bk (lx (t:=2) (sz:=1) (n:=l.length) (cap:=l.length) (l:=b6 l) 0 rfl rfl (by rw [List.take_of_length_le (by omega)];rfl) (by omega) (fun e he=>by unfold b6 at he;obtain ⟨_,_,rfl⟩:=List.mem_map.1 he;rfl) hil (Nat.le_refl _) (by unfold maxLen;omega)) ?_
  exact JN JB
def jd (r:bc):List AV:=[eC,.imm 1 (b6 r.In),eC,.imm 1 (aW r.Out),.imm 2 (r.Calls.map eM),aF r.X]
theorem Du (r:bc):mF (jd r) (bB (eZ r)):=⟨cY.nil 1,cY.refl _,cY.nil 1,cY.refl _,cY.refl _,cY.refl _,trivial⟩
theorem yA {α:Type} {a b:α→List AV} (h:∀x,mF (a x) (b x)):∀(l:List α),G4 (l.map a) (l.map b)
 | []=>trivial
 | x::l=>⟨h x,yA h l⟩
structure Fp (r:bc):Prop where
 in_:r.In.length≤1000000∧∀s∈r.In,s.length≤1000000
 out:r.Out.length≤1000000
 calls:r.Calls.length≤1000000
set_option maxHeartbeats 8000000 in
theorem uz (l:aO) (hl:l.Rules.length≤1000000) (hr:∀r∈l.Rules,Fp r):bJ Tryz.prog 33 [.agg (bi l)] (.agg (bi (jk l))):=by
 refine aN Tryz.func33 rfl Tryz.ntmps33 rfl fun B=>?_
 have hml:(l.Rules.map bB).length=l.Rules.length:=Jv ..
 repeat' (first|refine JU ?_|refine JG a5 JA ?_|refine bf ?_|refine bj a5 fun _=>?_|fail)
 refine li a5 l.Rules.length rfl rfl rfl rfl rfl (by rw [hml]) (by rw [hml]) (by omega) (by omega) rfl fun rb=>?_
 repeat' (first|refine JU ?_|refine am ?_|refine JG a5 JA ?_)
 rename_i r2
 refine aP [1,2,3,11,12] (α:=Nat) (fun i=>[(13,aF i)]) (fun i=>i≤l.Rules.length) (fun i=>[(rb,.box (gk jd [eC,eC,eC,eC,eC,aF 0] l.Rules i).flatten 79),(r2,.box [aF 0,dY false,eC] 59)]) (fun i=>l.Rules.length - i) 0 rfl ⟨rfl,trivial⟩ (Nat.zero_le _) (fun _ _ hh=>by rw [qi];exact hh) fun i hi=>?_
 try dsimp only [Jt,Js,Jr,Kz]
 repeat' (first|refine JU ?_|refine JG a5 JA ?_)
 refine ar rfl (fun h1=>?_) (fun h1=>?_)
 ·have hi2:i < l.Rules.length:=by have:=Jz h1;omega
  obtain ⟨r,hri⟩:∃z,l.Rules[i]?=some z:=⟨_,Hb hi2⟩
  have hrg:(l.Rules.map bB)[i]?=some (bB r):=by simp [hri]
  have hcr:=hr r (Jx hri)
  haveI:=AD.mk (rC r.In hcr.in_.1 hcr.in_.2)
  haveI:=AD.mk (BA r.Out hcr.out)
  haveI:=AD.mk (Gz r.Calls hcr.calls)
  have hsz:∀q∈gk jd [eC,eC,eC,eC,eC,aF 0] l.Rules i,q.length=6:=by
   intro q hq
   unfold gk at hq
   rw [List.mem_append] at hq
   rcases hq with hq | hq
   ·obtain ⟨_,_,rfl⟩:=List.mem_map.1 hq;rfl
   ·rw [(List.mem_replicate.1 hq).2];rfl
  have hfl:=s8 (w:=jd) (z:=[eC,eC,eC,eC,eC,aF 0]) (l:=l.Rules) (i:=i) hi
  have hput:=o0 (sz:=6) (l:=gk jd [eC,eC,eC,eC,eC,aF 0] l.Rules i) (i:=i) (e:=jd r) hsz rfl (by omega)
  rw [s9 hri] at hput
  have hfll:(gk jd [eC,eC,eC,eC,eC,aF 0] l.Rules i).flatten.length=l.Rules.length * 6:=by rw [fc _ hsz,hfl]
  clear h1
  repeat' (first|refine JU ?_|refine am ?_|refine JG a5 JA ?_|(apply aL;first|refine aK a5 ?_|refine aG a5 ?_)|(apply aM;first|refine JI 5 a5 0 JF ?_|refine JI 5 a5 1 JF ?_|refine JI 5 a5 2 JF ?_|refine JH a5 0 JE ?_|refine JH a5 1 JE ?_|refine JH a5 2 JE ?_|refine JH a5 3 JE ?_|fail)|refine bj a5 fun _=>?_|fail)
  refine br 14 [(0,.v),(1,.v),(2,.v),(3,.v),(4,.v),(5,.v),(6,.v),(7,.v),(8,.v),(9,.v),(10,.v),(11,.v),(12,.v),(13,.v)] none ?_ trivial rfl (by kernel_rfl) (by kernel_rfl) (by kernel_rfl) bQ (by kernel_rfl) rfl
  repeat' (first|refine aD ?_|refine b8 a5 ?_|(apply cW;refine du ?_)|fail)
  refine JQ [1,2,3,11,12,13,18,19,31] JA ?_
  repeat' (first|(apply aL;first|refine aK a5 ?_|refine aG a5 ?_)|fail)
  refine aa a5 0 rfl rfl rfl rfl rfl rfl (Nat.ble_eq_true_of_le (by rw [hfll,Int.toNat_natCast];show 0+i * 6+6≤_;omega)) ?_
  repeat' (first|refine JU ?_|refine JG a5 JA ?_|(apply aS;refine aQ ?_)|fail)
  refine aC (i+1) rfl ⟨by rw [Jw];rfl,trivial⟩ hi2 (by omega) (fun _ _ hh=>?_)
  rw [←hput]
  rw [Int.toNat_natCast,Nat.zero_add] at hh
  exact hh
 ·have hi2:i=l.Rules.length:=by have:=Jy h1;omega
  subst hi2
  rw [s7]
  clear h1
  have hsz:∀q∈l.Rules.map jd,q.length=6:=fun q hq=>by obtain ⟨_,_,rfl⟩:=List.mem_map.1 hq;rfl
  have hml2:(l.Rules.map jd).flatten.length=l.Rules.length * 6:=by rw [fc _ hsz,Jv]
  refine bS (lx (t:=3) (sz:=6) (n:=l.Rules.length) (cap:=l.Rules.length) (l:=l.Rules.map jd) 0 rfl rfl (by rw [List.take_of_length_le (by omega)]) (by omega) hsz (Jv ..) (Nat.le_refl _) (by unfold maxLen;omega)) ?_
  refine bS (bL (t:=3) (c':= .imm 6 ((jk l).Rules.map bB)) rfl fun σ v h=>?_) ?_
  ·have e:(jk l).Rules.map bB=l.Rules.map fun r=>bB (eZ r):=by unfold jk;rw [List.map_map];rfl
   rw [e]
   exact cY.imm (yA Du l.Rules) σ v h
  repeat' (first|refine JU ?_|refine JG a5 JA ?_|(apply aM;first|refine JI 5 a5 0 JF ?_|refine JI 5 a5 1 JF ?_|refine JI 5 a5 2 JF ?_|refine JH a5 0 JE ?_|refine JH a5 1 JE ?_|refine JH a5 2 JE ?_|refine JH a5 3 JE ?_|fail))
  exact ic (cs:=[.agg (bi (jk l))]) [] ⟨⟨_,0,_,_,rfl,rfl,.inr ⟨eK a5 rfl,rfl⟩⟩,trivial⟩ (List.nil_sublist _) rfl
end Go.Proofs.YtpmdfoaadejmkaaGreatDoor
