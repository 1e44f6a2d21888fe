/-
  An engine's passes over a run: from one end to the other one.
-/
import Derived.Test.YtpmdfoaadejmkaaGreatDoorM19
import Derived.Test.YtpmdfoaadejmkaaGreatDoorM14
import Derived.Test.YtpmdfoaadejmkaaGreatDoorM17
namespace Go.Proofs.YtpmdfoaadejmkaaGreatDoor
open Go.RowKit
attribute [local irreducible] AT bv AX AO Av Kt b9 dh DA cE
theorem w7 {p:Nat} {q:List Nat}:(d3 (p::q))[(((p::q).length:Int) - 1).toNat]?=some [aF ((p::q).getLastD p:Nat)]:=by
 have he:(p::q).getLastD p=(p::q).getLast (by simp):=by rw [List.getLastD_eq_getLast?,List.getLast?_eq_some_getLast (by simp)];rfl
 have hi:(((p::q).length:Int) - 1).toNat=(p::q).length - 1:=by omega
 rw [hi,he]
 unfold d3
 refine bR ?_
 rw [List.getElem?_map,←List.getLast?_eq_getElem?,List.getLast?_eq_some_getLast (by simp)]
 rfl
section
variable {E:oz} (hE:ki E) (wb:Nat)
include hE
set_option maxHeartbeats 8000000 in
theorem GX (e:oH) (he:e∈E.lks) (h1:1≤e.l.Kind) (h6:e.l.Kind≤6) (forms:List Int) (q0:Option fT) (run0:List aM) (hq0:dJ q0 run0) (hr0:run0.length≤1000000):
  AC Tryz.prog 37 [fQ wb,.iptr (fk e),.imm 1 (aT forms)] (iU wb E q0 run0) (gp wb E (un E.ms E.ls e.l forms run0.length 0 run0)):=by
 refine aL Tryz.func37 rfl Tryz.ntmps37 rfl fun B=>?_
 have hau:=hE.auto e he h1 h6
 repeat' (first|refine IT ?_|refine am ?_|refine IF a5 G9 ?_)
 refine aO [0,1,2] (α:=Nat×Nat×Option fT×List aM) (fun s=>[(6,aF s.1)]) (fun s=>dJ s.2.2.1 s.2.2.2∧s.2.2.2.length≤1000000∧s.1≤1000001∧s.2.2.2.length - s.1≤s.2.1∧un E.ms E.ls e.l forms s.2.1 s.1 s.2.2.2=un E.ms E.ls e.l forms run0.length 0 run0) (fun s=>iU wb E s.2.2.1 s.2.2.2) (fun s=>s.2.1) (0,run0.length,q0,run0) rfl ⟨rfl,trivial⟩ ⟨hq0,hr0,by dsimp only;omega,by dsimp only;omega,rfl⟩ (fun _ _ h=>h) ?_
 rintro ⟨i,k,q,run⟩ ⟨hq,hr,hi1,hk,hv⟩
 dsimp only at hq hr hi1 hk hv ⊢
 try dsimp only [Jx,Jw,Jv,Jq]
 repeat' (first|refine IT ?_|refine IF a5 G9 ?_|(apply bw;first|refine II a5 0 IC ?_|refine II a5 1 IC ?_|refine II a5 2 IC ?_|refine II a5 3 IC ?_|refine IJ a5 0 IC ?_|refine IJ a5 1 IC ?_|refine IJ a5 2 IC ?_|refine IK a5 1 IA (by assumption) rfl ?_|refine IK a5 0 IA (by assumption) rfl ?_|fail)|fail)
 refine lM a5 rfl hq rfl rfl ?_
 repeat' (first|refine IT ?_|refine IF a5 G9 ?_)
 refine ar rfl (fun h=>?_) (fun h=>?_)
 ·have hi:i < run.length:=by have:=Iy h;omega
  obtain ⟨k,rfl⟩:∃j,k=j+1:=⟨k - 1,by omega⟩
  rw [un,if_pos hi] at hv
  have hma:=pT E e hau wb q run hq hr i (by omega) forms
  clear h
  repeat' (first|refine IT ?_|refine am ?_|refine IF a5 G9 ?_)
  refine aX (iU wb E q run) [] hma rfl rfl (by rw [List.append_nil];exact Jt _) rfl fun c L1 ⟨hc,hL⟩=>?_
  subst hc;subst hL
  unfold kI
  cases hmv:dM E.ms e.l run i forms with
  | none=>
   rw [hmv] at hv
   dsimp only at hv ⊢
   repeat' (first|refine IT ?_|refine IF a5 G9 ?_)
   refine nC Tryz.underlying190 rfl rfl rfl rfl ?_
   repeat' (first|refine IT ?_|refine IF a5 G9 ?_|(apply aV;refine aU ?_)|refine bQ rfl ?_)
   exact aC (i+1,k,q,run) rfl ⟨by rw [Iv];rfl,trivial⟩ ⟨hq,hr,by dsimp only;omega,by dsimp only;omega,hv⟩ (by dsimp only;omega) (fun _ _ h=>by rw [List.append_nil] at h;exact h)
  | some r=>
   rw [hmv] at hv
   dsimp only at hv ⊢
   obtain ⟨hps,hrm,hin,_,hhd⟩:=G1 hmv
   have hro:=hE.rule e he r hrm hin
   have hdo:=AE hE wb 4 0 rfl e r (dA E.ms e.l run i r) q run he h1 h6 hro hps hq hr
   generalize dA E.ms e.l run i r=ps at *
   obtain ⟨p,ps',rfl⟩:=List.exists_cons_of_ne_nil hps.some_
   simp only [List.head?_cons,Option.some.injEq] at hhd
   subst hhd
   obtain ⟨l1,l2,l3⟩:=xh hps
   have hlg:=w7 (p:=p) (q:=ps')
   have hnl:=lb (p::ps')
   have hlen:=kX (ms:=E.ms) (ls:=E.ls) 4 e.l r (p::ps') run
   have hr2:=hlen.big hr
   have hleft:e.l.Kind≠4→run.length - 1 - (p::ps').getLastD p≤(iV E.ms E.ls 4 e.l r (p::ps') run).length:=fun h4=>AA h4 hps
   have hpl1:(p::ps').length=ps'.length+1:=rfl
   have hlen1:(1 < ((d3 (p::ps')).length:Int))↔p < (p::ps').getLastD p:=by
    rw [hnl,hpl1,←l3,←List.length_pos_iff]
    omega
   have hpair:e.l.Kind=6→(iV E.ms E.ls 4 e.l r (p::ps') run).length=run.length:=fun h6=>by
    rw [iV]
    dsimp only
    rw [if_neg (by omega)]
    unfold fN
    rw [if_neg (by omega),if_neg (by omega),if_neg (by omega),if_pos h6]
    unfold rI
    split
    ·rw [List.length_set]
    ·rfl
   generalize iV E.ms E.ls 4 e.l r (p::ps') run=run2 at *
   generalize (p::ps').getLastD p=last at *
   repeat' (first|refine IT ?_|refine IF a5 G9 ?_)
   refine nC Tryz.underlying190 rfl rfl rfl rfl ?_
   repeat' (first|refine IT ?_|refine IF a5 G9 ?_|(apply aV;refine aU ?_)|refine bK rfl ?_)
   refine aQ a5 ?_ (hl:=by rw [hnl];exact hlg) (h0:=by rw [hnl,hpl1];omega)
   repeat' (first|refine IT ?_|refine IF a5 G9 ?_|(apply bw;first|refine II a5 0 IC ?_|refine II a5 1 IC ?_|refine II a5 2 IC ?_|refine II a5 3 IC ?_|refine IJ a5 0 IC ?_|refine IJ a5 1 IC ?_|refine IJ a5 2 IC ?_|refine IK a5 1 IA (by assumption) rfl ?_|refine IK a5 0 IA (by assumption) rfl ?_|fail)|fail)
   refine lM a5 rfl hq rfl rfl ?_
   repeat' (first|refine IT ?_|refine IF a5 G9 ?_|(apply aV;refine aU ?_)|fail)
   refine aX (iU wb E q run) [] hdo rfl rfl (by rw [List.append_nil]) rfl fun c L1 ⟨q',g1,g2⟩=>?_
   subst g2
   repeat' (first|refine IT ?_|refine IF a5 G9 ?_|(apply bw;first|refine II a5 0 IC ?_|refine II a5 1 IC ?_|refine II a5 2 IC ?_|refine II a5 3 IC ?_|refine IJ a5 0 IC ?_|refine IJ a5 1 IC ?_|refine IJ a5 2 IC ?_|refine IK a5 1 IA (by assumption) rfl ?_|refine IK a5 0 IA (by assumption) rfl ?_|fail)|fail)
   refine lM a5 rfl g1 rfl rfl ?_
   repeat' (first|refine IT ?_|refine am ?_|refine IF a5 G9 ?_|(apply aV;refine aU ?_)|fail)
   refine ar rfl (fun h4=>?_) (fun h4=>?_)
   ·have hk4:e.l.Kind=4:=Iy h4
    unfold rH at hv
    rw [if_pos hk4] at hv
    repeat' (first|refine IT ?_|refine IF a5 G9 ?_|(apply aV;refine aU ?_)|fail)
    refine aC (max (run2.length - (run.length - 1 - last)) (p+1),k,q',run2) rfl ⟨?_,trivial⟩ ⟨g1,hr2,by dsimp only;omega,by dsimp only;omega,hv⟩ (by dsimp only;omega) (fun _ _ h=>by rw [List.append_nil] at h;exact h)
    show some (AV.sc (.int .i64 (max ((run2.length:Int) - ((run.length:Int) - 1 - last)) ((p:Int)+1))))=some (aF ((max (run2.length - (run.length - 1 - last)) (p+1):Nat):Int))
    rw [show max ((run2.length:Int) - ((run.length:Int) - 1 - last)) ((p:Int)+1)=((max (run2.length - (run.length - 1 - last)) (p+1):Nat):Int) by omega]
   ·have hk4:e.l.Kind≠4:=Ix h4
    have hlf:=hleft hk4
    repeat' (first|refine IT ?_|refine IF a5 G9 ?_)
    refine c7 [0,1,2,9,11] (e.l.Kind=6∧p < last) rfl (fun Q' K=>?_) (fun hC=>?_) (fun hC=>?_)
    ·repeat' (first|refine IT ?_|refine IF a5 G9 ?_|refine IM G9 ?_|refine IP IB ?_|refine IR IA (fun _=>?_) (fun _=>?_))
     all_goals exact K _ _ rfl rfl (by rw [←hlen1];simp_all)
    ·unfold rH at hv
     rw [if_neg hk4,if_pos hC] at hv
     repeat' (first|refine IT ?_|refine IF a5 G9 ?_)
     refine aC (last,k,q',run2) rfl ⟨rfl,trivial⟩ ⟨g1,hr2,by dsimp only;omega,by have:=hpair hC.1;dsimp only;omega,hv⟩ (by dsimp only;omega) (fun _ _ h=>by rw [List.append_nil] at h;exact h)
    ·unfold rH at hv
     rw [if_neg hk4,if_neg hC] at hv
     repeat' (first|refine IT ?_|refine IF a5 G9 ?_)
     refine aC (run2.length - (run.length - 1 - last),k,q',run2) rfl ⟨?_,trivial⟩ ⟨g1,hr2,by dsimp only;omega,by dsimp only;omega,hv⟩ (by dsimp only;omega) (fun _ _ h=>by rw [List.append_nil] at h;exact h)
     show some (AV.sc (.int .i64 ((run2.length:Int) - ((run.length:Int) - 1 - last))))=some (aF ((run2.length - (run.length - 1 - last):Nat):Int))
     rw [show (run2.length:Int) - ((run.length:Int) - 1 - last)=((run2.length - (run.length - 1 - last):Nat):Int) by omega]
 ·have hi:run.length≤i:=by have:=Ix h;omega
  have hrun:run=un E.ms E.ls e.l forms run0.length 0 run0:=by
   rw [←hv]
   cases k with
   | zero=>rw [un]
   | succ k=>rw [un,if_neg (by omega)]
  repeat' (first|refine IT ?_|fail)
  exact cA rfl ⟨q,by rw [←hrun];exact hq,by rw [←hrun];rfl⟩
set_option maxHeartbeats 8000000 in
theorem AG (e:oH) (he:e∈E.lks) (h1:1≤e.l.Kind) (h6:e.l.Kind≤6) (forms:List Int) (q0:Option fT) (run0:List aM) (hq0:dJ q0 run0) (hr0:run0.length≤1000000):
  AC Tryz.prog 38 [fQ wb,.iptr (fk e),.imm 1 (aT forms)] (iU wb E q0 run0) (gp wb E (ia E.ms E.ls e.l forms run0.length run0)):=by
 refine aL Tryz.func38 rfl Tryz.ntmps38 rfl fun B=>?_
 have hau:=hE.auto e he h1 h6
 repeat' (first|refine IT ?_|refine IF a5 G9 ?_|(apply bw;first|refine II a5 0 IC ?_|refine II a5 1 IC ?_|refine II a5 2 IC ?_|refine II a5 3 IC ?_|refine IJ a5 0 IC ?_|refine IJ a5 1 IC ?_|refine IJ a5 2 IC ?_|refine IK a5 1 IA (by assumption) rfl ?_|refine IK a5 0 IA (by assumption) rfl ?_|fail)|fail)
 refine lM a5 rfl hq0 rfl rfl ?_
 repeat' (first|refine am ?_|refine IT ?_|refine IF a5 G9 ?_|(apply aV;refine aU ?_)|fail)
 refine aO [0,1,2] (α:=Nat×Option fT×List aM) (fun s=>[(6,aF ((s.1:Int) - 1))]) (fun s=>dJ s.2.1 s.2.2∧s.2.2.length≤1000000∧s.1≤1000000∧ia E.ms E.ls e.l forms s.1 s.2.2=ia E.ms E.ls e.l forms run0.length run0) (fun s=>iU wb E s.2.1 s.2.2) (fun s=>s.1) (run0.length,q0,run0) rfl ⟨rfl,trivial⟩ ⟨hq0,hr0,hr0,rfl⟩ (fun _ _ h=>h) ?_
 rintro ⟨n,q,run⟩ ⟨hq,hr,hn1,hv⟩
 dsimp only at hq hr hn1 hv ⊢
 try dsimp only [Jx,Jw,Jv,Jq]
 repeat' (first|refine IT ?_|refine IF a5 G9 ?_)
 refine ar rfl (fun h=>?_) (fun h=>?_)
 ·have hn0:0 < n:=by have:=Iy h;omega
  obtain ⟨i,rfl⟩:∃j,n=j+1:=⟨n - 1,by omega⟩
  rw [ia] at hv
  have hi0:((i+1:Nat):Int) - 1=(i:Int):=by omega
  have hma:=pT E e hau wb q run hq hr i (by omega) forms
  clear h
  rw [hi0]
  repeat' (first|refine IT ?_|refine am ?_|refine IF a5 G9 ?_)
  refine aX (iU wb E q run) [] hma rfl rfl (by rw [List.append_nil];exact Jt _) rfl fun c L1 ⟨hc,hL⟩=>?_
  subst hc;subst hL
  unfold kI
  cases hmv:dM E.ms e.l run i forms with
  | none=>
   rw [hmv] at hv
   dsimp only at hv ⊢
   repeat' (first|refine IT ?_|refine IF a5 G9 ?_)
   refine sK Tryz.underlying190 rfl rfl rfl rfl ?_
   repeat' (first|refine IT ?_|refine IF a5 G9 ?_|(apply aV;refine aU ?_)|refine bK rfl ?_)
   exact aC (i,q,run) rfl ⟨rfl,trivial⟩ ⟨hq,hr,by dsimp only;omega,hv⟩ (by dsimp only;omega) (fun _ _ h=>by rw [List.append_nil] at h;exact h)
  | some r=>
   rw [hmv] at hv
   dsimp only at hv ⊢
   obtain ⟨hps,hrm,hin,_,hhd⟩:=G1 hmv
   have hro:=hE.rule e he r hrm hin
   have hdo:=AE hE wb 4 0 rfl e r (dA E.ms e.l run i r) q run he h1 h6 hro hps hq hr
   have hr2:=(kX (ms:=E.ms) (ls:=E.ls) 4 e.l r (dA E.ms e.l run i r) run).big hr
   repeat' (first|refine IT ?_|refine IF a5 G9 ?_)
   refine sK Tryz.underlying190 rfl rfl rfl rfl ?_
   repeat' (first|refine IT ?_|refine IF a5 G9 ?_|refine bQ rfl ?_)
   refine aX (iU wb E q run) [] hdo rfl rfl (by rw [List.append_nil]) rfl fun c L1 ⟨q',g1,g2⟩=>?_
   subst g2
   repeat' (first|refine IT ?_|refine IF a5 G9 ?_|(apply aV;refine aU ?_)|fail)
   exact aC (i,q',_) rfl ⟨rfl,trivial⟩ ⟨g1,hr2,by dsimp only;omega,hv⟩ (by dsimp only;omega) (fun _ _ h=>by rw [List.append_nil] at h;exact h)
 ·have hn0:n=0:=by have:=Ix h;omega
  subst hn0
  have hrun:run=ia E.ms E.ls e.l forms run0.length run0:=by rw [←hv,ia]
  repeat' (first|refine IT ?_|fail)
  exact cA rfl ⟨q,by rw [←hrun];exact hq,by rw [←hrun];rfl⟩
end
end Go.Proofs.YtpmdfoaadejmkaaGreatDoor
namespace Go.Proofs.YtpmdfoaadejmkaaGreatDoor
open Go.RowKit
attribute [local irreducible] AT bv AX AO Av Kt b9 dh DA cE
theorem tv (k:Int):bN Tryz.prog 34 [aF k] (ec (decide (1≤k∧k≤6))):=by
 refine aL Tryz.func34 rfl Tryz.ntmps34 rfl fun B=>?_
 repeat' (first|refine IT ?_|refine IF a5 G9 ?_|refine IM G9 ?_|refine IP IB ?_|refine IR IA (fun _=>?_) (fun _=>?_))
 all_goals exact IL G9 (by simp_all <;> omega)
instance (k:Int):AD Tryz.prog 34 [aF k] (ec (decide (1≤k∧k≤6))):=⟨tv k⟩
section
variable {nt:Nat} {fr:bW} {B:Bs} {D:List Deferred}
theorem nM {t:Nat} {q:Option fT} {run:List aM} {Lf:AL} (hq:dJ q run) (hl:c6 fr t=some (ey q run)):lX nt D B fr (nI q run++Lf) ((t,.imm 6 (run.map bz))::fr) Lf:=by
 cases q with
 | none=>
  have he:=hq.emp rfl
  subst he
  exact bS hl fun σ v h=>h
 | some m=>
  obtain ⟨h1,h2,h3⟩:=hq.fit m rfl
  have hfl:=dc run
  have hcl:run.length * 6≤(bY run++m.junk).length:=by rw [List.length_append];omega
  have htk:(bY run++m.junk).take (run.length * 6)=(run.map bz).flatten:=by
   have:=nq run m.junk (Nat.le_refl _)
   rw [List.take_length] at this
   exact this
  exact kQ (sz:=6) (n:=run.length) (cap:=m.cap) (l:=run.map bz) 0 hl rfl htk hcl (fun e he=>by obtain ⟨z,_,rfl⟩:=List.mem_map.1 he;rfl) (Jz ..) h1 h2
theorem kR {t wb:Nat} {eng:AV} {q:Option fT} {run:List aM} {Lf:AL} (hq:dJ q run) (hl:c6 fr t=some (ey q run)):lX nt D B fr ((wb,.box [eng,ey q run] 102)::(nI q run++Lf)) ((t,.imm 6 (run.map bz))::fr) Lf:=fun σ a w ha hw=>
 nM hq hl σ a w ha (hw.sublist (List.sublist_cons_self ..))
end
section
variable {E:oz} (hE:ki E)
include hE
set_option maxHeartbeats 8000000 in
theorem zZ (n:Int) (run:List aM) (hr:run.length≤1000000) (forms:List Int):AC Tryz.prog 18 [.iptr (dp E),aF n,.imm 6 (run.map bz),.imm 1 (aT forms)] [cM] fun c L=>c= .imm 6 ((da E.ms E.ls n run forms).map bz)∧L=[cM]:=by
 refine aL Tryz.func18 rfl Tryz.ntmps18 rfl fun B=>?_
 have hll:=r8 E
 have hcl:=sf run hr
 repeat' (first|refine IT ?_|refine IF a5 G9 ?_)
 refine aX [] [cM] hcl rfl rfl (Jt _) rfl fun c L1 ⟨q,hq,hc,hL⟩=>?_
 subst hc;subst hL
 repeat' (first|fail)
 refine c9 (u:= .agg [.iptr (dp E),ey q run]) (jP a5 (by cases q <;> rfl)) rfl rfl ?_
 repeat' (first|refine IT ?_|refine IF a5 G9 ?_|refine uf (d:=15) fun _=>?_|fail)
 refine nC Tryz.underlying34 rfl rfl rfl rfl ?_
 by_cases hin:0≤n∧n < E.lks.length
 ·obtain ⟨e,he⟩:∃e,E.lks[n.toNat]?=some e:=⟨_,Iz (by omega)⟩
  have heg:(E.lks.map fk)[n.toNat]?=some (fk e):=by simp [he]
  have hem:=Iw he
  refine c7 [0,1,3,9] (¬(1≤e.l.Kind∧e.l.Kind≤6)) rfl (fun Q' K=>?_) (fun hC=>?_) (fun hC=>?_)
  ·repeat' (first|refine IT ?_|refine IF a5 G9 ?_|refine IM G9 ?_|refine IP IB ?_|(apply aS;first|refine aQ a5 ?_|refine aG a5 ?_)|(apply bk;refine bf ?_)|refine IR IA (fun _=>?_) (fun _=>?_))
   all_goals exact K _ _ rfl rfl (by simp_all <;> omega)
  ·have hv:da E.ms E.ls n run forms=run:=by
    unfold da
    rw [if_neg (by omega),List.getElem?_map,he]
    show (if e.l.Kind < 1∨6 < e.l.Kind then run else _)=run
    rw [if_pos (by omega)]
   rw [hv]
   repeat' (first|refine IT ?_|refine IF a5 G9 ?_|(apply bw;first|refine II a5 0 IC ?_|refine II a5 1 IC ?_|refine II a5 2 IC ?_|refine II a5 3 IC ?_|refine IJ a5 0 IC ?_|refine IJ a5 1 IC ?_|refine IJ a5 2 IC ?_|refine IK a5 1 IA (by assumption) rfl ?_|refine IK a5 0 IA (by assumption) rfl ?_|fail)|fail)
   refine bh (kR (t:=8) hq rfl) ?_
   exact IL G9 ⟨rfl,rfl⟩
  ·have hC:1≤e.l.Kind∧e.l.Kind≤6:=Classical.not_not.1 hC
   have hv:da E.ms E.ls n run forms=if e.l.Kind=5 then ia E.ms E.ls e.l forms run.length run else un E.ms E.ls e.l forms run.length 0 run:=by
    unfold da
    rw [if_neg (by omega),List.getElem?_map,he]
    show (if e.l.Kind < 1∨6 < e.l.Kind then run else _)=_
    rw [if_neg (by omega)]
   rw [hv]
   rename_i wb _
   have hdn:=AG hE wb e hem hC.1 hC.2 forms q run hq hr
   have hon:=GX hE wb e hem hC.1 hC.2 forms q run hq hr
   repeat' (first|refine IT ?_|refine IF a5 G9 ?_|(apply aS;first|refine aQ a5 ?_|refine aG a5 ?_)|fail)
   refine ar rfl (fun h5=>?_) (fun h5=>?_)
   ·rw [if_pos (Iy h5)]
    repeat' (first|refine IT ?_|refine IF a5 G9 ?_|(apply aS;first|refine aQ a5 ?_|refine aG a5 ?_)|fail)
    refine gA (iU wb E q run) [] (iN.fnB (f:=38) (fs:=[fQ wb]) (caps:=[]) hdn) rfl rfl (by rw [List.append_nil];exact Jt _) rfl rfl fun c L1 ⟨q',g1,g2⟩=>?_
    subst g2
    repeat' (first|refine IT ?_|refine IF a5 G9 ?_|(apply bw;first|refine II a5 0 IC ?_|refine II a5 1 IC ?_|refine II a5 2 IC ?_|refine II a5 3 IC ?_|refine IJ a5 0 IC ?_|refine IJ a5 1 IC ?_|refine IJ a5 2 IC ?_|refine IK a5 1 IA (by assumption) rfl ?_|refine IK a5 0 IA (by assumption) rfl ?_|fail)|fail)
    refine bh (aI (List.Perm.of_eq (List.append_nil _))) ?_
    refine bh (kR (t:=8) g1 rfl) ?_
    exact IL G9 ⟨rfl,rfl⟩
   ·rw [if_neg (Ix h5)]
    repeat' (first|refine IT ?_|refine IF a5 G9 ?_|(apply aS;first|refine aQ a5 ?_|refine aG a5 ?_)|fail)
    refine gA (iU wb E q run) [] (iN.fnB (f:=37) (fs:=[fQ wb]) (caps:=[]) hon) rfl rfl (by rw [List.append_nil];exact Jt _) rfl rfl fun c L1 ⟨q',g1,g2⟩=>?_
    subst g2
    repeat' (first|refine IT ?_|refine IF a5 G9 ?_|(apply bw;first|refine II a5 0 IC ?_|refine II a5 1 IC ?_|refine II a5 2 IC ?_|refine II a5 3 IC ?_|refine IJ a5 0 IC ?_|refine IJ a5 1 IC ?_|refine IJ a5 2 IC ?_|refine IK a5 1 IA (by assumption) rfl ?_|refine IK a5 0 IA (by assumption) rfl ?_|fail)|fail)
    refine bh (aI (List.Perm.of_eq (List.append_nil _))) ?_
    refine bh (kR (t:=8) g1 rfl) ?_
    exact IL G9 ⟨rfl,rfl⟩
 ·have hv:da E.ms E.ls n run forms=run:=by
   unfold da
   by_cases h0:n < 0
   ·rw [if_pos h0]
   ·rw [if_neg h0,List.getElem?_eq_none (by rw [Jz];omega)]
  rw [hv]
  refine c7 [0,1,3,9] True rfl (fun Q' K=>?_) (fun hC=>?_) (fun hC=>absurd trivial hC)
  ·repeat' (first|refine IT ?_|refine IF a5 G9 ?_|refine IM G9 ?_|refine IP IB ?_|refine IR IA (fun _=>?_) (fun _=>?_))
   all_goals first | exact K _ _ rfl rfl (by simp_all <;> omega) | (exfalso;simp_all <;> omega)
  ·repeat' (first|refine IT ?_|refine IF a5 G9 ?_|(apply bw;first|refine II a5 0 IC ?_|refine II a5 1 IC ?_|refine II a5 2 IC ?_|refine II a5 3 IC ?_|refine IJ a5 0 IC ?_|refine IJ a5 1 IC ?_|refine IJ a5 2 IC ?_|refine IK a5 1 IA (by assumption) rfl ?_|refine IK a5 0 IA (by assumption) rfl ?_|fail)|fail)
   refine bh (kR (t:=8) hq rfl) ?_
   exact IL G9 ⟨rfl,rfl⟩
end
theorem xO (n:Int) (run:List aM) (hr:run.length≤1000000) (forms:List Int):AC Tryz.prog 18 [qa,aF n,.imm 6 (run.map bz),.imm 1 (aT forms)] [cM] fun c L=>c= .imm 6 (run.map bz)∧L=[cM]:=by
 refine aL Tryz.func18 rfl Tryz.ntmps18 rfl fun B=>?_
 have hcl:=sf run hr
 repeat' (first|refine IT ?_|refine IF a5 G9 ?_)
 refine aX [] [cM] hcl rfl rfl (Jt _) rfl fun c L1 ⟨q,hq,hc,hL⟩=>?_
 subst hc;subst hL
 repeat' (first|fail)
 refine c9 (u:= .agg [qa,ey q run]) (jP a5 (by cases q <;> rfl)) rfl rfl ?_
 repeat' (first|refine IT ?_|refine IF a5 G9 ?_|refine uf (d:=15) fun _=>?_|fail)
 refine nC Tryz.underlying34 rfl rfl rfl rfl ?_
 repeat' (first|refine IT ?_|refine IF a5 G9 ?_|refine IP IB ?_|(apply bw;first|refine II a5 0 IC ?_|refine II a5 1 IC ?_|refine II a5 2 IC ?_|refine II a5 3 IC ?_|refine IJ a5 0 IC ?_|refine IJ a5 1 IC ?_|refine IJ a5 2 IC ?_|refine IK a5 1 IA (by assumption) rfl ?_|refine IK a5 0 IA (by assumption) rfl ?_|fail)|refine bQ rfl ?_)
 refine bh (kR (t:=8) hq rfl) ?_
 exact IL G9 ⟨rfl,rfl⟩
def mL (ap:Int→List aM→List Int→List aM):List Int→List (List Int)→List aM→List aM
 | [],_,run=>run
 | n::ns,fs,run=>mL ap ns (fs.drop 1) (ap n run (fs.headD []))
structure xz (u:AV) (ap:Int→List aM→List Int→List aM):Prop where
 ac:∀(n:Int) (run:List aM) (forms:List Int),run.length≤1000000→AC Tryz.prog 18 [u,aF n,.imm 6 (run.map bz),.imm 1 (aT forms)] [cM] fun c L=>c= .imm 6 ((ap n run forms).map bz)∧L=[cM]
 len:∀(n:Int) (run:List aM) (forms:List Int),run.length≤1000000→(ap n run forms).length≤1000000
theorem sO {ms:List Bool} {ls:List aN} {l:aN} {forms:List Int}:∀(k i:Nat) (run:List aM),g7 run.length (un ms ls l forms k i run).length
 | 0,_,_=>by unfold g7;rw [un];omega
 | k+1,i,run=>by
  rw [un]
  split
  ·split
   ·exact sO k (i+1) run
   ·exact (kX 4 l _ _ run).trans (sO k _ _)
  ·unfold g7;omega
theorem nh {ms:List Bool} {ls:List aN} {l:aN} {forms:List Int}:∀(k:Nat) (run:List aM),g7 run.length (ia ms ls l forms k run).length
 | 0,_=>by unfold g7;rw [ia];omega
 | i+1,run=>by
  rw [ia]
  split
  ·exact nh i run
  ·exact (kX 4 l _ _ run).trans (nh i _)
theorem vf {ms:List Bool} {ls:List aN} {n:Int} {run:List aM} {forms:List Int}:g7 run.length (da ms ls n run forms).length:=by
 have hs:g7 run.length run.length:=by unfold g7;omega
 unfold da
 split
 ·exact hs
 ·split
  ·exact hs
  ·split
   ·exact hs
   ·split
    ·exact nh _ _
    ·exact sO _ _ _
theorem Fp {E:oz} (hE:ki E):xz (.iptr (dp E)) (da E.ms E.ls):=⟨fun n run forms hr=>zZ hE n run hr forms,fun _ _ _ hr=>vf.big hr⟩
theorem EA:xz qa (fun _ run _=>run):=⟨fun n run forms hr=>xO n run hr forms,fun _ _ _ hr=>hr⟩
def Hx:AV→Bool
 | .iptr _=>true
 | .sc (.pointer none)=>true
 | _=>false
set_option maxHeartbeats 4000000 in
theorem xl (cs:List AV) {ap:Int→List aM→List Int→List aM} (h:xz (.iptr cs) ap) (ns:List Int) (fs:List (List Int)) (run:List aM) (hr:run.length≤1000000):AC Tryz.prog 22 [.iptr cs,.imm 1 (aT ns),.imm 1 (b7 fs),.imm 6 (run.map bz)] [cM] fun c L=>c= .imm 6 ((mL ap ns fs run).map bz)∧L=[cM]:=by
 refine aL Tryz.func22 rfl Tryz.ntmps22 rfl fun B=>?_
 refine cJ 1 rfl rfl fun hlen=>?_
 have hcl:=sf run hr
 have hnl:=b6 ns
 rw [hnl] at hlen
 have hfl:=cn fs
 repeat' (first|refine IT ?_|refine IF a5 G9 ?_)
 refine aX [] [cM] hcl rfl rfl (Jt _) rfl fun c L1 ⟨q,hq,hc,hL⟩=>?_
 subst hc;subst hL
 repeat' (first|refine IT ?_|refine am ?_|refine IF a5 G9 ?_)
 refine bP (nM (t:=3) hq rfl) ?_
 refine aO [2,9,17,18] (α:=Nat×List aM) (fun s=>[(19,aF s.1),(3,.imm 6 (s.2.map bz))]) (fun s=>s.1≤ns.length∧s.2.length≤1000000∧mL ap (ns.drop s.1) (fs.drop s.1) s.2=mL ap ns fs run) (fun _=>[cM]) (fun s=>ns.length - s.1) (0,run) rfl ⟨rfl,rfl,trivial⟩ ⟨Nat.zero_le _,hr,rfl⟩ (fun _ _ h=>h) ?_
 rintro ⟨k,run1⟩ ⟨hk,hr1,hv⟩
 dsimp only at hk hr1 hv ⊢
 try dsimp only [Jx,Jw,Jv,Jq]
 repeat' (first|refine IT ?_|refine IF a5 G9 ?_)
 refine ar rfl (fun h0=>?_) (fun h0=>?_)
 ·have hk2:k < ns.length:=by have:=Iy h0;omega
  obtain ⟨n,hn⟩:∃n,ns[k]?=some n:=⟨_,Iz hk2⟩
  have hng:=bR hn
  rw [List.drop_eq_getElem_cons hk2,(Ju hn).2,mL,List.drop_drop] at hv
  clear h0
  repeat' (first|refine IT ?_|refine am ?_|refine IF a5 G9 ?_|(apply aS;first|refine aQ a5 ?_|refine aG a5 ?_)|fail)
  refine ar rfl (fun h1=>?_) (fun h1=>?_)
  ·have hf:k < fs.length:=by have:=Iy h1;omega
   obtain ⟨f,hfg⟩:∃f,fs[k]?=some f:=⟨_,Iz hf⟩
   have hfgg:=gu hfg
   have hh:(fs.drop k).headD []=f:=by rw [List.drop_eq_getElem_cons hf,(Ju hfg).2];rfl
   rw [hh] at hv
   have hap:=h.ac n run1 f hr1
   clear h1
   repeat' (first|refine IT ?_|refine IF a5 G9 ?_|(apply aS;first|refine aQ a5 ?_|refine aG a5 ?_)|fail)
   refine gA [cM] [] (iN.fnB (f:=18) (fs:=[.iptr cs]) (caps:=[]) hap) rfl rfl (Jt _) rfl rfl fun c L1 ⟨hc,hL⟩=>?_
   subst hc;subst hL
   repeat' (first|refine IT ?_|refine IF a5 G9 ?_|(apply aV;refine aU ?_)|fail)
   exact aC (k+1,_) rfl ⟨by rw [Iv];rfl,rfl,trivial⟩ ⟨hk2,h.len _ _ _ hr1,hv⟩ (by dsimp only;omega) (fun _ _ h=>h)
  ·have hf:fs.length≤k:=by have:=Ix h1;omega
   have hh:(fs.drop k).headD []=[]:=by rw [List.drop_eq_nil_of_le hf];rfl
   rw [hh] at hv
   have hap:=AC.args (a:=[.iptr cs,aF n,.imm 6 (run1.map bz),.sc (.slice none 0 0)]) (h.ac n run1 [] hr1) ⟨cx.refl _,cx.refl _,cx.refl _,cx.nil 1,trivial⟩
   clear h1
   repeat' (first|refine IT ?_|refine IF a5 G9 ?_)
   refine gA [cM] [] (iN.fnB (f:=18) (fs:=[.iptr cs]) (caps:=[]) hap) rfl rfl (Jt _) rfl rfl fun c L1 ⟨hc,hL⟩=>?_
   subst hc;subst hL
   repeat' (first|refine IT ?_|refine IF a5 G9 ?_|(apply aV;refine aU ?_)|fail)
   exact aC (k+1,_) rfl ⟨by rw [Iv];rfl,rfl,trivial⟩ ⟨hk2,h.len _ _ _ hr1,hv⟩ (by dsimp only;omega) (fun _ _ h=>h)
 ·have hk2:k=ns.length:=by have:=Ix h0;omega
  subst hk2
  rw [List.drop_length] at hv
  have hv2:run1=mL ap ns fs run:=hv
  repeat' (first|refine IT ?_|refine IF a5 G9 ?_)
  exact IL G9 ⟨by rw [←hv2],rfl⟩
set_option maxHeartbeats 4000000 in
theorem E1 {ap:Int→List aM→List Int→List aM} (h:xz (qa) ap) (ns:List Int) (fs:List (List Int)) (run:List aM) (hr:run.length≤1000000):AC Tryz.prog 22 [qa,.imm 1 (aT ns),.imm 1 (b7 fs),.imm 6 (run.map bz)] [cM] fun c L=>c= .imm 6 ((mL ap ns fs run).map bz)∧L=[cM]:=by
 refine aL Tryz.func22 rfl Tryz.ntmps22 rfl fun B=>?_
 refine cJ 1 rfl rfl fun hlen=>?_
 have hcl:=sf run hr
 have hnl:=b6 ns
 rw [hnl] at hlen
 have hfl:=cn fs
 repeat' (first|refine IT ?_|refine IF a5 G9 ?_)
 refine aX [] [cM] hcl rfl rfl (Jt _) rfl fun c L1 ⟨q,hq,hc,hL⟩=>?_
 subst hc;subst hL
 repeat' (first|refine IT ?_|refine am ?_|refine IF a5 G9 ?_)
 refine bP (nM (t:=3) hq rfl) ?_
 refine aO [2,9,17,18] (α:=Nat×List aM) (fun s=>[(19,aF s.1),(3,.imm 6 (s.2.map bz))]) (fun s=>s.1≤ns.length∧s.2.length≤1000000∧mL ap (ns.drop s.1) (fs.drop s.1) s.2=mL ap ns fs run) (fun _=>[cM]) (fun s=>ns.length - s.1) (0,run) rfl ⟨rfl,rfl,trivial⟩ ⟨Nat.zero_le _,hr,rfl⟩ (fun _ _ h=>h) ?_
 rintro ⟨k,run1⟩ ⟨hk,hr1,hv⟩
 dsimp only at hk hr1 hv ⊢
 try dsimp only [Jx,Jw,Jv,Jq]
 repeat' (first|refine IT ?_|refine IF a5 G9 ?_)
 refine ar rfl (fun h0=>?_) (fun h0=>?_)
 ·have hk2:k < ns.length:=by have:=Iy h0;omega
  obtain ⟨n,hn⟩:∃n,ns[k]?=some n:=⟨_,Iz hk2⟩
  have hng:=bR hn
  rw [List.drop_eq_getElem_cons hk2,(Ju hn).2,mL,List.drop_drop] at hv
  clear h0
  repeat' (first|refine IT ?_|refine am ?_|refine IF a5 G9 ?_|(apply aS;first|refine aQ a5 ?_|refine aG a5 ?_)|fail)
  refine ar rfl (fun h1=>?_) (fun h1=>?_)
  ·have hf:k < fs.length:=by have:=Iy h1;omega
   obtain ⟨f,hfg⟩:∃f,fs[k]?=some f:=⟨_,Iz hf⟩
   have hfgg:=gu hfg
   have hh:(fs.drop k).headD []=f:=by rw [List.drop_eq_getElem_cons hf,(Ju hfg).2];rfl
   rw [hh] at hv
   have hap:=h.ac n run1 f hr1
   clear h1
   repeat' (first|refine IT ?_|refine IF a5 G9 ?_|(apply aS;first|refine aQ a5 ?_|refine aG a5 ?_)|fail)
   refine gA [cM] [] (iN.fnB (f:=18) (fs:=[qa]) (caps:=[]) hap) rfl rfl (Jt _) rfl rfl fun c L1 ⟨hc,hL⟩=>?_
   subst hc;subst hL
   repeat' (first|refine IT ?_|refine IF a5 G9 ?_|(apply aV;refine aU ?_)|fail)
   exact aC (k+1,_) rfl ⟨by rw [Iv];rfl,rfl,trivial⟩ ⟨hk2,h.len _ _ _ hr1,hv⟩ (by dsimp only;omega) (fun _ _ h=>h)
  ·have hf:fs.length≤k:=by have:=Ix h1;omega
   have hh:(fs.drop k).headD []=[]:=by rw [List.drop_eq_nil_of_le hf];rfl
   rw [hh] at hv
   have hap:=AC.args (a:=[qa,aF n,.imm 6 (run1.map bz),.sc (.slice none 0 0)]) (h.ac n run1 [] hr1) ⟨cx.refl _,cx.refl _,cx.refl _,cx.nil 1,trivial⟩
   clear h1
   repeat' (first|refine IT ?_|refine IF a5 G9 ?_)
   refine gA [cM] [] (iN.fnB (f:=18) (fs:=[qa]) (caps:=[]) hap) rfl rfl (Jt _) rfl rfl fun c L1 ⟨hc,hL⟩=>?_
   subst hc;subst hL
   repeat' (first|refine IT ?_|refine IF a5 G9 ?_|(apply aV;refine aU ?_)|fail)
   exact aC (k+1,_) rfl ⟨by rw [Iv];rfl,rfl,trivial⟩ ⟨hk2,h.len _ _ _ hr1,hv⟩ (by dsimp only;omega) (fun _ _ h=>h)
 ·have hk2:k=ns.length:=by have:=Ix h0;omega
  subst hk2
  rw [List.drop_length] at hv
  have hv2:run1=mL ap ns fs run:=hv
  repeat' (first|refine IT ?_|refine IF a5 G9 ?_)
  exact IL G9 ⟨by rw [←hv2],rfl⟩
end Go.Proofs.YtpmdfoaadejmkaaGreatDoor
namespace Go.Proofs.YtpmdfoaadejmkaaGreatDoor
open Go.RowKit
attribute [local irreducible] AT bv AX AO Av Kt b9 dh DA cE
theorem ie {α:Type} {g:α→Nat} {k:Nat}:∀{l:List α} {m:Nat},m≤k→(∀x∈l,g x≤k)→l.foldl (fun m x=>max m (g x)) m≤k
 | [],_,h,_=>h
 | a::l,m,h,hl=>by
  rw [List.foldl_cons]
  exact ie (by have:=hl a (by simp);omega) fun x hx=>hl x (by simp [hx])
theorem yo (rs:List bb):jJ o4 rs=rq rs:=by
 funext n
 unfold jJ rq o4
 rfl
theorem vi (rs:List bb) (gl:List Int):ce (eJ (rs.map bb.Back) (jJ pg rs) gl) (rs.map bb.Back).length=ce (eJ (rs.map bb.Back) (fun _=>true) gl) (rs.map bb.Back).length:=by
 refine gC fun i=>?_
 rw [ca,ca]
 by_cases hi:i < (rs.map bb.Back).length
 ·rw [Jz] at hi
  congr 1
  unfold eJ jJ
  rw [List.getElem?_map,Iz hi]
  rfl
 ·rw [decide_eq_false hi,Bool.false_and,Bool.false_and]
def Df (l:aN) (a:ke):oH:=⟨l,a.cls,a.fore,a.back,a.foreE,a.backE⟩
theorem uM {cls:List Int} {rows:List (List (List Int))} {hv:Nat→Bool} {C:Nat} {tab:List (List Int)} {ends:List Nat} (h:qX cls rows hv C tab ends) (hr:rows.length≤6):∀z∈ends,z < 2 ^ 64:=by
 intro z hz
 obtain ⟨met,h0,h1,h2,h3,h4⟩:=h.met
 obtain ⟨i,hi⟩:=List.mem_iff_getElem?.1 hz
 have hil:=(Ju hi).1
 obtain ⟨p,hp⟩:∃p,met[i]?=some p:=⟨_,Iz (by omega)⟩
 have:=h3 i p hp
 rw [hi] at this
 cases this
 unfold j3
 split
 ·exact Nat.pow_pos (by omega)
 ·refine Nat.lt_of_le_of_lt Nat.and_le_right ?_
  exact nd (by omega)
theorem D2 {N:Nat} {l:aN} (h:ww N l) {a:ke} (hb:wx N l.Rules a):kf (Df l a):=by
 have hcs:∀z∈a.cls,z.toNat < (gk a.cls).toNat:=fun z hz=>by
  have h1:=hb.cls.dom z hz
  omega
 have hf:∀r∈l.Rules,(dz r).length≤200∧r.Back.length≤200:=fun r hr=>by
  have:=(h.rule r hr).long
  have:=kA r
  omega
 refine ⟨h.few,⟨uM hb.fore (by rw [Jz];exact h.few),uM hb.back (by rw [Jz];exact h.few)⟩,fun gl=>?_,fun gl=>?_,?_,?_⟩
 ·have:=oo hb.cls (rows:=l.Rules.map dz) (fun eH hrow s hs=>?_) hb.fore hcs gl
  ·rw [yo] at this
   exact this
  ·obtain ⟨r,hr,rfl⟩:=List.mem_map.1 hrow
   have hbr:=h.rule r hr
   refine ⟨List.mem_flatMap.2 ⟨r,hr,?_⟩,?_⟩
   ·rw [List.mem_append,List.mem_append]
    rcases kB hs with hs | hs
    ·exact .inl (.inr hs)
    ·exact .inr hs
   ·rcases kB hs with hs | hs
    ·exact (hbr.in_ s hs).2
    ·exact (hbr.ahead s hs).2
 ·have:=oo hb.cls (rows:=l.Rules.map bb.Back) (fun eH hrow s hs=>?_) hb.back hcs gl
  ·rw [vi] at this
   exact this
  ·obtain ⟨r,hr,rfl⟩:=List.mem_map.1 hrow
   exact ⟨List.mem_flatMap.2 ⟨r,hr,by rw [List.mem_append,List.mem_append];exact .inl (.inl hs)⟩,((h.rule r hr).back s hs).2⟩
 ·exact ie (by omega) fun r hr=>by have:=(h.rule r hr).long;show r.In.length+r.Ahead.length≤_;omega
 ·exact ie (by omega) fun r hr=>by have:=(h.rule r hr).long;show r.Back.length≤_;omega
theorem Ao (l:List Int) (hl:l.length≤1000000):bN Tryz.prog 96 [.imm 1 (aT l)] (.imm 1 (aT l)):=by
 refine aL Tryz.func96 rfl Tryz.ntmps96 rfl fun B=>?_
 have hml:=b6 l
 repeat' (first|refine IT ?_|refine IF a5 G9 ?_)
 refine sI a5 rfl rfl rfl rfl rfl fun b hb=>?_
 repeat' (first|refine IT ?_|fail)
 cases b with
 | true=>
  rw [hb rfl]
  repeat' (first|refine IT ?_|refine IF a5 G9 ?_|refine bQ rfl ?_)
  refine bh (bS (t:=2) (c':= .imm 1 []) rfl fun σ v h=>gZ 1 h) ?_
  exact IN IA
 | false=>
  repeat' (first|refine IT ?_|refine IF a5 G9 ?_|refine rG (d:=5) a5 fun _=>?_|refine bK rfl ?_)
  refine bM a5 [] rfl rfl rfl rfl (Jt _) (by rw [hml];simp;omega) (by rw [hml];simp;omega) rfl fun k'=>?_
  repeat' (first|refine IT ?_|refine IF a5 G9 ?_)
  refine bh (bS (t:=2) (c':= .imm 1 (aT l)) rfl fun σ v h=>VR.im h) ?_
  refine eP (List.nil_sublist _) ?_
  exact IN IA
theorem Fw (l:List gO) (hl:l.length≤1000000):bN Tryz.prog 97 [.imm 2 (l.map eT)] (.imm 2 (l.map eT)):=by
 refine aL Tryz.func97 rfl Tryz.ntmps97 rfl fun B=>?_
 have hml:(l.map eT).length=l.length:=Jz ..
 repeat' (first|refine IT ?_|refine IF a5 G9 ?_)
 refine sI a5 rfl rfl rfl rfl rfl fun b hb=>?_
 repeat' (first|refine IT ?_|fail)
 cases b with
 | true=>
  rw [hb rfl]
  repeat' (first|refine IT ?_|refine IF a5 G9 ?_|refine bQ rfl ?_)
  refine bh (bS (t:=2) (c':= .imm 2 []) rfl fun σ v h=>gZ 2 h) ?_
  exact IN IA
 | false=>
  repeat' (first|refine IT ?_|refine IF a5 G9 ?_|refine rG (d:=5) a5 fun _=>?_|refine bK rfl ?_)
  refine bM a5 [] rfl rfl rfl rfl (Jt _) (by rw [hml];simp;omega) (by rw [hml];simp;omega) rfl fun k'=>?_
  repeat' (first|refine IT ?_|refine IF a5 G9 ?_)
  refine bh (bS (t:=2) (c':= .imm 2 (l.map eT)) rfl fun σ v h=>VR.im h) ?_
  refine eP (List.nil_sublist _) ?_
  exact IN IA
abbrev ea:AV:= .sc (.slice none 0 0)
def fX {α:Type} (w:α→List AV) (z:List AV) (l:List α) (i:Nat):List (List AV):=(l.take i).map w++List.replicate (l.length - i) z
theorem pC {α:Type} {w:α→List AV} {z:List AV} {l:List α}:fX w z l 0=List.replicate l.length z:=by simp [fX]
theorem rj {α:Type} {w:α→List AV} {z:List AV} {l:List α}:fX w z l l.length=l.map w:=by simp [fX]
theorem rl {α:Type} {w:α→List AV} {z:List AV} {l:List α} {i:Nat} {x:α} (h:l[i]?=some x):(fX w z l i).set i (w x)=fX w z l (i+1):=by
 have hi:=(Ju h).1
 unfold fX
 rw [List.set_append,if_neg (by rw [Jz,List.length_take];omega),Jz,List.length_take,Nat.min_eq_left (by omega),Nat.sub_self,show l.length - i=(l.length - (i+1))+1 by omega,List.replicate_succ,List.set_cons_zero,List.take_add_one,h]
 simp
theorem rk {α:Type} {w:α→List AV} {z:List AV} {l:List α} {i:Nat} (hi:i≤l.length):(fX w z l i).length=l.length:=by
 unfold fX
 rw [List.length_append,Jz,List.length_take,List.length_replicate]
 omega
theorem np {sz:Nat}:∀{l:List (List AV)} {i:Nat} {e:List AV},(∀q∈l,q.length=sz)→e.length=sz→i < l.length→f4 l.flatten (i * sz) e=(l.set i e).flatten
 | [],_,_,_,_,h=>by simp at h
 | q::l,0,e,hs,he,_=>by
  have hq:=hs q (by simp)
  rw [List.set_cons_zero,List.flatten_cons,List.flatten_cons,Nat.zero_mul]
  apply List.ext_getElem?
  intro j
  rw [g9 _ _ _ _ (by rw [List.length_append];omega)]
  by_cases hj:j < e.length
  ·rw [if_pos (by omega),Nat.sub_zero,List.getElem?_append_left hj]
  ·rw [if_neg (by omega),List.getElem?_append_right (by omega),List.getElem?_append_right (by omega),hq,he]
 | q::l,i+1,e,hs,he,h=>by
  have hq:=hs q (by simp)
  have ih:=np (l:=l) (i:=i) (e:=e) (fun x hx=>hs x (by simp [hx])) he (by simpa using h)
  have hlen:i * sz+e.length≤l.flatten.length:=by
   have hl:l.flatten.length=l.length * sz:=eY l fun x hx=>hs x (by simp [hx])
   rw [hl,he]
   have:(i+1) * sz≤l.length * sz:=Nat.mul_le_mul_right _ (by simp at h;omega)
   rw [Nat.add_mul,Nat.one_mul] at this
   exact this
  rw [List.set_cons_succ,List.flatten_cons,List.flatten_cons,←ih]
  apply List.ext_getElem?
  intro j
  have e1:(i+1) * sz=i * sz+sz:=by rw [Nat.add_mul,Nat.one_mul]
  rw [g9 _ _ _ _ (by rw [List.length_append];omega),e1]
  by_cases hj:j < sz
  ·rw [if_neg (by omega),List.getElem?_append_left (by omega),List.getElem?_append_left (by omega)]
  ·rw [List.getElem?_append_right (by omega),List.getElem?_append_right (by omega),g9 _ _ _ _ hlen,hq]
   by_cases h2:i * sz≤j - sz∧j - sz < i * sz+e.length
   ·rw [if_pos h2,if_pos (by omega)]
    congr 1
    omega
   ·rw [if_neg h2,if_neg (by omega)]
set_option maxHeartbeats 4000000 in
theorem qL (l:List (List Int)) (hl:l.length≤1000000) (hs:∀s∈l,s.length≤1000000):bN Tryz.prog 95 [.imm 1 (b7 l)] (.imm 1 (b7 l)):=by
 refine aL Tryz.func95 rfl Tryz.ntmps95 rfl fun B=>?_
 have hil:=cn l
 repeat' (first|refine IT ?_|refine IF a5 G9 ?_)
 refine kJ a5 l.length rfl rfl rfl rfl rfl (by rw [hil]) (by rw [hil]) (by omega) (by omega) rfl fun rb=>?_
 repeat' (first|refine IT ?_|refine am ?_|refine IF a5 G9 ?_)
 refine aO [3,9,10] (α:=Nat) (fun i=>[(11,aF i)]) (fun i=>i≤l.length) (fun i=>[(rb,.box (fX (fun s=>[AV.imm 1 (aT s)]) [ea] l i).flatten 22)]) (fun i=>l.length - i) 0 rfl ⟨rfl,trivial⟩ (Nat.zero_le _) (fun _ _ hh=>by rw [pC];exact hh) fun i hi=>?_
 try dsimp only [Jx,Jw,Jv,Jq]
 repeat' (first|refine IT ?_|refine IF a5 G9 ?_)
 refine ar rfl (fun h1=>?_) (fun h1=>?_)
 ·have hi2:i < l.length:=by have:=Iy h1;omega
  obtain ⟨s,hsi⟩:∃z,l[i]?=some z:=⟨_,Iz hi2⟩
  have hsg:=gu hsi
  haveI:=AD.mk (Ao s (hs s (Iw hsi)))
  have hsz:∀q∈fX (fun s=>[AV.imm 1 (aT s)]) [ea] l i,q.length=1:=by
   intro q hq
   unfold fX at hq
   rw [List.mem_append] at hq
   rcases hq with hq | hq
   ·obtain ⟨_,_,rfl⟩:=List.mem_map.1 hq;rfl
   ·rw [(List.mem_replicate.1 hq).2];rfl
  have hfl:=rk (w:=fun s=>[AV.imm 1 (aT s)]) (z:=[ea]) (l:=l) (i:=i) hi
  have hput:=np (sz:=1) (l:=fX (fun s=>[AV.imm 1 (aT s)]) [ea] l i) (i:=i) (e:=[AV.imm 1 (aT s)]) hsz rfl (by omega)
  rw [rl hsi] at hput
  have hfll:(fX (fun s=>[AV.imm 1 (aT s)]) [ea] l i).flatten.length=l.length * 1:=by rw [eY _ hsz,hfl]
  clear h1
  repeat' (first|refine IT ?_|refine am ?_|refine IF a5 G9 ?_|(apply aS;first|refine aQ a5 ?_|refine aG a5 ?_)|(apply bk;refine bf ?_)|fail)
  refine aa a5 0 rfl rfl rfl rfl rfl rfl (Nat.ble_eq_true_of_le (by rw [hfll,Int.toNat_natCast];show 0+i * 1+1≤_;omega)) ?_
  repeat' (first|refine IT ?_|refine IF a5 G9 ?_|(apply aV;refine aU ?_)|fail)
  refine aC (i+1) rfl ⟨by rw [Iv];rfl,trivial⟩ hi2 (by omega) (fun _ _ hh=>?_)
  rw [←hput]
  rw [Int.toNat_natCast,Nat.zero_add] at hh
  exact hh
 ·have hi2:i=l.length:=by have:=Ix h1;omega
  subst hi2
  rw [rj]
  clear h1
  repeat' (first|refine IT ?_|refine IF a5 G9 ?_)
  have hml:(l.map fun s=>[AV.imm 1 (aT s)]).flatten.length=l.length * 1:=by rw [eY _ (sz:=1) (fun q hq=>by obtain ⟨_,_,rfl⟩:=List.mem_map.1 hq;rfl),Jz]
  refine bh (kQ (t:=2) (sz:=1) (n:=l.length) (cap:=l.length) (l:=b7 l) 0 rfl rfl (by rw [List.take_of_length_le (by omega)];rfl) (by omega) (fun e he=>by unfold b7 at he;obtain ⟨_,_,rfl⟩:=List.mem_map.1 he;rfl) hil (Nat.le_refl _) (by unfold maxLen;omega)) ?_
  exact IN IA
def iO (r:bb):List AV:=[ea,.imm 1 (b7 r.In),ea,.imm 1 (aT r.Out),.imm 2 (r.Calls.map eT),aF r.X]
theorem CB (r:bb):lz (iO r) (bB (eN r)):=⟨cx.nil 1,cx.refl _,cx.nil 1,cx.refl _,cx.refl _,cx.refl _,trivial⟩
theorem xt {α:Type} {a b:α→List AV} (h:∀x,lz (a x) (b x)):∀(l:List α),F0 (l.map a) (l.map b)
 | []=>trivial
 | x::l=>⟨h x,xt h l⟩
structure Es (r:bb):Prop where
 in_:r.In.length≤1000000∧∀s∈r.In,s.length≤1000000
 out:r.Out.length≤1000000
 calls:r.Calls.length≤1000000
set_option maxHeartbeats 8000000 in
theorem tJ (l:aN) (hl:l.Rules.length≤1000000) (hr:∀r∈l.Rules,Es r):bN Tryz.prog 33 [.agg (bC l)] (.agg (bC (iT l))):=by
 refine aL Tryz.func33 rfl Tryz.ntmps33 rfl fun B=>?_
 have hml:(l.Rules.map bB).length=l.Rules.length:=Jz ..
 repeat' (first|refine IT ?_|refine IF a5 G9 ?_|refine bo ?_|refine bi a5 fun _=>?_|fail)
 refine kJ a5 l.Rules.length rfl rfl rfl rfl rfl (by rw [hml]) (by rw [hml]) (by omega) (by omega) rfl fun rb=>?_
 repeat' (first|refine IT ?_|refine am ?_|refine IF a5 G9 ?_)
 rename_i r2
 refine aO [1,2,3,11,12] (α:=Nat) (fun i=>[(13,aF i)]) (fun i=>i≤l.Rules.length) (fun i=>[(rb,.box (fX iO [ea,ea,ea,ea,ea,aF 0] l.Rules i).flatten 79),(r2,.box [aF 0,ec false,ea] 59)]) (fun i=>l.Rules.length - i) 0 rfl ⟨rfl,trivial⟩ (Nat.zero_le _) (fun _ _ hh=>by rw [pC];exact hh) fun i hi=>?_
 try dsimp only [Jx,Jw,Jv,Jq]
 repeat' (first|refine IT ?_|refine IF a5 G9 ?_)
 refine ar rfl (fun h1=>?_) (fun h1=>?_)
 ·have hi2:i < l.Rules.length:=by have:=Iy h1;omega
  obtain ⟨r,hri⟩:∃z,l.Rules[i]?=some z:=⟨_,Iz hi2⟩
  have hrg:(l.Rules.map bB)[i]?=some (bB r):=by simp [hri]
  have hcr:=hr r (Iw hri)
  haveI:=AD.mk (qL r.In hcr.in_.1 hcr.in_.2)
  haveI:=AD.mk (Ao r.Out hcr.out)
  haveI:=AD.mk (Fw r.Calls hcr.calls)
  have hsz:∀q∈fX iO [ea,ea,ea,ea,ea,aF 0] l.Rules i,q.length=6:=by
   intro q hq
   unfold fX at hq
   rw [List.mem_append] at hq
   rcases hq with hq | hq
   ·obtain ⟨_,_,rfl⟩:=List.mem_map.1 hq;rfl
   ·rw [(List.mem_replicate.1 hq).2];rfl
  have hfl:=rk (w:=iO) (z:=[ea,ea,ea,ea,ea,aF 0]) (l:=l.Rules) (i:=i) hi
  have hput:=np (sz:=6) (l:=fX iO [ea,ea,ea,ea,ea,aF 0] l.Rules i) (i:=i) (e:=iO r) hsz rfl (by omega)
  rw [rl hri] at hput
  have hfll:(fX iO [ea,ea,ea,ea,ea,aF 0] l.Rules i).flatten.length=l.Rules.length * 6:=by rw [eY _ hsz,hfl]
  clear h1
  repeat' (first|refine IT ?_|refine am ?_|refine IF a5 G9 ?_|(apply aS;first|refine aQ a5 ?_|refine aG a5 ?_)|(apply aK;first|refine IH 5 a5 0 IE ?_|refine IH 5 a5 1 IE ?_|refine IH 5 a5 2 IE ?_|refine IG a5 0 ID ?_|refine IG a5 1 ID ?_|refine IG a5 2 ID ?_|refine IG a5 3 ID ?_|fail)|refine bi a5 fun _=>?_|fail)
  refine bA 14 [(0,.v),(1,.v),(2,.v),(3,.v),(4,.v),(5,.v),(6,.v),(7,.v),(8,.v),(9,.v),(10,.v),(11,.v),(12,.v),(13,.v)] none ?_ trivial rfl (by kernel_rfl) (by kernel_rfl) (by kernel_rfl) bU (by kernel_rfl) rfl
  repeat' (first|refine aD ?_|refine b8 a5 ?_|(apply dy;refine ej ?_)|fail)
  refine IQ [1,2,3,11,12,13,18,19,31] G9 ?_
  repeat' (first|(apply aS;first|refine aQ a5 ?_|refine aG a5 ?_)|fail)
  refine aa a5 0 rfl rfl rfl rfl rfl rfl (Nat.ble_eq_true_of_le (by rw [hfll,Int.toNat_natCast];show 0+i * 6+6≤_;omega)) ?_
  repeat' (first|refine IT ?_|refine IF a5 G9 ?_|(apply aV;refine aU ?_)|fail)
  refine aC (i+1) rfl ⟨by rw [Iv];rfl,trivial⟩ hi2 (by omega) (fun _ _ hh=>?_)
  rw [←hput]
  rw [Int.toNat_natCast,Nat.zero_add] at hh
  exact hh
 ·have hi2:i=l.Rules.length:=by have:=Ix h1;omega
  subst hi2
  rw [rj]
  clear h1
  have hsz:∀q∈l.Rules.map iO,q.length=6:=fun q hq=>by obtain ⟨_,_,rfl⟩:=List.mem_map.1 hq;rfl
  have hml2:(l.Rules.map iO).flatten.length=l.Rules.length * 6:=by rw [eY _ hsz,Jz]
  refine bP (kQ (t:=3) (sz:=6) (n:=l.Rules.length) (cap:=l.Rules.length) (l:=l.Rules.map iO) 0 rfl rfl (by rw [List.take_of_length_le (by omega)]) (by omega) hsz (Jz ..) (Nat.le_refl _) (by unfold maxLen;omega)) ?_
  refine bP (bS (t:=3) (c':= .imm 6 ((iT l).Rules.map bB)) rfl fun σ v h=>?_) ?_
  ·have e:(iT l).Rules.map bB=l.Rules.map fun r=>bB (eN r):=by unfold iT;rw [List.map_map];rfl
   rw [e]
   exact cx.imm (xt CB l.Rules) σ v h
  repeat' (first|refine IT ?_|refine IF a5 G9 ?_|(apply aK;first|refine IH 5 a5 0 IE ?_|refine IH 5 a5 1 IE ?_|refine IH 5 a5 2 IE ?_|refine IG a5 0 ID ?_|refine IG a5 1 ID ?_|refine IG a5 2 ID ?_|refine IG a5 3 ID ?_|fail))
  exact gW (cs:=[.agg (bC (iT l))]) [] ⟨⟨_,0,_,_,rfl,rfl,.inr ⟨eA a5 rfl,rfl⟩⟩,trivial⟩ (List.nil_sublist _) rfl
end Go.Proofs.YtpmdfoaadejmkaaGreatDoor
