/-
  An engine's passes over a run: from one end to the other one.
-/
import Derived.Test.YtpmdfoaadejmkaaGreatDoorM19
import Derived.Test.YtpmdfoaadejmkaaGreatDoorM14
import Derived.Test.YtpmdfoaadejmkaaGreatDoorM17
namespace Go.Proofs.YtpmdfoaadejmkaaGreatDoor
open Go.RowKit
attribute [local irreducible] AT br AX AO Av Kt b7 dm DA cA
theorem xQ {p:Nat} {q:List Nat}:(dt (p::q))[(((p::q).length:Int) - 1).toNat]?=some [aI ((p::q).getLastD p:Nat)]:=by
 have he:(p::q).getLastD p=(p::q).getLast (by simp):=by rw [List.getLastD_eq_getLast?,List.getLast?_eq_some_getLast (by simp)];rfl
 have hi:(((p::q).length:Int) - 1).toNat=(p::q).length - 1:=by omega
 rw [hi,he]
 unfold dt
 refine bW ?_
 rw [List.getElem?_map,←List.getLast?_eq_getElem?,List.getLast?_eq_some_getLast (by simp)]
 rfl
section
variable {E:n8} (hE:mx E) (wb:Nat)
include hE
set_option maxHeartbeats 8000000 in
theorem H6 (e:om) (he:e∈E.lks) (h1:1≤e.l.Kind) (h6:e.l.Kind≤6) (forms:List Int) (q0:Option gy) (run0:List aR) (hq0:dN q0 run0) (hr0:run0.length≤1000000):
  AC Tryz.prog 37 [eO wb,.iptr (fw e),.imm 1 (aQ forms)] (jo wb E q0 run0) (gU wb E (xS E.ms E.ls e.l forms run0.length 0 run0)):=by
 refine aS Tryz.func37 rfl Tryz.ntmps37 rfl fun B=>?_
 have hau:=hE.auto e he h1 h6
 refine W04 ?_
 refine aN [0,1,2] (α:=Nat×Nat×Option gy×List aR) (fun s=>[(6,aI s.1)]) (fun s=>dN s.2.2.1 s.2.2.2∧s.2.2.2.length≤1000000∧s.1≤1000001∧s.2.2.2.length - s.1≤s.2.1∧xS E.ms E.ls e.l forms s.2.1 s.1 s.2.2.2=xS E.ms E.ls e.l forms run0.length 0 run0) (fun s=>jo wb E s.2.2.1 s.2.2.2) (fun s=>s.2.1) (0,run0.length,q0,run0) rfl ⟨rfl,trivial⟩ ⟨hq0,hr0,by dsimp only;omega,by dsimp only;omega,rfl⟩ (fun _ _ h=>h) ?_
 rintro ⟨i,k,q,run⟩ ⟨hq,hr,hi1,hk,hv⟩
 dsimp only at hq hr hi1 hk hv ⊢
 try dsimp only [Lr,Lq,Lp,Li]
 refine W0o ?_
 refine mV a5 rfl hq rfl rfl ?_
 refine W0r ?_
 refine ar rfl (fun h=>?_) (fun h=>?_)
 ·have hi:i < run.length:=by have:=Lz h;omega
  obtain ⟨k,rfl⟩:∃j,k=j+1:=⟨k - 1,by omega⟩
  rw [xS,if_pos hi] at hv
  have hma:=rk E e hau wb q run hq hr i (by omega) forms
  clear h
  refine W0v ?_
  refine b9 (jo wb E q run) [] hma rfl rfl (by rw [List.append_nil];exact Lm _) rfl fun c L1 ⟨hc,hL⟩=>?_
  subst hc;subst hL
  unfold lQ
  cases hmv:fm E.ms e.l run i forms with
  | none=>
   rw [hmv] at hv
   dsimp only at hv ⊢
   refine W01 ?_
   refine oQ Tryz.underlying190 rfl rfl rfl rfl ?_
   repeat' (first|refine a9 ?_|refine a4 ?_|refine aP ?_|refine a6 ?_|refine aq ?_|refine ay ?_|refine a7 ?_|refine LG a5 KZ ?_|(apply aU;refine aT ?_)|refine bR rfl ?_)
   exact aC (i+1,k,q,run) rfl ⟨by rw [Lv];rfl,trivial⟩ ⟨hq,hr,by dsimp only;omega,by dsimp only;omega,hv⟩ (by dsimp only;omega) (fun _ _ h=>by rw [List.append_nil] at h;exact h)
  | some r=>
   rw [hmv] at hv
   dsimp only at hv ⊢
   obtain ⟨hps,hrm,hin,_,hhd⟩:=Ip hmv
   have hro:=hE.rule e he r hrm hin
   have hdo:=D0 hE wb 4 0 rfl e r (dV E.ms e.l run i r) q run he h1 h6 hro hps hq hr
   generalize dV E.ms e.l run i r=ps at *
   obtain ⟨p,ps',rfl⟩:=List.exists_cons_of_ne_nil hps.some_
   simp only [List.head?_cons,Option.some.injEq] at hhd
   subst hhd
   obtain ⟨l1,l2,l3⟩:=zk hps
   have hlg:=xQ (p:=p) (q:=ps')
   have hnl:=mo (p::ps')
   have hlen:=m9 (ms:=E.ms) (ls:=E.ls) 4 e.l r (p::ps') run
   have hr2:=hlen.big hr
   have hleft:e.l.Kind≠4→run.length - 1 - (p::ps').getLastD p≤(jH E.ms E.ls 4 e.l r (p::ps') run).length:=fun h4=>CY h4 hps
   have hpl1:(p::ps').length=ps'.length+1:=rfl
   have hlen1:(1 < ((dt (p::ps')).length:Int))↔p < (p::ps').getLastD p:=by
    rw [hnl,hpl1,←l3,←List.length_pos_iff]
    omega
   have hpair:e.l.Kind=6→(jH E.ms E.ls 4 e.l r (p::ps') run).length=run.length:=fun h6=>by
    rw [jH]
    dsimp only
    rw [if_neg (by omega)]
    unfold gu
    rw [if_neg (by omega),if_neg (by omega),if_neg (by omega),if_pos h6]
    unfold t6
    split
    ·rw [List.length_set]
    ·rfl
   generalize jH E.ms E.ls 4 e.l r (p::ps') run=run2 at *
   generalize (p::ps').getLastD p=last at *
   refine W01 ?_
   refine oQ Tryz.underlying190 rfl rfl rfl rfl ?_
   repeat' (first|refine a9 ?_|refine a4 ?_|refine aj ?_|refine a6 ?_|refine a7 ?_|refine LG a5 KZ ?_|(apply aU;refine aT ?_)|refine bB rfl ?_)
   refine aJ a5 ?_ (hl:=by rw [hnl];exact hlg) (h0:=by rw [hnl,hpl1];omega)
   refine W0d ?_
   refine mV a5 rfl hq rfl rfl ?_
   refine W0L ?_
   refine b9 (jo wb E q run) [] hdo rfl rfl (by rw [List.append_nil]) rfl fun c L1 ⟨q',g1,g2⟩=>?_
   subst g2
   refine W0d ?_
   refine mV a5 rfl g1 rfl rfl ?_
   refine W1c ?_
   refine ar rfl (fun h4=>?_) (fun h4=>?_)
   ·have hk4:e.l.Kind=4:=Lz h4
    unfold t4 at hv
    rw [if_pos hk4] at hv
    refine W05 ?_
    refine aC (max (run2.length - (run.length - 1 - last)) (p+1),k,q',run2) rfl ⟨?_,trivial⟩ ⟨g1,hr2,by dsimp only;omega,by dsimp only;omega,hv⟩ (by dsimp only;omega) (fun _ _ h=>by rw [List.append_nil] at h;exact h)
    show some (AV.sc (.int .i64 (max ((run2.length:Int) - ((run.length:Int) - 1 - last)) ((p:Int)+1))))=some (aI ((max (run2.length - (run.length - 1 - last)) (p+1):Nat):Int))
    rw [show max ((run2.length:Int) - ((run.length:Int) - 1 - last)) ((p:Int)+1)=((max (run2.length - (run.length - 1 - last)) (p+1):Nat):Int) by omega]
   ·have hk4:e.l.Kind≠4:=Ly h4
    have hlf:=hleft hk4
    refine W0k ?_
    refine ce [0,1,2,9,11] (e.l.Kind=6∧p < last) rfl (fun Q' K=>?_) (fun hC=>?_) (fun hC=>?_)
    ·repeat' (first|refine a7 ?_|refine LG a5 KZ ?_|refine LO KZ ?_|refine LP LB ?_|refine LR LA (fun _=>?_) (fun _=>?_))
     all_goals exact K _ _ rfl rfl (by rw [←hlen1];simp_all)
    ·unfold t4 at hv
     rw [if_neg hk4,if_pos hC] at hv
     refine W1o ?_
     refine aC (last,k,q',run2) rfl ⟨rfl,trivial⟩ ⟨g1,hr2,by dsimp only;omega,by have:=hpair hC.1;dsimp only;omega,hv⟩ (by dsimp only;omega) (fun _ _ h=>by rw [List.append_nil] at h;exact h)
    ·unfold t4 at hv
     rw [if_neg hk4,if_neg hC] at hv
     repeat' (first|refine a4 ?_|refine aj ?_|refine a6 ?_|refine aK ?_|refine a7 ?_|refine LG a5 KZ ?_)
     refine aC (run2.length - (run.length - 1 - last),k,q',run2) rfl ⟨?_,trivial⟩ ⟨g1,hr2,by dsimp only;omega,by dsimp only;omega,hv⟩ (by dsimp only;omega) (fun _ _ h=>by rw [List.append_nil] at h;exact h)
     show some (AV.sc (.int .i64 ((run2.length:Int) - ((run.length:Int) - 1 - last))))=some (aI ((run2.length - (run.length - 1 - last):Nat):Int))
     rw [show (run2.length:Int) - ((run.length:Int) - 1 - last)=((run2.length - (run.length - 1 - last):Nat):Int) by omega]
 ·have hi:run.length≤i:=by have:=Ly h;omega
  have hrun:run=xS E.ms E.ls e.l forms run0.length 0 run0:=by
   rw [←hv]
   cases k with
   | zero=>rw [xS]
   | succ k=>rw [xS,if_neg (by omega)]
  refine W19 ?_
  exact cJ rfl ⟨q,by rw [←hrun];exact hq,by rw [←hrun];rfl⟩
set_option maxHeartbeats 8000000 in
theorem vw (e:om) (he:e∈E.lks) (h1:1≤e.l.Kind) (h6:e.l.Kind≤6) (forms:List Int) (q0:Option gy) (run0:List aR) (hq0:dN q0 run0) (hr0:run0.length≤1000000):
  AC Tryz.prog 38 [eO wb,.iptr (fw e),.imm 1 (aQ forms)] (jo wb E q0 run0) (gU wb E (jL E.ms E.ls e.l forms run0.length run0)):=by
 refine aS Tryz.func38 rfl Tryz.ntmps38 rfl fun B=>?_
 have hau:=hE.auto e he h1 h6
 refine W0o ?_
 refine mV a5 rfl hq0 rfl rfl ?_
 refine W29 ?_
 refine aN [0,1,2] (α:=Nat×Option gy×List aR) (fun s=>[(6,aI ((s.1:Int) - 1))]) (fun s=>dN s.2.1 s.2.2∧s.2.2.length≤1000000∧s.1≤1000000∧jL E.ms E.ls e.l forms s.1 s.2.2=jL E.ms E.ls e.l forms run0.length run0) (fun s=>jo wb E s.2.1 s.2.2) (fun s=>s.1) (run0.length,q0,run0) rfl ⟨rfl,trivial⟩ ⟨hq0,hr0,hr0,rfl⟩ (fun _ _ h=>h) ?_
 rintro ⟨n,q,run⟩ ⟨hq,hr,hn1,hv⟩
 dsimp only at hq hr hn1 hv ⊢
 try dsimp only [Lr,Lq,Lp,Li]
 refine W01 ?_
 refine ar rfl (fun h=>?_) (fun h=>?_)
 ·have hn0:0 < n:=by have:=Lz h;omega
  obtain ⟨i,rfl⟩:∃j,n=j+1:=⟨n - 1,by omega⟩
  rw [jL] at hv
  have hi0:((i+1:Nat):Int) - 1=(i:Int):=by omega
  have hma:=rk E e hau wb q run hq hr i (by omega) forms
  clear h
  rw [hi0]
  refine W0v ?_
  refine b9 (jo wb E q run) [] hma rfl rfl (by rw [List.append_nil];exact Lm _) rfl fun c L1 ⟨hc,hL⟩=>?_
  subst hc;subst hL
  unfold lQ
  cases hmv:fm E.ms e.l run i forms with
  | none=>
   rw [hmv] at hv
   dsimp only at hv ⊢
   refine W01 ?_
   refine rp Tryz.underlying190 rfl rfl rfl rfl ?_
   repeat' (first|refine a4 ?_|refine aj ?_|refine a6 ?_|refine aK ?_|refine a7 ?_|refine LG a5 KZ ?_|(apply aU;refine aT ?_)|refine bB rfl ?_)
   exact aC (i,q,run) rfl ⟨rfl,trivial⟩ ⟨hq,hr,by dsimp only;omega,hv⟩ (by dsimp only;omega) (fun _ _ h=>by rw [List.append_nil] at h;exact h)
  | some r=>
   rw [hmv] at hv
   dsimp only at hv ⊢
   obtain ⟨hps,hrm,hin,_,hhd⟩:=Ip hmv
   have hro:=hE.rule e he r hrm hin
   have hdo:=D0 hE wb 4 0 rfl e r (dV E.ms e.l run i r) q run he h1 h6 hro hps hq hr
   have hr2:=(m9 (ms:=E.ms) (ls:=E.ls) 4 e.l r (dV E.ms e.l run i r) run).big hr
   refine W01 ?_
   refine rp Tryz.underlying190 rfl rfl rfl rfl ?_
   refine W2h ?_
   refine b9 (jo wb E q run) [] hdo rfl rfl (by rw [List.append_nil]) rfl fun c L1 ⟨q',g1,g2⟩=>?_
   subst g2
   refine W05 ?_
   exact aC (i,q',_) rfl ⟨rfl,trivial⟩ ⟨g1,hr2,by dsimp only;omega,hv⟩ (by dsimp only;omega) (fun _ _ h=>by rw [List.append_nil] at h;exact h)
 ·have hn0:n=0:=by have:=Ly h;omega
  subst hn0
  have hrun:run=jL E.ms E.ls e.l forms run0.length run0:=by rw [←hv,jL]
  refine W19 ?_
  exact cJ rfl ⟨q,by rw [←hrun];exact hq,by rw [←hrun];rfl⟩
end
end Go.Proofs.YtpmdfoaadejmkaaGreatDoor
namespace Go.Proofs.YtpmdfoaadejmkaaGreatDoor
open Go.RowKit
attribute [local irreducible] AT br AX AO Av Kt b7 dm DA cA
theorem vc (k:Int):c5 Tryz.prog 34 [aI k] (eo (decide (1≤k∧k≤6))):=by
 refine aS Tryz.func34 rfl Tryz.ntmps34 rfl fun B=>?_
 repeat' (first|refine a9 ?_|refine a4 ?_|refine am ?_|refine a6 ?_|refine a7 ?_|refine LG a5 KZ ?_|refine LO KZ ?_|refine LP LB ?_|refine LR LA (fun _=>?_) (fun _=>?_))
 all_goals exact LM KZ (by simp_all <;> omega)
instance (k:Int):AD Tryz.prog 34 [aI k] (eo (decide (1≤k∧k≤6))):=⟨vc k⟩
section
variable {nt:Nat} {fr:bT} {B:Bs} {D:List Deferred}
theorem oZ {t:Nat} {q:Option gy} {run:List aR} {Lf:AL} (hq:dN q run) (hl:ca fr t=some (ew q run)):jn nt D B fr (jF q run++Lf) ((t,.imm 6 (run.map bS))::fr) Lf:=by
 cases q with
 | none=>
  have he:=hq.emp rfl
  subst he
  exact bA hl fun σ v h=>h
 | some m=>
  obtain ⟨h1,h2,h3⟩:=hq.fit m rfl
  have hfl:=d9 run
  have hcl:run.length * 6≤(c7 run++m.junk).length:=by rw [List.length_append];omega
  have htk:(c7 run++m.junk).take (run.length * 6)=(run.map bS).flatten:=by
   have:=mh run m.junk (Nat.le_refl _)
   rw [List.take_length] at this
   exact this
  exact jl (sz:=6) (n:=run.length) (cap:=m.cap) (l:=run.map bS) 0 hl rfl htk hcl (fun e he=>by obtain ⟨z,_,rfl⟩:=List.mem_map.1 he;rfl) (Lu ..) h1 h2
theorem o9 {t wb:Nat} {eng:AV} {q:Option gy} {run:List aR} {Lf:AL} (hq:dN q run) (hl:ca fr t=some (ew q run)):jn nt D B fr ((wb,.box [eng,ew q run] 102)::(jF q run++Lf)) ((t,.imm 6 (run.map bS))::fr) Lf:=fun σ a w ha hw=>
 oZ hq hl σ a w ha (hw.sublist (List.sublist_cons_self ..))
end
section
variable {E:n8} (hE:mx E)
include hE
set_option maxHeartbeats 8000000 in
theorem Cu (n:Int) (run:List aR) (hr:run.length≤1000000) (forms:List Int):AC Tryz.prog 18 [.iptr (eh E),aI n,.imm 6 (run.map bS),.imm 1 (aQ forms)] [ct] fun c L=>c= .imm 6 ((dh E.ms E.ls n run forms).map bS)∧L=[ct]:=by
 refine aS Tryz.func18 rfl Tryz.ntmps18 rfl fun B=>?_
 have hll:=oD E
 have hcl:=x8 run hr
 refine W01 ?_
 refine b9 [] [ct] hcl rfl rfl (Lm _) rfl fun c L1 ⟨q,hq,hc,hL⟩=>?_
 subst hc;subst hL
 repeat' (first|fail)
 refine ci (u:= .agg [.iptr (eh E),ew q run]) (kZ a5 (by cases q <;> rfl)) rfl rfl ?_
 refine W23 ?_
 intros
 refine oQ Tryz.underlying34 rfl rfl rfl rfl ?_
 by_cases hin:0≤n∧n < E.lks.length
 ·obtain ⟨e,he⟩:∃e,E.lks[n.toNat]?=some e:=⟨_,Iy (by omega)⟩
  have heg:(E.lks.map fw)[n.toNat]?=some (fw e):=by simp [he]
  have hem:=Lw he
  refine ce [0,1,3,9] (¬(1≤e.l.Kind∧e.l.Kind≤6)) rfl (fun Q' K=>?_) (fun hC=>?_) (fun hC=>?_)
  ·repeat' (first|refine a7 ?_|refine LG a5 KZ ?_|refine LO KZ ?_|refine LP LB ?_|(apply aL;first|refine aJ a5 ?_|refine aF a5 ?_)|(apply bw;refine bn ?_)|refine LR LA (fun _=>?_) (fun _=>?_))
   all_goals exact K _ _ rfl rfl (by simp_all <;> omega)
  ·have hv:dh E.ms E.ls n run forms=run:=by
    unfold dh
    rw [if_neg (by omega),List.getElem?_map,he]
    show (if e.l.Kind < 1∨6 < e.l.Kind then run else _)=run
    rw [if_pos (by omega)]
   rw [hv]
   refine W0q ?_
   refine bc (o9 (t:=8) hq rfl) ?_
   exact LM KZ ⟨rfl,rfl⟩
  ·have hC:1≤e.l.Kind∧e.l.Kind≤6:=Classical.not_not.1 hC
   have hv:dh E.ms E.ls n run forms=if e.l.Kind=5 then jL E.ms E.ls e.l forms run.length run else xS E.ms E.ls e.l forms run.length 0 run:=by
    unfold dh
    rw [if_neg (by omega),List.getElem?_map,he]
    show (if e.l.Kind < 1∨6 < e.l.Kind then run else _)=_
    rw [if_neg (by omega)]
   rw [hv]
   rename_i wb _
   have hdn:=vw hE wb e hem hC.1 hC.2 forms q run hq hr
   have hon:=H6 hE wb e hem hC.1 hC.2 forms q run hq hr
   refine W10 ?_
   refine ar rfl (fun h5=>?_) (fun h5=>?_)
   ·rw [if_pos (Lz h5)]
    refine W1q ?_
    refine fN (jo wb E q run) [] (i9.fnB (f:=38) (fs:=[eO wb]) (caps:=[]) hdn) rfl rfl (by rw [List.append_nil];exact Lm _) rfl rfl fun c L1 ⟨q',g1,g2⟩=>?_
    subst g2
    refine W0s ?_
    refine bc (aH (List.Perm.of_eq (List.append_nil _))) ?_
    refine bc (o9 (t:=8) g1 rfl) ?_
    exact LM KZ ⟨rfl,rfl⟩
   ·rw [if_neg (Ly h5)]
    refine W1V ?_
    refine fN (jo wb E q run) [] (i9.fnB (f:=37) (fs:=[eO wb]) (caps:=[]) hon) rfl rfl (by rw [List.append_nil];exact Lm _) rfl rfl fun c L1 ⟨q',g1,g2⟩=>?_
    subst g2
    refine W0s ?_
    refine bc (aH (List.Perm.of_eq (List.append_nil _))) ?_
    refine bc (o9 (t:=8) g1 rfl) ?_
    exact LM KZ ⟨rfl,rfl⟩
 ·have hv:dh E.ms E.ls n run forms=run:=by
   unfold dh
   by_cases h0:n < 0
   ·rw [if_pos h0]
   ·rw [if_neg h0,List.getElem?_eq_none (by rw [Lu];omega)]
  rw [hv]
  refine ce [0,1,3,9] True rfl (fun Q' K=>?_) (fun hC=>?_) (fun hC=>absurd trivial hC)
  ·repeat' (first|refine a7 ?_|refine LG a5 KZ ?_|refine LO KZ ?_|refine LP LB ?_|refine LR LA (fun _=>?_) (fun _=>?_))
   all_goals first | exact K _ _ rfl rfl (by simp_all <;> omega) | (exfalso;simp_all <;> omega)
  ·refine W0q ?_
   refine bc (o9 (t:=8) hq rfl) ?_
   exact LM KZ ⟨rfl,rfl⟩
end
def y5 (ap:Int→List aR→List Int→List aR):List Int→List (List Int)→List aR→List aR
 | [],_,run=>run
 | n::ns,fs,run=>y5 ap ns (fs.drop 1) (ap n run (fs.headD []))
structure Hf (u:AV) (ap:Int→List aR→List Int→List aR):Prop where
 ac:∀(n:Int) (run:List aR) (forms:List Int),run.length≤1000000→AC Tryz.prog 18 [u,aI n,.imm 6 (run.map bS),.imm 1 (aQ forms)] [ct] fun c L=>c= .imm 6 ((ap n run forms).map bS)∧L=[ct]
 len:∀(n:Int) (run:List aR) (forms:List Int),run.length≤1000000→(ap n run forms).length≤1000000
theorem uk {ms:List Bool} {ls:List aO} {l:aO} {forms:List Int}:∀(k i:Nat) (run:List aR),gH run.length (xS ms ls l forms k i run).length
 | 0,_,_=>by unfold gH;rw [xS];omega
 | k+1,i,run=>by
  rw [xS]
  split
  ·split
   ·exact uk k (i+1) run
   ·exact (m9 4 l _ _ run).trans (uk k _ _)
  ·unfold gH;omega
theorem oE {ms:List Bool} {ls:List aO} {l:aO} {forms:List Int}:∀(k:Nat) (run:List aR),gH run.length (jL ms ls l forms k run).length
 | 0,_=>by unfold gH;rw [jL];omega
 | i+1,run=>by
  rw [jL]
  split
  ·exact oE i run
  ·exact (m9 4 l _ _ run).trans (oE i _)
theorem qy {ms:List Bool} {ls:List aO} {n:Int} {run:List aR} {forms:List Int}:gH run.length (dh ms ls n run forms).length:=by
 have hs:gH run.length run.length:=by unfold gH;omega
 unfold dh
 split
 ·exact hs
 ·split
  ·exact hs
  ·split
   ·exact hs
   ·split
    ·exact oE _ _
    ·exact uk _ _ _
theorem JO {E:n8} (hE:mx E):Hf (.iptr (eh E)) (dh E.ms E.ls):=⟨fun n run forms hr=>Cu hE n run hr forms,fun _ _ _ hr=>qy.big hr⟩
def JV:AV→Bool
 | .iptr _=>true
 | .sc (.pointer none)=>true
 | _=>false
set_option maxHeartbeats 4000000 in
theorem Gm (cs:List AV) {ap:Int→List aR→List Int→List aR} (h:Hf (.iptr cs) ap) (ns:List Int) (fs:List (List Int)) (run:List aR) (hr:run.length≤1000000):AC Tryz.prog 22 [.iptr cs,.imm 1 (aQ ns),.imm 1 (bj fs),.imm 6 (run.map bS)] [ct] fun c L=>c= .imm 6 ((y5 ap ns fs run).map bS)∧L=[ct]:=by
 refine aS Tryz.func22 rfl Tryz.ntmps22 rfl fun B=>?_
 refine cW 1 rfl rfl fun hlen=>?_
 have hcl:=x8 run hr
 have hnl:=aX ns
 rw [hnl] at hlen
 have hfl:=bZ fs
 refine W01 ?_
 refine b9 [] [ct] hcl rfl rfl (Lm _) rfl fun c L1 ⟨q,hq,hc,hL⟩=>?_
 subst hc;subst hL
 refine W04 ?_
 refine bM (oZ (t:=3) hq rfl) ?_
 refine aN [2,9,17,18] (α:=Nat×List aR) (fun s=>[(19,aI s.1),(3,.imm 6 (s.2.map bS))]) (fun s=>s.1≤ns.length∧s.2.length≤1000000∧y5 ap (ns.drop s.1) (fs.drop s.1) s.2=y5 ap ns fs run) (fun _=>[ct]) (fun s=>ns.length - s.1) (0,run) rfl ⟨rfl,rfl,trivial⟩ ⟨Nat.zero_le _,hr,rfl⟩ (fun _ _ h=>h) ?_
 rintro ⟨k,run1⟩ ⟨hk,hr1,hv⟩
 dsimp only at hk hr1 hv ⊢
 try dsimp only [Lr,Lq,Lp,Li]
 refine W01 ?_
 refine ar rfl (fun h0=>?_) (fun h0=>?_)
 ·have hk2:k < ns.length:=by have:=Lz h0;omega
  obtain ⟨n,hn⟩:∃n,ns[k]?=some n:=⟨_,Iy hk2⟩
  have hng:=bW hn
  rw [List.drop_eq_getElem_cons hk2,(Ln hn).2,y5,List.drop_drop] at hv
  clear h0
  refine W08 ?_
  refine ar rfl (fun h1=>?_) (fun h1=>?_)
  ·have hf:k < fs.length:=by have:=Lz h1;omega
   obtain ⟨f,hfg⟩:∃f,fs[k]?=some f:=⟨_,Iy hf⟩
   have hfgg:=gr hfg
   have hh:(fs.drop k).headD []=f:=by rw [List.drop_eq_getElem_cons hf,(Ln hfg).2];rfl
   rw [hh] at hv
   have hap:=h.ac n run1 f hr1
   clear h1
   repeat' (first|refine a4 ?_|refine a6 ?_|refine a7 ?_|refine LG a5 KZ ?_|(apply aL;first|refine aJ a5 ?_|refine aF a5 ?_)|fail)
   refine fN [ct] [] (i9.fnB (f:=18) (fs:=[.iptr cs]) (caps:=[]) hap) rfl rfl (Lm _) rfl rfl fun c L1 ⟨hc,hL⟩=>?_
   subst hc;subst hL
   refine W05 ?_
   exact aC (k+1,_) rfl ⟨by rw [Lv];rfl,rfl,trivial⟩ ⟨hk2,h.len _ _ _ hr1,hv⟩ (by dsimp only;omega) (fun _ _ h=>h)
  ·have hf:fs.length≤k:=by have:=Ly h1;omega
   have hh:(fs.drop k).headD []=[]:=by rw [List.drop_eq_nil_of_le hf];rfl
   rw [hh] at hv
   have hap:=AC.args (a:=[.iptr cs,aI n,.imm 6 (run1.map bS),.sc (.slice none 0 0)]) (h.ac n run1 [] hr1) ⟨c6.refl _,c6.refl _,c6.refl _,c6.nil 1,trivial⟩
   clear h1
   repeat' (first|refine a4 ?_|refine aj ?_|refine a6 ?_|refine LG a5 KZ ?_)
   refine fN [ct] [] (i9.fnB (f:=18) (fs:=[.iptr cs]) (caps:=[]) hap) rfl rfl (Lm _) rfl rfl fun c L1 ⟨hc,hL⟩=>?_
   subst hc;subst hL
   refine W05 ?_
   exact aC (k+1,_) rfl ⟨by rw [Lv];rfl,rfl,trivial⟩ ⟨hk2,h.len _ _ _ hr1,hv⟩ (by dsimp only;omega) (fun _ _ h=>h)
 ·have hk2:k=ns.length:=by have:=Ly h0;omega
  subst hk2
  rw [List.drop_length] at hv
  have hv2:run1=y5 ap ns fs run:=hv
  refine W02 ?_
  exact LM KZ ⟨by rw [←hv2],rfl⟩
end Go.Proofs.YtpmdfoaadejmkaaGreatDoor
namespace Go.Proofs.YtpmdfoaadejmkaaGreatDoor
open Go.RowKit
attribute [local irreducible] AT br AX AO Av Kt b7 dm DA cA
theorem iZ {α:Type} {g:α→Nat} {k:Nat}:∀{l:List α} {m:Nat},m≤k→(∀x∈l,g x≤k)→l.foldl (fun m x=>max m (g x)) m≤k
 | [],_,h,_=>h
 | a::l,m,h,hl=>by
  rw [List.foldl_cons]
  exact iZ (by have:=hl a (by simp);omega) fun x hx=>hl x (by simp [hx])
theorem Az (rs:List b8):kS pj rs=sR rs:=by
 funext n
 unfold kS sR pj
 rfl
theorem wW (rs:List b8) (gl:List Int):cn (fi (rs.map b8.Back) (kS qD rs) gl) (rs.map b8.Back).length=cn (fi (rs.map b8.Back) (fun _=>true) gl) (rs.map b8.Back).length:=by
 refine ic fun i=>?_
 rw [cm,cm]
 by_cases hi:i < (rs.map b8.Back).length
 ·rw [Lu] at hi
  congr 1
  unfold fi kS
  rw [List.getElem?_map,Iy hi]
  rfl
 ·rw [decide_eq_false hi,Bool.false_and,Bool.false_and]
def vy (l:aO) (a:gA):om:=⟨l,a.cls,a.fore,a.back,a.foreE,a.backE⟩
theorem wq {cls:List Int} {rows:List (List (List Int))} {hv:Nat→Bool} {C:Nat} {tab:List (List Int)} {ends:List Nat} (h:qo cls rows hv C tab ends) (hr:rows.length≤6):∀z∈ends,z < 2 ^ 64:=by
 intro z hz
 obtain ⟨met,h0,h1,h2,h3,h4⟩:=h.met
 obtain ⟨i,hi⟩:=List.mem_iff_getElem?.1 hz
 have hil:=(Ln hi).1
 obtain ⟨p,hp⟩:∃p,met[i]?=some p:=⟨_,Iy (by omega)⟩
 have:=h3 i p hp
 rw [hi] at this
 cases this
 unfold ii
 split
 ·exact Nat.pow_pos (by omega)
 ·refine Nat.lt_of_le_of_lt Nat.and_le_right ?_
  exact oB (by omega)
theorem yC {N:Nat} {l:aO} (h:uI N l) {a:gA} (hb:qk N l.Rules a):ku (vy l a):=by
 have hcs:∀z∈a.cls,z.toNat < (gQ a.cls).toNat:=fun z hz=>by
  have h1:=hb.cls.dom z hz
  omega
 have hf:∀r∈l.Rules,(dT r).length≤200∧r.Back.length≤200:=fun r hr=>by
  have:=(h.rule r hr).long
  have:=lJ r
  omega
 refine ⟨h.few,⟨wq hb.fore (by rw [Lu];exact h.few),wq hb.back (by rw [Lu];exact h.few)⟩,fun gl=>?_,fun gl=>?_,?_,?_⟩
 ·have:=pB hb.cls (rows:=l.Rules.map dT) (fun ea hrow s hs=>?_) hb.fore hcs gl
  ·rw [Az] at this
   exact this
  ·obtain ⟨r,hr,rfl⟩:=List.mem_map.1 hrow
   have hbr:=h.rule r hr
   refine ⟨List.mem_flatMap.2 ⟨r,hr,?_⟩,?_⟩
   ·rw [List.mem_append,List.mem_append]
    rcases lK hs with hs | hs
    ·exact .inl (.inr hs)
    ·exact .inr hs
   ·rcases lK hs with hs | hs
    ·exact (hbr.in_ s hs).2
    ·exact (hbr.ahead s hs).2
 ·have:=pB hb.cls (rows:=l.Rules.map b8.Back) (fun ea hrow s hs=>?_) hb.back hcs gl
  ·rw [wW] at this
   exact this
  ·obtain ⟨r,hr,rfl⟩:=List.mem_map.1 hrow
   exact ⟨List.mem_flatMap.2 ⟨r,hr,by rw [List.mem_append,List.mem_append];exact .inl (.inl hs)⟩,((h.rule r hr).back s hs).2⟩
 ·exact iZ (by omega) fun r hr=>by have:=(h.rule r hr).long;show r.In.length+r.Ahead.length≤_;omega
 ·exact iZ (by omega) fun r hr=>by have:=(h.rule r hr).long;show r.Back.length≤_;omega
theorem CN (l:List Int) (hl:l.length≤1000000):c5 Tryz.prog 96 [.imm 1 (aQ l)] (.imm 1 (aQ l)):=by
 refine aS Tryz.func96 rfl Tryz.ntmps96 rfl fun B=>?_
 have hml:=aX l
 refine W01 ?_
 refine nO a5 rfl rfl rfl rfl rfl fun b hb=>?_
 refine W1y ?_
 cases b with
 | true=>
  rw [hb rfl]
  refine W0P ?_
  refine bc (bA (t:=2) (c':= .imm 1 []) rfl fun σ v h=>jy 1 h) ?_
  exact LN LA
 | false=>
  refine W1h ?_
  intros
  refine bE a5 [] rfl rfl rfl rfl (Lm _) (by rw [hml];simp;omega) (by rw [hml];simp;omega) rfl fun k'=>?_
  refine W0c ?_
  refine bc (bA (t:=2) (c':= .imm 1 (aQ l)) rfl fun σ v h=>VR.im h) ?_
  refine dc (List.nil_sublist _) ?_
  exact LN LA
theorem HR (l:List gO) (hl:l.length≤1000000):c5 Tryz.prog 97 [.imm 2 (l.map dC)] (.imm 2 (l.map dC)):=by
 refine aS Tryz.func97 rfl Tryz.ntmps97 rfl fun B=>?_
 have hml:(l.map dC).length=l.length:=Lu ..
 refine W01 ?_
 refine nO a5 rfl rfl rfl rfl rfl fun b hb=>?_
 refine W1y ?_
 cases b with
 | true=>
  rw [hb rfl]
  refine W0P ?_
  refine bc (bA (t:=2) (c':= .imm 2 []) rfl fun σ v h=>jy 2 h) ?_
  exact LN LA
 | false=>
  refine W1h ?_
  intros
  refine bE a5 [] rfl rfl rfl rfl (Lm _) (by rw [hml];simp;omega) (by rw [hml];simp;omega) rfl fun k'=>?_
  refine W0c ?_
  refine bc (bA (t:=2) (c':= .imm 2 (l.map dC)) rfl fun σ v h=>VR.im h) ?_
  refine dc (List.nil_sublist _) ?_
  exact LN LA
abbrev cE:AV:= .sc (.slice none 0 0)
def eA {α:Type} (w:α→List AV) (z:List AV) (l:List α) (i:Nat):List (List AV):=(l.take i).map w++List.replicate (l.length - i) z
theorem kL {α:Type} {w:α→List AV} {z:List AV} {l:List α}:eA w z l 0=List.replicate l.length z:=by simp [eA]
theorem md {α:Type} {w:α→List AV} {z:List AV} {l:List α}:eA w z l l.length=l.map w:=by simp [eA]
theorem mf {α:Type} {w:α→List AV} {z:List AV} {l:List α} {i:Nat} {x:α} (h:l[i]?=some x):(eA w z l i).set i (w x)=eA w z l (i+1):=by
 have hi:=(Ln h).1
 unfold eA
 rw [List.set_append,if_neg (by rw [Lu,List.length_take];omega),Lu,List.length_take,Nat.min_eq_left (by omega),Nat.sub_self,show l.length - i=(l.length - (i+1))+1 by omega,List.replicate_succ,List.set_cons_zero,List.take_add_one,h]
 simp
theorem me {α:Type} {w:α→List AV} {z:List AV} {l:List α} {i:Nat} (hi:i≤l.length):(eA w z l i).length=l.length:=by
 unfold eA
 rw [List.length_append,Lu,List.length_take,List.length_replicate]
 omega
theorem jP {sz:Nat}:∀{l:List (List AV)} {i:Nat} {e:List AV},(∀q∈l,q.length=sz)→e.length=sz→i < l.length→fx l.flatten (i * sz) e=(l.set i e).flatten
 | [],_,_,_,_,h=>by simp at h
 | q::l,0,e,hs,he,_=>by
  have hq:=hs q (by simp)
  rw [List.set_cons_zero,List.flatten_cons,List.flatten_cons,Nat.zero_mul]
  apply List.ext_getElem?
  intro j
  rw [gL _ _ _ _ (by rw [List.length_append];omega)]
  by_cases hj:j < e.length
  ·rw [if_pos (by omega),Nat.sub_zero,List.getElem?_append_left hj]
  ·rw [if_neg (by omega),List.getElem?_append_right (by omega),List.getElem?_append_right (by omega),hq,he]
 | q::l,i+1,e,hs,he,h=>by
  have hq:=hs q (by simp)
  have ih:=jP (l:=l) (i:=i) (e:=e) (fun x hx=>hs x (by simp [hx])) he (by simpa using h)
  have hlen:i * sz+e.length≤l.flatten.length:=by
   have hl:l.flatten.length=l.length * sz:=ej l fun x hx=>hs x (by simp [hx])
   rw [hl,he]
   have:(i+1) * sz≤l.length * sz:=Nat.mul_le_mul_right _ (by simp at h;omega)
   rw [Nat.add_mul,Nat.one_mul] at this
   exact this
  rw [List.set_cons_succ,List.flatten_cons,List.flatten_cons,←ih]
  apply List.ext_getElem?
  intro j
  have e1:(i+1) * sz=i * sz+sz:=by rw [Nat.add_mul,Nat.one_mul]
  rw [gL _ _ _ _ (by rw [List.length_append];omega),e1]
  by_cases hj:j < sz
  ·rw [if_neg (by omega),List.getElem?_append_left (by omega),List.getElem?_append_left (by omega)]
  ·rw [List.getElem?_append_right (by omega),List.getElem?_append_right (by omega),gL _ _ _ _ hlen,hq]
   by_cases h2:i * sz≤j - sz∧j - sz < i * sz+e.length
   ·rw [if_pos h2,if_pos (by omega)]
    congr 1
    omega
   ·rw [if_neg h2,if_neg (by omega)]
set_option maxHeartbeats 4000000 in
theorem sd (l:List (List Int)) (hl:l.length≤1000000) (hs:∀s∈l,s.length≤1000000):c5 Tryz.prog 95 [.imm 1 (bj l)] (.imm 1 (bj l)):=by
 refine aS Tryz.func95 rfl Tryz.ntmps95 rfl fun B=>?_
 have hil:=bZ l
 refine W01 ?_
 refine iz a5 l.length rfl rfl rfl rfl rfl (by rw [hil]) (by rw [hil]) (by omega) (by omega) rfl fun rb=>?_
 refine W04 ?_
 refine aN [3,9,10] (α:=Nat) (fun i=>[(11,aI i)]) (fun i=>i≤l.length) (fun i=>[(rb,.box (eA (fun s=>[AV.imm 1 (aQ s)]) [cE] l i).flatten 22)]) (fun i=>l.length - i) 0 rfl ⟨rfl,trivial⟩ (Nat.zero_le _) (fun _ _ hh=>by rw [kL];exact hh) fun i hi=>?_
 try dsimp only [Lr,Lq,Lp,Li]
 refine W01 ?_
 refine ar rfl (fun h1=>?_) (fun h1=>?_)
 ·have hi2:i < l.length:=by have:=Lz h1;omega
  obtain ⟨s,hsi⟩:∃z,l[i]?=some z:=⟨_,Iy hi2⟩
  have hsg:=gr hsi
  haveI:=AD.mk (CN s (hs s (Lw hsi)))
  have hsz:∀q∈eA (fun s=>[AV.imm 1 (aQ s)]) [cE] l i,q.length=1:=by
   intro q hq
   unfold eA at hq
   rw [List.mem_append] at hq
   rcases hq with hq | hq
   ·obtain ⟨_,_,rfl⟩:=List.mem_map.1 hq;rfl
   ·rw [(List.mem_replicate.1 hq).2];rfl
  have hfl:=me (w:=fun s=>[AV.imm 1 (aQ s)]) (z:=[cE]) (l:=l) (i:=i) hi
  have hput:=jP (sz:=1) (l:=eA (fun s=>[AV.imm 1 (aQ s)]) [cE] l i) (i:=i) (e:=[AV.imm 1 (aQ s)]) hsz rfl (by omega)
  rw [mf hsi] at hput
  have hfll:(eA (fun s=>[AV.imm 1 (aQ s)]) [cE] l i).flatten.length=l.length * 1:=by rw [ej _ hsz,hfl]
  clear h1
  refine W1v ?_
  refine LU a5 0 LD (Nat.ble_eq_true_of_le (by rw [hfll,Int.toNat_natCast];show 0+i * 1+1≤_;omega)) ?_
  refine W05 ?_
  refine aC (i+1) rfl ⟨by rw [Lv];rfl,trivial⟩ hi2 (by omega) (fun _ _ hh=>?_)
  rw [←hput]
  rw [Int.toNat_natCast,Nat.zero_add] at hh
  exact hh
 ·have hi2:i=l.length:=by have:=Ly h1;omega
  subst hi2
  rw [md]
  clear h1
  refine W02 ?_
  have hml:(l.map fun s=>[AV.imm 1 (aQ s)]).flatten.length=l.length * 1:=by rw [ej _ (sz:=1) (fun q hq=>by obtain ⟨_,_,rfl⟩:=List.mem_map.1 hq;rfl),Lu]
  refine bc (jl (t:=2) (sz:=1) (n:=l.length) (cap:=l.length) (l:=bj l) 0 rfl rfl (by rw [List.take_of_length_le (by omega)];rfl) (by omega) (fun e he=>by unfold bj at he;obtain ⟨_,_,rfl⟩:=List.mem_map.1 he;rfl) hil (Nat.le_refl _) (by unfold maxLen;omega)) ?_
  exact LN LA
def jB (r:b8):List AV:=[cE,.imm 1 (bj r.In),cE,.imm 1 (aQ r.Out),.imm 2 (r.Calls.map dC),aI r.X]
theorem EP (r:b8):iS (jB r) (bV (eY r)):=⟨c6.nil 1,c6.refl _,c6.nil 1,c6.refl _,c6.refl _,c6.refl _,trivial⟩
theorem zA {α:Type} {a b:α→List AV} (h:∀x,iS (a x) (b x)):∀(l:List α),s7 (l.map a) (l.map b)
 | []=>trivial
 | x::l=>⟨h x,zA h l⟩
structure C1 (r:b8):Prop where
 in_:r.In.length≤1000000∧∀s∈r.In,s.length≤1000000
 out:r.Out.length≤1000000
 calls:r.Calls.length≤1000000
set_option maxHeartbeats 8000000 in
theorem vq (l:aO) (hl:l.Rules.length≤1000000) (hr:∀r∈l.Rules,C1 r):c5 Tryz.prog 33 [.agg (bJ l)] (.agg (bJ (iA l))):=by
 refine aS Tryz.func33 rfl Tryz.ntmps33 rfl fun B=>?_
 have hml:(l.Rules.map bV).length=l.Rules.length:=Lu ..
 refine W1u ?_
 intros
 refine iz a5 l.Rules.length rfl rfl rfl rfl rfl (by rw [hml]) (by rw [hml]) (by omega) (by omega) rfl fun rb=>?_
 refine W04 ?_
 rename_i r2
 refine aN [1,2,3,11,12] (α:=Nat) (fun i=>[(13,aI i)]) (fun i=>i≤l.Rules.length) (fun i=>[(rb,.box (eA jB [cE,cE,cE,cE,cE,aI 0] l.Rules i).flatten 79),(r2,.box [aI 0,eo false,cE] 59)]) (fun i=>l.Rules.length - i) 0 rfl ⟨rfl,trivial⟩ (Nat.zero_le _) (fun _ _ hh=>by rw [kL];exact hh) fun i hi=>?_
 try dsimp only [Lr,Lq,Lp,Li]
 refine W01 ?_
 refine ar rfl (fun h1=>?_) (fun h1=>?_)
 ·have hi2:i < l.Rules.length:=by have:=Lz h1;omega
  obtain ⟨r,hri⟩:∃z,l.Rules[i]?=some z:=⟨_,Iy hi2⟩
  have hrg:(l.Rules.map bV)[i]?=some (bV r):=by simp [hri]
  have hcr:=hr r (Lw hri)
  haveI:=AD.mk (sd r.In hcr.in_.1 hcr.in_.2)
  haveI:=AD.mk (CN r.Out hcr.out)
  haveI:=AD.mk (HR r.Calls hcr.calls)
  have hsz:∀q∈eA jB [cE,cE,cE,cE,cE,aI 0] l.Rules i,q.length=6:=by
   intro q hq
   unfold eA at hq
   rw [List.mem_append] at hq
   rcases hq with hq | hq
   ·obtain ⟨_,_,rfl⟩:=List.mem_map.1 hq;rfl
   ·rw [(List.mem_replicate.1 hq).2];rfl
  have hfl:=me (w:=jB) (z:=[cE,cE,cE,cE,cE,aI 0]) (l:=l.Rules) (i:=i) hi
  have hput:=jP (sz:=6) (l:=eA jB [cE,cE,cE,cE,cE,aI 0] l.Rules i) (i:=i) (e:=jB r) hsz rfl (by omega)
  rw [mf hri] at hput
  have hfll:(eA jB [cE,cE,cE,cE,cE,aI 0] l.Rules i).flatten.length=l.Rules.length * 6:=by rw [ej _ hsz,hfl]
  clear h1
  refine W14 ?_
  intros
  refine bz 14 [(0,.v),(1,.v),(2,.v),(3,.v),(4,.v),(5,.v),(6,.v),(7,.v),(8,.v),(9,.v),(10,.v),(11,.v),(12,.v),(13,.v)] none ?_ trivial rfl (by kernel_rfl) (by kernel_rfl) (by kernel_rfl) bX (by kernel_rfl) rfl
  refine W0W ?_
  refine LQ [1,2,3,11,12,13,18,19,31] KZ ?_
  refine W0z ?_
  refine LU a5 0 LD (Nat.ble_eq_true_of_le (by rw [hfll,Int.toNat_natCast];show 0+i * 6+6≤_;omega)) ?_
  refine W05 ?_
  refine aC (i+1) rfl ⟨by rw [Lv];rfl,trivial⟩ hi2 (by omega) (fun _ _ hh=>?_)
  rw [←hput]
  rw [Int.toNat_natCast,Nat.zero_add] at hh
  exact hh
 ·have hi2:i=l.Rules.length:=by have:=Ly h1;omega
  subst hi2
  rw [md]
  clear h1
  have hsz:∀q∈l.Rules.map jB,q.length=6:=fun q hq=>by obtain ⟨_,_,rfl⟩:=List.mem_map.1 hq;rfl
  have hml2:(l.Rules.map jB).flatten.length=l.Rules.length * 6:=by rw [ej _ hsz,Lu]
  refine bM (jl (t:=3) (sz:=6) (n:=l.Rules.length) (cap:=l.Rules.length) (l:=l.Rules.map jB) 0 rfl rfl (by rw [List.take_of_length_le (by omega)]) (by omega) hsz (Lu ..) (Nat.le_refl _) (by unfold maxLen;omega)) ?_
  refine bM (bA (t:=3) (c':= .imm 6 ((iA l).Rules.map bV)) rfl fun σ v h=>?_) ?_
  ·have e:(iA l).Rules.map bV=l.Rules.map fun r=>bV (eY r):=by unfold iA;rw [List.map_map];rfl
   rw [e]
   exact c6.imm (zA EP l.Rules) σ v h
  refine W1b ?_
  exact fY (cs:=[.agg (bJ (iA l))]) [] ⟨⟨_,0,_,_,rfl,rfl,.inr ⟨ee a5 rfl,rfl⟩⟩,trivial⟩ (List.nil_sublist _) rfl
end Go.Proofs.YtpmdfoaadejmkaaGreatDoor
