/-
  An engine's passes over a run: from one end to the other one.
-/
import Derived.Test.YtpmdfoaadejmkaaGreatDoorM27
namespace Go.Proofs.YtpmdfoaadejmkaaGreatDoor
open Go.RowKit
section
attribute [local irreducible] AT bP AX AO Av Kt bb dh DA cG
theorem zb {p:Nat} {q:List Nat}:(dZ (p::q))[(((p::q).length:Int) - 1).toNat]?=some [aK ((p::q).getLastD p:Nat)]:=by
 have he:(p::q).getLastD p=(p::q).getLast (by simp):=by rw [List.getLastD_eq_getLast?,List.getLast?_eq_some_getLast (by simp)];rfl
 have hi:(((p::q).length:Int) - 1).toNat=(p::q).length - 1:=by omega
 rw [hi,he]
 unfold dZ
 refine bK ?_
 rw [List.getElem?_map,←List.getLast?_eq_getElem?,List.getLast?_eq_some_getLast (by simp)]
 rfl
section
variable {E:qV} (hE:pZ E) (wb:Nat)
include hE
set_option maxHeartbeats 8000000 in
theorem Ly (e:qU) (he:e∈E.lks) (h1:1≤e.l.Kind) (h6:e.l.Kind≤6) (forms:List Int) (q0:Option gV) (run0:List bc) (hq0:eG q0 run0) (hr0:run0.length≤1000000):
  AC Tryz.prog 37 [gT wb,.iptr (gk e),.imm 1 (aW forms)] (ke wb E q0 run0) (ir wb E (AN E.ms E.ls e.l forms run0.length 0 run0)):=by
 refine aV Tryz.func37 rfl Tryz.ntmps37 rfl fun B=>?_
 have hau:=hE.auto e he h1 h6
 refine W03 ?_
 refine aM [0,1,2] (α:=Nat×Nat×Option gV×List bc) (fun s=>[(6,aK s.1)]) (fun s=>eG s.2.2.1 s.2.2.2∧s.2.2.2.length≤1000000∧s.1≤1000001∧s.2.2.2.length - s.1≤s.2.1∧AN E.ms E.ls e.l forms s.2.1 s.1 s.2.2.2=AN E.ms E.ls e.l forms run0.length 0 run0) (fun s=>ke wb E s.2.2.1 s.2.2.2) (fun s=>s.2.1) (0,run0.length,q0,run0) rfl ⟨rfl,trivial⟩ ⟨hq0,hr0,by dsimp only;omega,by dsimp only;omega,rfl⟩ (fun _ _ h=>h) ?_
 rintro ⟨i,k,q,run⟩ ⟨hq,hr,hi1,hk,hv⟩
 dsimp only at hq hr hi1 hk hv ⊢
 try dsimp only [Ns,Nr,Nq,Nk]
 refine W04 ?_
 refine nK a5 rfl hq rfl rfl ?_
 refine W01 ?_
 refine aj rfl (fun h=>?_) (fun h=>?_)
 ·have hi:i < run.length:=by have:=Ny h;omega
  obtain ⟨k,rfl⟩:∃j,k=j+1:=⟨k - 1,by omega⟩
  rw [AN,if_pos hi] at hv
  have hma:=sd E e hau wb q run hq hr i (by omega) forms
  clear h
  refine W03 ?_
  refine b7 (ke wb E q run) [] hma rfl rfl (by rw [List.append_nil];exact Nn _) rfl fun c L1 ⟨hc,hL⟩=>?_
  subst hc;subst hL
  unfold mq
  cases hmv:fC E.ms e.l run i forms with
  | none=>
   rw [hmv] at hv
   dsimp only at hv ⊢
   refine W01 ?_
   refine v7 Tryz.underlying190 rfl rfl rfl rfl ?_
   repeat' (first|refine Ng ?_|refine NG a5 IG ?_|(apply aS;refine aR ?_)|refine bR rfl ?_)
   exact aC (i+1,k,q,run) rfl ⟨by rw [Nv];rfl,trivial⟩ ⟨hq,hr,by dsimp only;omega,by dsimp only;omega,hv⟩ (by dsimp only;omega) (fun _ _ h=>by rw [List.append_nil] at h;exact h)
  | some r=>
   rw [hmv] at hv
   dsimp only at hv ⊢
   obtain ⟨hps,hrm,hin,_,hhd⟩:=Kg hmv
   have hro:=hE.rule e he r hrm hin
   have hdo:=EM hE wb 4 0 rfl e r (er E.ms e.l run i r) q run he h1 h6 hro hps hq hr
   generalize er E.ms e.l run i r=ps at *
   obtain ⟨p,ps',rfl⟩:=List.exists_cons_of_ne_nil hps.some_
   simp only [List.head?_cons,Option.some.injEq] at hhd
   subst hhd
   obtain ⟨l1,l2,l3⟩:=AW hps
   have hlg:=zb (p:=p) (q:=ps')
   have hnl:=mR (p::ps')
   have hlen:=mJ (ms:=E.ms) (ls:=E.ls) 4 e.l r (p::ps') run
   have hr2:=hlen.big hr
   have hleft:e.l.Kind≠4→run.length - 1 - (p::ps').getLastD p≤(kO E.ms E.ls 4 e.l r (p::ps') run).length:=fun h4=>EL h4 hps
   have hpl1:(p::ps').length=ps'.length+1:=rfl
   have hlen1:(1 < ((dZ (p::ps')).length:Int))↔p < (p::ps').getLastD p:=by
    rw [hnl,hpl1,←l3,←List.length_pos_iff]
    omega
   have hpair:e.l.Kind=6→(kO E.ms E.ls 4 e.l r (p::ps') run).length=run.length:=fun h6=>by
    rw [kO]
    dsimp only
    rw [if_neg (by omega)]
    unfold ip
    rw [if_neg (by omega),if_neg (by omega),if_neg (by omega),if_pos h6]
    unfold tY
    split
    ·rw [List.length_set]
    ·rfl
   generalize kO E.ms E.ls 4 e.l r (p::ps') run=run2 at *
   generalize (p::ps').getLastD p=last at *
   refine W01 ?_
   refine v7 Tryz.underlying190 rfl rfl rfl rfl ?_
   refine W15 ?_
   refine aN a5 ?_ (hl:=by rw [hnl];exact hlg) (h0:=by rw [hnl,hpl1];omega)
   refine W04 ?_
   refine nK a5 rfl hq rfl rfl ?_
   refine W02 ?_
   refine b7 (ke wb E q run) [] hdo rfl rfl (by rw [List.append_nil]) rfl fun c L1 ⟨q',g1,g2⟩=>?_
   subst g2
   refine W04 ?_
   refine nK a5 rfl g1 rfl rfl ?_
   refine W0B ?_
   refine aj rfl (fun h4=>?_) (fun h4=>?_)
   ·have hk4:e.l.Kind=4:=Ny h4
    unfold AJ at hv
    rw [if_pos hk4] at hv
    refine W02 ?_
    refine aC (max (run2.length - (run.length - 1 - last)) (p+1),k,q',run2) rfl ⟨?_,trivial⟩ ⟨g1,hr2,by dsimp only;omega,by dsimp only;omega,hv⟩ (by dsimp only;omega) (fun _ _ h=>by rw [List.append_nil] at h;exact h)
    show some (AV.sc (.int .i64 (max ((run2.length:Int) - ((run.length:Int) - 1 - last)) ((p:Int)+1))))=some (aK ((max (run2.length - (run.length - 1 - last)) (p+1):Nat):Int))
    rw [show max ((run2.length:Int) - ((run.length:Int) - 1 - last)) ((p:Int)+1)=((max (run2.length - (run.length - 1 - last)) (p+1):Nat):Int) by omega]
   ·have hk4:e.l.Kind≠4:=Nx h4
    have hlf:=hleft hk4
    refine W01 ?_
    refine cu [0,1,2,9,11] (e.l.Kind=6∧p < last) rfl (fun Q' K=>?_) (fun hC=>?_) (fun hC=>?_)
    ·repeat' (first|refine Ng ?_|refine NG a5 IG ?_|refine NN IG ?_|refine NO NB ?_|refine NR NA (fun _=>?_) (fun _=>?_))
     all_goals exact K _ _ rfl rfl (by rw [←hlen1];simp_all)
    ·unfold AJ at hv
     rw [if_neg hk4,if_pos hC] at hv
     refine W01 ?_
     refine aC (last,k,q',run2) rfl ⟨rfl,trivial⟩ ⟨g1,hr2,by dsimp only;omega,by have:=hpair hC.1;dsimp only;omega,hv⟩ (by dsimp only;omega) (fun _ _ h=>by rw [List.append_nil] at h;exact h)
    ·unfold AJ at hv
     rw [if_neg hk4,if_neg hC] at hv
     refine W01 ?_
     refine aC (run2.length - (run.length - 1 - last),k,q',run2) rfl ⟨?_,trivial⟩ ⟨g1,hr2,by dsimp only;omega,by dsimp only;omega,hv⟩ (by dsimp only;omega) (fun _ _ h=>by rw [List.append_nil] at h;exact h)
     show some (AV.sc (.int .i64 ((run2.length:Int) - ((run.length:Int) - 1 - last))))=some (aK ((run2.length - (run.length - 1 - last):Nat):Int))
     rw [show (run2.length:Int) - ((run.length:Int) - 1 - last)=((run2.length - (run.length - 1 - last):Nat):Int) by omega]
 ·have hi:run.length≤i:=by have:=Nx h;omega
  have hrun:run=AN E.ms E.ls e.l forms run0.length 0 run0:=by
   rw [←hv]
   cases k with
   | zero=>rw [AN]
   | succ k=>rw [AN,if_neg (by omega)]
  repeat' (first|refine Ng ?_|fail)
  exact cD rfl ⟨q,by rw [←hrun];exact hq,by rw [←hrun];rfl⟩
set_option maxHeartbeats 8000000 in
theorem EN (e:qU) (he:e∈E.lks) (h1:1≤e.l.Kind) (h6:e.l.Kind≤6) (forms:List Int) (q0:Option gV) (run0:List bc) (hq0:eG q0 run0) (hr0:run0.length≤1000000):
  AC Tryz.prog 38 [gT wb,.iptr (gk e),.imm 1 (aW forms)] (ke wb E q0 run0) (ir wb E (lz E.ms E.ls e.l forms run0.length run0)):=by
 refine aV Tryz.func38 rfl Tryz.ntmps38 rfl fun B=>?_
 have hau:=hE.auto e he h1 h6
 refine W04 ?_
 refine nK a5 rfl hq0 rfl rfl ?_
 refine W1I ?_
 refine aM [0,1,2] (α:=Nat×Option gV×List bc) (fun s=>[(6,aK ((s.1:Int) - 1))]) (fun s=>eG s.2.1 s.2.2∧s.2.2.length≤1000000∧s.1≤1000000∧lz E.ms E.ls e.l forms s.1 s.2.2=lz E.ms E.ls e.l forms run0.length run0) (fun s=>ke wb E s.2.1 s.2.2) (fun s=>s.1) (run0.length,q0,run0) rfl ⟨rfl,trivial⟩ ⟨hq0,hr0,hr0,rfl⟩ (fun _ _ h=>h) ?_
 rintro ⟨n,q,run⟩ ⟨hq,hr,hn1,hv⟩
 dsimp only at hq hr hn1 hv ⊢
 try dsimp only [Ns,Nr,Nq,Nk]
 refine W01 ?_
 refine aj rfl (fun h=>?_) (fun h=>?_)
 ·have hn0:0 < n:=by have:=Ny h;omega
  obtain ⟨i,rfl⟩:∃j,n=j+1:=⟨n - 1,by omega⟩
  rw [lz] at hv
  have hi0:((i+1:Nat):Int) - 1=(i:Int):=by omega
  have hma:=sd E e hau wb q run hq hr i (by omega) forms
  clear h
  rw [hi0]
  refine W03 ?_
  refine b7 (ke wb E q run) [] hma rfl rfl (by rw [List.append_nil];exact Nn _) rfl fun c L1 ⟨hc,hL⟩=>?_
  subst hc;subst hL
  unfold mq
  cases hmv:fC E.ms e.l run i forms with
  | none=>
   rw [hmv] at hv
   dsimp only at hv ⊢
   refine W01 ?_
   refine nL Tryz.underlying190 rfl rfl rfl rfl ?_
   refine W15 ?_
   exact aC (i,q,run) rfl ⟨rfl,trivial⟩ ⟨hq,hr,by dsimp only;omega,hv⟩ (by dsimp only;omega) (fun _ _ h=>by rw [List.append_nil] at h;exact h)
  | some r=>
   rw [hmv] at hv
   dsimp only at hv ⊢
   obtain ⟨hps,hrm,hin,_,hhd⟩:=Kg hmv
   have hro:=hE.rule e he r hrm hin
   have hdo:=EM hE wb 4 0 rfl e r (er E.ms e.l run i r) q run he h1 h6 hro hps hq hr
   have hr2:=(mJ (ms:=E.ms) (ls:=E.ls) 4 e.l r (er E.ms e.l run i r) run).big hr
   refine W01 ?_
   refine nL Tryz.underlying190 rfl rfl rfl rfl ?_
   refine W0s ?_
   refine b7 (ke wb E q run) [] hdo rfl rfl (by rw [List.append_nil]) rfl fun c L1 ⟨q',g1,g2⟩=>?_
   subst g2
   refine W02 ?_
   exact aC (i,q',_) rfl ⟨rfl,trivial⟩ ⟨g1,hr2,by dsimp only;omega,hv⟩ (by dsimp only;omega) (fun _ _ h=>by rw [List.append_nil] at h;exact h)
 ·have hn0:n=0:=by have:=Nx h;omega
  subst hn0
  have hrun:run=lz E.ms E.ls e.l forms run0.length run0:=by rw [←hv,lz]
  repeat' (first|refine Ng ?_|fail)
  exact cD rfl ⟨q,by rw [←hrun];exact hq,by rw [←hrun];rfl⟩
end
theorem w3 (k:Int):bV Tryz.prog 34 [aK k] (dy (decide (1≤k∧k≤6))):=by
 refine aV Tryz.func34 rfl Tryz.ntmps34 rfl fun B=>?_
 repeat' (first|refine Ng ?_|refine NG a5 IG ?_|refine NN IG ?_|refine NO NB ?_|refine NR NA (fun _=>?_) (fun _=>?_))
 all_goals exact NM IG (by simp_all <;> omega)
instance (k:Int):AD Tryz.prog 34 [aK k] (dy (decide (1≤k∧k≤6))):=⟨w3 k⟩
section
variable {nt:Nat} {fr:cf} {B:Bs} {D:List Deferred}
theorem ul {t:Nat} {q:Option gV} {run:List bc} {Lf:AL} (hq:eG q run) (hl:cB fr t=some (fE q run)):lP nt D B fr (pR q run++Lf) ((t,.imm 6 (run.map cP))::fr) Lf:=by
 cases q with
 | none=>
  have he:=hq.emp rfl
  subst he
  exact bH hl fun σ v h=>h
 | some m=>
  obtain ⟨h1,h2,h3⟩:=hq.fit m rfl
  have hfl:=dT run
  have hcl:run.length * 6≤(ct run++m.junk).length:=by rw [List.length_append];omega
  have htk:(ct run++m.junk).take (run.length * 6)=(run.map cP).flatten:=by
   have:=pD run m.junk (Nat.le_refl _)
   rw [List.take_length] at this
   exact this
  exact mz (sz:=6) (n:=run.length) (cap:=m.cap) (l:=run.map cP) 0 hl rfl htk hcl (fun e he=>by obtain ⟨z,_,rfl⟩:=List.mem_map.1 he;rfl) (Nu ..) h1 h2
theorem p8 {t wb:Nat} {eng:AV} {q:Option gV} {run:List bc} {Lf:AL} (hq:eG q run) (hl:cB fr t=some (fE q run)):lP nt D B fr ((wb,.box [eng,fE q run] 102)::(pR q run++Lf)) ((t,.imm 6 (run.map cP))::fr) Lf:=fun σ a w ha hw=>
 ul hq hl σ a w ha (hw.sublist (List.sublist_cons_self ..))
end
section
variable {E:qV} (hE:pZ E)
include hE
set_option maxHeartbeats 8000000 in
theorem E5 (n:Int) (run:List bc) (hr:run.length≤1000000) (forms:List Int):AC Tryz.prog 18 [.iptr (eZ E),aK n,.imm 6 (run.map cP),.imm 1 (aW forms)] [eu] fun c L=>c= .imm 6 ((gj E.ms E.ls n run forms).map cP)∧L=[eu]:=by
 refine aV Tryz.func18 rfl Tryz.ntmps18 rfl fun B=>?_
 have hll:=tk E
 have hcl:=Es run hr
 refine W01 ?_
 refine b7 [] [eu] hcl rfl rfl (Nn _) rfl fun c L1 ⟨q,hq,hc,hL⟩=>?_
 subst hc;subst hL
 refine cr (u:= .agg [.iptr (eZ E),fE q run]) (nS a5 (by cases q <;> rfl)) rfl rfl ?_
 repeat' (first|refine Ng ?_|refine NG a5 IG ?_|refine wV (d:=15) fun _=>?_|fail)
 refine v7 Tryz.underlying34 rfl rfl rfl rfl ?_
 by_cases hin:0≤n∧n < E.lks.length
 ·obtain ⟨e,he⟩:∃e,E.lks[n.toNat]?=some e:=⟨_,Nz (by omega)⟩
  have heg:(E.lks.map gk)[n.toNat]?=some (gk e):=by simp [he]
  have hem:=Nw he
  refine cu [0,1,3,9] (¬(1≤e.l.Kind∧e.l.Kind≤6)) rfl (fun Q' K=>?_) (fun hC=>?_) (fun hC=>?_)
  ·repeat' (first|refine Ng ?_|refine NG a5 IG ?_|refine NN IG ?_|refine NO NB ?_|(apply aO;first|refine aN a5 ?_|refine aF a5 ?_)|(apply bA;refine bw ?_)|refine NR NA (fun _=>?_) (fun _=>?_))
   all_goals exact K _ _ rfl rfl (by simp_all <;> omega)
  ·have hv:gj E.ms E.ls n run forms=run:=by
    unfold gj
    rw [if_neg (by omega),List.getElem?_map,he]
    show (if e.l.Kind < 1∨6 < e.l.Kind then run else _)=run
    rw [if_pos (by omega)]
   rw [hv]
   refine W04 ?_
   refine bf (p8 (t:=8) hq rfl) ?_
   exact NM IG ⟨rfl,rfl⟩
  ·have hC:1≤e.l.Kind∧e.l.Kind≤6:=Classical.not_not.1 hC
   have hv:gj E.ms E.ls n run forms=if e.l.Kind=5 then lz E.ms E.ls e.l forms run.length run else AN E.ms E.ls e.l forms run.length 0 run:=by
    unfold gj
    rw [if_neg (by omega),List.getElem?_map,he]
    show (if e.l.Kind < 1∨6 < e.l.Kind then run else _)=_
    rw [if_neg (by omega)]
   rw [hv]
   rename_i wb _
   have hdn:=EN hE wb e hem hC.1 hC.2 forms q run hq hr
   have hon:=Ly hE wb e hem hC.1 hC.2 forms q run hq hr
   refine W0i ?_
   refine aj rfl (fun h5=>?_) (fun h5=>?_)
   ·rw [if_pos (Ny h5)]
    refine W0i ?_
    refine jZ (ke wb E q run) [] (kQ.fnB (f:=38) (fs:=[gT wb]) (caps:=[]) hdn) rfl rfl (by rw [List.append_nil];exact Nn _) rfl rfl fun c L1 ⟨q',g1,g2⟩=>?_
    subst g2
    refine W04 ?_
    refine bf (aQ (List.Perm.of_eq (List.append_nil _))) ?_
    refine bf (p8 (t:=8) g1 rfl) ?_
    exact NM IG ⟨rfl,rfl⟩
   ·rw [if_neg (Nx h5)]
    refine W0i ?_
    refine jZ (ke wb E q run) [] (kQ.fnB (f:=37) (fs:=[gT wb]) (caps:=[]) hon) rfl rfl (by rw [List.append_nil];exact Nn _) rfl rfl fun c L1 ⟨q',g1,g2⟩=>?_
    subst g2
    refine W04 ?_
    refine bf (aQ (List.Perm.of_eq (List.append_nil _))) ?_
    refine bf (p8 (t:=8) g1 rfl) ?_
    exact NM IG ⟨rfl,rfl⟩
 ·have hv:gj E.ms E.ls n run forms=run:=by
   unfold gj
   by_cases h0:n < 0
   ·rw [if_pos h0]
   ·rw [if_neg h0,List.getElem?_eq_none (by rw [Nu];omega)]
  rw [hv]
  refine cu [0,1,3,9] True rfl (fun Q' K=>?_) (fun hC=>?_) (fun hC=>absurd trivial hC)
  ·repeat' (first|refine Ng ?_|refine NG a5 IG ?_|refine NN IG ?_|refine NO NB ?_|refine NR NA (fun _=>?_) (fun _=>?_))
   all_goals first | exact K _ _ rfl rfl (by simp_all <;> omega) | (exfalso;simp_all <;> omega)
  ·refine W04 ?_
   refine bf (p8 (t:=8) hq rfl) ?_
   exact NM IG ⟨rfl,rfl⟩
end
def zw (ap:Int→List bc→List Int→List bc):List Int→List (List Int)→List bc→List bc
 | [],_,run=>run
 | n::ns,fs,run=>zw ap ns (fs.drop 1) (ap n run (fs.headD []))
structure J8 (u:AV) (ap:Int→List bc→List Int→List bc):Prop where
 ac:∀(n:Int) (run:List bc) (forms:List Int),run.length≤1000000→AC Tryz.prog 18 [u,aK n,.imm 6 (run.map cP),.imm 1 (aW forms)] [eu] fun c L=>c= .imm 6 ((ap n run forms).map cP)∧L=[eu]
 len:∀(n:Int) (run:List bc) (forms:List Int),run.length≤1000000→(ap n run forms).length≤1000000
theorem ve {ms:List Bool} {ls:List aY} {l:aY} {forms:List Int}:∀(k i:Nat) (run:List bc),hY run.length (AN ms ls l forms k i run).length
 | 0,_,_=>by unfold hY;rw [AN];omega
 | k+1,i,run=>by
  rw [AN]
  split
  ·split
   ·exact ve k (i+1) run
   ·exact (mJ 4 l _ _ run).trans (ve k _ _)
  ·unfold hY;omega
theorem px {ms:List Bool} {ls:List aY} {l:aY} {forms:List Int}:∀(k:Nat) (run:List bc),hY run.length (lz ms ls l forms k run).length
 | 0,_=>by unfold hY;rw [lz];omega
 | i+1,run=>by
  rw [lz]
  split
  ·exact px i run
  ·exact (mJ 4 l _ _ run).trans (px i _)
theorem y0 {ms:List Bool} {ls:List aY} {n:Int} {run:List bc} {forms:List Int}:hY run.length (gj ms ls n run forms).length:=by
 have hs:hY run.length run.length:=by unfold hY;omega
 unfold gj
 split
 ·exact hs
 ·split
  ·exact hs
  ·split
   ·exact hs
   ·split
    ·exact px _ _
    ·exact ve _ _ _
theorem M7 {E:qV} (hE:pZ E):J8 (.iptr (eZ E)) (gj E.ms E.ls):=⟨fun n run forms hr=>E5 hE n run hr forms,fun _ _ _ hr=>y0.big hr⟩
def Mf:AV→Bool
 | .iptr _=>true
 | .sc (.pointer none)=>true
 | _=>false
set_option maxHeartbeats 4000000 in
theorem Ic (cs:List AV) {ap:Int→List bc→List Int→List bc} (h:J8 (.iptr cs) ap) (ns:List Int) (fs:List (List Int)) (run:List bc) (hr:run.length≤1000000):AC Tryz.prog 22 [.iptr cs,.imm 1 (aW ns),.imm 1 (b6 fs),.imm 6 (run.map cP)] [eu] fun c L=>c= .imm 6 ((zw ap ns fs run).map cP)∧L=[eu]:=by
 refine aV Tryz.func22 rfl Tryz.ntmps22 rfl fun B=>?_
 refine cR 1 rfl rfl fun hlen=>?_
 have hcl:=Es run hr
 have hnl:=aJ ns
 rw [hnl] at hlen
 have hfl:=bO fs
 refine W01 ?_
 refine b7 [] [eu] hcl rfl rfl (Nn _) rfl fun c L1 ⟨q,hq,hc,hL⟩=>?_
 subst hc;subst hL
 refine W03 ?_
 refine bU (ul (t:=3) hq rfl) ?_
 refine aM [2,9,17,18] (α:=Nat×List bc) (fun s=>[(19,aK s.1),(3,.imm 6 (s.2.map cP))]) (fun s=>s.1≤ns.length∧s.2.length≤1000000∧zw ap (ns.drop s.1) (fs.drop s.1) s.2=zw ap ns fs run) (fun _=>[eu]) (fun s=>ns.length - s.1) (0,run) rfl ⟨rfl,rfl,trivial⟩ ⟨Nat.zero_le _,hr,rfl⟩ (fun _ _ h=>h) ?_
 rintro ⟨k,run1⟩ ⟨hk,hr1,hv⟩
 dsimp only at hk hr1 hv ⊢
 try dsimp only [Ns,Nr,Nq,Nk]
 refine W01 ?_
 refine aj rfl (fun h0=>?_) (fun h0=>?_)
 ·have hk2:k < ns.length:=by have:=Ny h0;omega
  obtain ⟨n,hn⟩:∃n,ns[k]?=some n:=⟨_,Nz hk2⟩
  have hng:=bK hn
  rw [List.drop_eq_getElem_cons hk2,(Np hn).2,zw,List.drop_drop] at hv
  clear h0
  refine W0a ?_
  refine aj rfl (fun h1=>?_) (fun h1=>?_)
  ·have hf:k < fs.length:=by have:=Ny h1;omega
   obtain ⟨f,hfg⟩:∃f,fs[k]?=some f:=⟨_,Nz hf⟩
   have hfgg:=fv hfg
   have hh:(fs.drop k).headD []=f:=by rw [List.drop_eq_getElem_cons hf,(Np hfg).2];rfl
   rw [hh] at hv
   have hap:=h.ac n run1 f hr1
   clear h1
   refine W0i ?_
   refine jZ [eu] [] (kQ.fnB (f:=18) (fs:=[.iptr cs]) (caps:=[]) hap) rfl rfl (Nn _) rfl rfl fun c L1 ⟨hc,hL⟩=>?_
   subst hc;subst hL
   refine W02 ?_
   exact aC (k+1,_) rfl ⟨by rw [Nv];rfl,rfl,trivial⟩ ⟨hk2,h.len _ _ _ hr1,hv⟩ (by dsimp only;omega) (fun _ _ h=>h)
  ·have hf:fs.length≤k:=by have:=Nx h1;omega
   have hh:(fs.drop k).headD []=[]:=by rw [List.drop_eq_nil_of_le hf];rfl
   rw [hh] at hv
   have hap:=AC.args (a:=[.iptr cs,aK n,.imm 6 (run1.map cP),.sc (.slice none 0 0)]) (h.ac n run1 [] hr1) ⟨d7.refl _,d7.refl _,d7.refl _,d7.nil 1,trivial⟩
   clear h1
   refine W01 ?_
   refine jZ [eu] [] (kQ.fnB (f:=18) (fs:=[.iptr cs]) (caps:=[]) hap) rfl rfl (Nn _) rfl rfl fun c L1 ⟨hc,hL⟩=>?_
   subst hc;subst hL
   refine W02 ?_
   exact aC (k+1,_) rfl ⟨by rw [Nv];rfl,rfl,trivial⟩ ⟨hk2,h.len _ _ _ hr1,hv⟩ (by dsimp only;omega) (fun _ _ h=>h)
 ·have hk2:k=ns.length:=by have:=Nx h0;omega
  subst hk2
  rw [List.drop_length] at hv
  have hv2:run1=zw ap ns fs run:=hv
  refine W01 ?_
  exact NM IG ⟨by rw [←hv2],rfl⟩
theorem jC {α:Type} {g:α→Nat} {k:Nat}:∀{l:List α} {m:Nat},m≤k→(∀x∈l,g x≤k)→l.foldl (fun m x=>max m (g x)) m≤k
 | [],_,h,_=>h
 | a::l,m,h,hl=>by
  rw [List.foldl_cons]
  exact jC (by have:=hl a (by simp);omega) fun x hx=>hl x (by simp [hx])
theorem Cm (rs:List bk):lb qx rs=tJ rs:=by
 funext n
 unfold lb tJ qx
 rfl
theorem y4 (rs:List bk) (gl:List Int):cE (fy (rs.map bk.Back) (lb rA rs) gl) (rs.map bk.Back).length=cE (fy (rs.map bk.Back) (fun _=>true) gl) (rs.map bk.Back).length:=by
 refine iK fun i=>?_
 rw [cC,cC]
 by_cases hi:i < (rs.map bk.Back).length
 ·rw [Nu] at hi
  congr 1
  unfold fy lb
  rw [List.getElem?_map,Nz hi]
  rfl
 ·rw [decide_eq_false hi,Bool.false_and,Bool.false_and]
def Ho (l:aY) (a:lM):qU:=⟨l,a.cls,a.fore,a.back,a.foreE,a.backE⟩
theorem xu {cls:List Int} {rows:List (List (List Int))} {hv:Nat→Bool} {C:Nat} {tab:List (List Int)} {ends:List Nat} (h:te cls rows hv C tab ends) (hr:rows.length≤6):∀z∈ends,z < 2 ^ 64:=by
 intro z hz
 obtain ⟨met,h0,h1,h2,h3,h4⟩:=h.met
 obtain ⟨i,hi⟩:=List.mem_iff_getElem?.1 hz
 have hil:=(Np hi).1
 obtain ⟨p,hp⟩:∃p,met[i]?=some p:=⟨_,Nz (by omega)⟩
 have:=h3 i p hp
 rw [hi] at this
 cases this
 unfold kw
 split
 ·exact Nat.pow_pos (by omega)
 ·refine Nat.lt_of_le_of_lt Nat.and_le_right ?_
  exact pt (by omega)
theorem H9 {N:Nat} {l:aY} (h:zS N l) {a:lM} (hb:zT N l.Rules a):lN (Ho l a):=by
 have hcs:∀z∈a.cls,z.toNat < (ij a.cls).toNat:=fun z hz=>by
  have h1:=hb.cls.dom z hz
  omega
 have hf:∀r∈l.Rules,(ep r).length≤200∧r.Back.length≤200:=fun r hr=>by
  have:=(h.rule r hr).long
  have:=me r
  omega
 refine ⟨h.few,⟨xu hb.fore (by rw [Nu];exact h.few),xu hb.back (by rw [Nu];exact h.few)⟩,fun gl=>?_,fun gl=>?_,?_,?_⟩
 ·have:=qI hb.cls (rows:=l.Rules.map ep) (fun eK hrow s hs=>?_) hb.fore hcs gl
  ·rw [Cm] at this
   exact this
  ·obtain ⟨r,hr,rfl⟩:=List.mem_map.1 hrow
   have hbr:=h.rule r hr
   refine ⟨List.mem_flatMap.2 ⟨r,hr,?_⟩,?_⟩
   ·rw [List.mem_append,List.mem_append]
    rcases mf hs with hs | hs
    ·exact .inl (.inr hs)
    ·exact .inr hs
   ·rcases mf hs with hs | hs
    ·exact (hbr.in_ s hs).2
    ·exact (hbr.ahead s hs).2
 ·have:=qI hb.cls (rows:=l.Rules.map bk.Back) (fun eK hrow s hs=>?_) hb.back hcs gl
  ·rw [y4] at this
   exact this
  ·obtain ⟨r,hr,rfl⟩:=List.mem_map.1 hrow
   exact ⟨List.mem_flatMap.2 ⟨r,hr,by rw [List.mem_append,List.mem_append];exact .inl (.inl hs)⟩,((h.rule r hr).back s hs).2⟩
 ·exact jC (by omega) fun r hr=>by have:=(h.rule r hr).long;show r.In.length+r.Ahead.length≤_;omega
 ·exact jC (by omega) fun r hr=>by have:=(h.rule r hr).long;show r.Back.length≤_;omega
theorem Er (l:List Int) (hl:l.length≤1000000):bV Tryz.prog 96 [.imm 1 (aW l)] (.imm 1 (aW l)):=by
 refine aV Tryz.func96 rfl Tryz.ntmps96 rfl fun B=>?_
 have hml:=aJ l
 refine W01 ?_
 refine v8 a5 rfl rfl rfl rfl rfl fun b hb=>?_
 repeat' (first|refine Ng ?_|fail)
 cases b with
 | true=>
  rw [hb rfl]
  refine W0s ?_
  refine bf (bH (t:=2) (c':= .imm 1 []) rfl fun σ v h=>jm 1 h) ?_
  exact NQ NA
 | false=>
  refine W1G ?_
  intros
  refine NS a5 [] NB (Nn _) (by rw [hml];simp;omega) (by rw [hml];simp;omega) rfl fun k'=>?_
  refine W01 ?_
  refine bf (bH (t:=2) (c':= .imm 1 (aW l)) rfl fun σ v h=>VR.im h) ?_
  refine ea (List.nil_sublist _) ?_
  exact NQ NA
theorem JJ (l:List jt) (hl:l.length≤1000000):bV Tryz.prog 97 [.imm 2 (l.map fj)] (.imm 2 (l.map fj)):=by
 refine aV Tryz.func97 rfl Tryz.ntmps97 rfl fun B=>?_
 have hml:(l.map fj).length=l.length:=Nu ..
 refine W01 ?_
 refine v8 a5 rfl rfl rfl rfl rfl fun b hb=>?_
 repeat' (first|refine Ng ?_|fail)
 cases b with
 | true=>
  rw [hb rfl]
  refine W0s ?_
  refine bf (bH (t:=2) (c':= .imm 2 []) rfl fun σ v h=>jm 2 h) ?_
  exact NQ NA
 | false=>
  refine W1G ?_
  intros
  refine NS a5 [] NB (Nn _) (by rw [hml];simp;omega) (by rw [hml];simp;omega) rfl fun k'=>?_
  refine W01 ?_
  refine bf (bH (t:=2) (c':= .imm 2 (l.map fj)) rfl fun σ v h=>VR.im h) ?_
  refine ea (List.nil_sublist _) ?_
  exact NQ NA
abbrev f3:AV:= .sc (.slice none 0 0)
def gZ {α:Type} (w:α→List AV) (z:List AV) (l:List α) (i:Nat):List (List AV):=(l.take i).map w++List.replicate (l.length - i) z
theorem rQ {α:Type} {w:α→List AV} {z:List AV} {l:List α}:gZ w z l 0=List.replicate l.length z:=by simp [gZ]
theorem tA {α:Type} {w:α→List AV} {z:List AV} {l:List α}:gZ w z l l.length=l.map w:=by simp [gZ]
theorem tD {α:Type} {w:α→List AV} {z:List AV} {l:List α} {i:Nat} {x:α} (h:l[i]?=some x):(gZ w z l i).set i (w x)=gZ w z l (i+1):=by
 have hi:=(Np h).1
 unfold gZ
 rw [List.set_append,if_neg (by rw [Nu,List.length_take];omega),Nu,List.length_take,Nat.min_eq_left (by omega),Nat.sub_self,show l.length - i=(l.length - (i+1))+1 by omega,List.replicate_succ,List.set_cons_zero,List.take_add_one,h]
 simp
theorem tC {α:Type} {w:α→List AV} {z:List AV} {l:List α} {i:Nat} (hi:i≤l.length):(gZ w z l i).length=l.length:=by
 unfold gZ
 rw [List.length_append,Nu,List.length_take,List.length_replicate]
 omega
theorem pC {sz:Nat}:∀{l:List (List AV)} {i:Nat} {e:List AV},(∀q∈l,q.length=sz)→e.length=sz→i < l.length→fS l.flatten (i * sz) e=(l.set i e).flatten
 | [],_,_,_,_,h=>by simp at h
 | q::l,0,e,hs,he,_=>by
  have hq:=hs q (by simp)
  rw [List.set_cons_zero,List.flatten_cons,List.flatten_cons,Nat.zero_mul]
  apply List.ext_getElem?
  intro j
  rw [i3 _ _ _ _ (by rw [List.length_append];omega)]
  by_cases hj:j < e.length
  ·rw [if_pos (by omega),Nat.sub_zero,List.getElem?_append_left hj]
  ·rw [if_neg (by omega),List.getElem?_append_right (by omega),List.getElem?_append_right (by omega),hq,he]
 | q::l,i+1,e,hs,he,h=>by
  have hq:=hs q (by simp)
  have ih:=pC (l:=l) (i:=i) (e:=e) (fun x hx=>hs x (by simp [hx])) he (by simpa using h)
  have hlen:i * sz+e.length≤l.flatten.length:=by
   have hl:l.flatten.length=l.length * sz:=fP l fun x hx=>hs x (by simp [hx])
   rw [hl,he]
   have:(i+1) * sz≤l.length * sz:=Nat.mul_le_mul_right _ (by simp at h;omega)
   rw [Nat.add_mul,Nat.one_mul] at this
   exact this
  rw [List.set_cons_succ,List.flatten_cons,List.flatten_cons,←ih]
  apply List.ext_getElem?
  intro j
  have e1:(i+1) * sz=i * sz+sz:=by rw [Nat.add_mul,Nat.one_mul]
  rw [i3 _ _ _ _ (by rw [List.length_append];omega),e1]
  by_cases hj:j < sz
  ·rw [if_neg (by omega),List.getElem?_append_left (by omega),List.getElem?_append_left (by omega)]
  ·rw [List.getElem?_append_right (by omega),List.getElem?_append_right (by omega),i3 _ _ _ _ hlen,hq]
   by_cases h2:i * sz≤j - sz∧j - sz < i * sz+e.length
   ·rw [if_pos h2,if_pos (by omega)]
    congr 1
    omega
   ·rw [if_neg h2,if_neg (by omega)]
set_option maxHeartbeats 4000000 in
theorem t1 (l:List (List Int)) (hl:l.length≤1000000) (hs:∀s∈l,s.length≤1000000):bV Tryz.prog 95 [.imm 1 (b6 l)] (.imm 1 (b6 l)):=by
 refine aV Tryz.func95 rfl Tryz.ntmps95 rfl fun B=>?_
 have hil:=bO l
 refine W01 ?_
 refine lg a5 l.length rfl rfl rfl rfl rfl (by rw [hil]) (by rw [hil]) (by omega) (by omega) rfl fun rb=>?_
 refine W03 ?_
 refine aM [3,9,10] (α:=Nat) (fun i=>[(11,aK i)]) (fun i=>i≤l.length) (fun i=>[(rb,.box (gZ (fun s=>[AV.imm 1 (aW s)]) [f3] l i).flatten 22)]) (fun i=>l.length - i) 0 rfl ⟨rfl,trivial⟩ (Nat.zero_le _) (fun _ _ hh=>by rw [rQ];exact hh) fun i hi=>?_
 try dsimp only [Ns,Nr,Nq,Nk]
 refine W01 ?_
 refine aj rfl (fun h1=>?_) (fun h1=>?_)
 ·have hi2:i < l.length:=by have:=Ny h1;omega
  obtain ⟨s,hsi⟩:∃z,l[i]?=some z:=⟨_,Nz hi2⟩
  have hsg:=fv hsi
  haveI:=AD.mk (Er s (hs s (Nw hsi)))
  have hsz:∀q∈gZ (fun s=>[AV.imm 1 (aW s)]) [f3] l i,q.length=1:=by
   intro q hq
   unfold gZ at hq
   rw [List.mem_append] at hq
   rcases hq with hq | hq
   ·obtain ⟨_,_,rfl⟩:=List.mem_map.1 hq;rfl
   ·rw [(List.mem_replicate.1 hq).2];rfl
  have hfl:=tC (w:=fun s=>[AV.imm 1 (aW s)]) (z:=[f3]) (l:=l) (i:=i) hi
  have hput:=pC (sz:=1) (l:=gZ (fun s=>[AV.imm 1 (aW s)]) [f3] l i) (i:=i) (e:=[AV.imm 1 (aW s)]) hsz rfl (by omega)
  rw [tD hsi] at hput
  have hfll:(gZ (fun s=>[AV.imm 1 (aW s)]) [f3] l i).flatten.length=l.length * 1:=by rw [fP _ hsz,hfl]
  clear h1
  refine W0w ?_
  refine NV a5 0 ND (Nat.ble_eq_true_of_le (by rw [hfll,Int.toNat_natCast];show 0+i * 1+1≤_;omega)) ?_
  refine W02 ?_
  refine aC (i+1) rfl ⟨by rw [Nv];rfl,trivial⟩ hi2 (by omega) (fun _ _ hh=>?_)
  rw [←hput]
  rw [Int.toNat_natCast,Nat.zero_add] at hh
  exact hh
 ·have hi2:i=l.length:=by have:=Nx h1;omega
  subst hi2
  rw [tA]
  clear h1
  refine W01 ?_
  have hml:(l.map fun s=>[AV.imm 1 (aW s)]).flatten.length=l.length * 1:=by rw [fP _ (sz:=1) (fun q hq=>by obtain ⟨_,_,rfl⟩:=List.mem_map.1 hq;rfl),Nu]
  refine bf (mz (t:=2) (sz:=1) (n:=l.length) (cap:=l.length) (l:=b6 l) 0 rfl rfl (by rw [List.take_of_length_le (by omega)];rfl) (by omega) (fun e he=>by unfold b6 at he;obtain ⟨_,_,rfl⟩:=List.mem_map.1 he;rfl) hil (Nat.le_refl _) (by unfold maxLen;omega)) ?_
  exact NQ NA
def k8 (r:bk):List AV:=[f3,.imm 1 (b6 r.In),f3,.imm 1 (aW r.Out),.imm 2 (r.Calls.map fj),aK r.X]
theorem GD (r:bk):mF (k8 r) (bI (fF r)):=⟨d7.nil 1,d7.refl _,d7.nil 1,d7.refl _,d7.refl _,d7.refl _,trivial⟩
theorem Bg {α:Type} {a b:α→List AV} (h:∀x,mF (a x) (b x)):∀(l:List α),Jg (l.map a) (l.map b)
 | []=>trivial
 | x::l=>⟨h x,Bg h l⟩
structure IE (r:bk):Prop where
 in_:r.In.length≤1000000∧∀s∈r.In,s.length≤1000000
 out:r.Out.length≤1000000
 calls:r.Calls.length≤1000000
set_option maxHeartbeats 8000000 in
theorem wg (l:aY) (hl:l.Rules.length≤1000000) (hr:∀r∈l.Rules,IE r):bV Tryz.prog 33 [.agg (br l)] (.agg (br (kc l))):=by
 refine aV Tryz.func33 rfl Tryz.ntmps33 rfl fun B=>?_
 have hml:(l.Rules.map bI).length=l.Rules.length:=Nu ..
 refine W0G ?_
 intros
 refine lg a5 l.Rules.length rfl rfl rfl rfl rfl (by rw [hml]) (by rw [hml]) (by omega) (by omega) rfl fun rb=>?_
 refine W03 ?_
 rename_i r2
 refine aM [1,2,3,11,12] (α:=Nat) (fun i=>[(13,aK i)]) (fun i=>i≤l.Rules.length) (fun i=>[(rb,.box (gZ k8 [f3,f3,f3,f3,f3,aK 0] l.Rules i).flatten 79),(r2,.box [aK 0,dy false,f3] 59)]) (fun i=>l.Rules.length - i) 0 rfl ⟨rfl,trivial⟩ (Nat.zero_le _) (fun _ _ hh=>by rw [rQ];exact hh) fun i hi=>?_
 try dsimp only [Ns,Nr,Nq,Nk]
 refine W01 ?_
 refine aj rfl (fun h1=>?_) (fun h1=>?_)
 ·have hi2:i < l.Rules.length:=by have:=Ny h1;omega
  obtain ⟨r,hri⟩:∃z,l.Rules[i]?=some z:=⟨_,Nz hi2⟩
  have hrg:(l.Rules.map bI)[i]?=some (bI r):=by simp [hri]
  have hcr:=hr r (Nw hri)
  haveI:=AD.mk (t1 r.In hcr.in_.1 hcr.in_.2)
  haveI:=AD.mk (Er r.Out hcr.out)
  haveI:=AD.mk (JJ r.Calls hcr.calls)
  have hsz:∀q∈gZ k8 [f3,f3,f3,f3,f3,aK 0] l.Rules i,q.length=6:=by
   intro q hq
   unfold gZ at hq
   rw [List.mem_append] at hq
   rcases hq with hq | hq
   ·obtain ⟨_,_,rfl⟩:=List.mem_map.1 hq;rfl
   ·rw [(List.mem_replicate.1 hq).2];rfl
  have hfl:=tC (w:=k8) (z:=[f3,f3,f3,f3,f3,aK 0]) (l:=l.Rules) (i:=i) hi
  have hput:=pC (sz:=6) (l:=gZ k8 [f3,f3,f3,f3,f3,aK 0] l.Rules i) (i:=i) (e:=k8 r) hsz rfl (by omega)
  rw [tD hri] at hput
  have hfll:(gZ k8 [f3,f3,f3,f3,f3,aK 0] l.Rules i).flatten.length=l.Rules.length * 6:=by rw [fP _ hsz,hfl]
  clear h1
  repeat' (first|refine Ng ?_|refine ak ?_|refine NG a5 IG ?_|(apply aO;first|refine aN a5 ?_|refine aF a5 ?_)|(apply aI;first|refine NI 5 a5 0 NF ?_|refine NI 5 a5 1 NF ?_|refine NI 5 a5 2 NF ?_|refine NH a5 0 NE ?_|refine NH a5 1 NE ?_|refine NH a5 2 NE ?_|refine NH a5 3 NE ?_|fail)|refine bn a5 fun _=>?_|fail)
  refine bv 14 [(0,.v),(1,.v),(2,.v),(3,.v),(4,.v),(5,.v),(6,.v),(7,.v),(8,.v),(9,.v),(10,.v),(11,.v),(12,.v),(13,.v)] none ?_ trivial rfl (by kernel_rfl) (by kernel_rfl) (by kernel_rfl) bQ (by kernel_rfl) rfl
  refine W0t ?_
  refine NP [1,2,3,11,12,13,18,19,31] IG ?_
  refine W0F ?_
  refine NV a5 0 ND (Nat.ble_eq_true_of_le (by rw [hfll,Int.toNat_natCast];show 0+i * 6+6≤_;omega)) ?_
  refine W02 ?_
  refine aC (i+1) rfl ⟨by rw [Nv];rfl,trivial⟩ hi2 (by omega) (fun _ _ hh=>?_)
  rw [←hput]
  rw [Int.toNat_natCast,Nat.zero_add] at hh
  exact hh
 ·have hi2:i=l.Rules.length:=by have:=Nx h1;omega
  subst hi2
  rw [tA]
  clear h1
  have hsz:∀q∈l.Rules.map k8,q.length=6:=fun q hq=>by obtain ⟨_,_,rfl⟩:=List.mem_map.1 hq;rfl
  have hml2:(l.Rules.map k8).flatten.length=l.Rules.length * 6:=by rw [fP _ hsz,Nu]
  refine bU (mz (t:=3) (sz:=6) (n:=l.Rules.length) (cap:=l.Rules.length) (l:=l.Rules.map k8) 0 rfl rfl (by rw [List.take_of_length_le (by omega)]) (by omega) hsz (Nu ..) (Nat.le_refl _) (by unfold maxLen;omega)) ?_
  refine bU (bH (t:=3) (c':= .imm 6 ((kc l).Rules.map bI)) rfl fun σ v h=>?_) ?_
  ·have e:(kc l).Rules.map bI=l.Rules.map fun r=>bI (fF r):=by unfold kc;rw [List.map_map];rfl
   rw [e]
   exact d7.imm (Bg GD l.Rules) σ v h
  repeat' (first|refine Ng ?_|refine NG a5 IG ?_|(apply aI;first|refine NI 5 a5 0 NF ?_|refine NI 5 a5 1 NF ?_|refine NI 5 a5 2 NF ?_|refine NH a5 0 NE ?_|refine NH a5 1 NE ?_|refine NH a5 2 NE ?_|refine NH a5 3 NE ?_|fail))
  exact gG (cs:=[.agg (br (kc l))]) [] ⟨⟨_,0,_,_,rfl,rfl,.inr ⟨eL a5 rfl,rfl⟩⟩,trivial⟩ (List.nil_sublist _) rfl
end
end Go.Proofs.YtpmdfoaadejmkaaGreatDoor
