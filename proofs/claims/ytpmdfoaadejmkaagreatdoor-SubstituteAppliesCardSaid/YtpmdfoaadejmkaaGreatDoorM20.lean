/-
  An engine's passes over a run: from one end to the other one.
-/
import Derived.Test.YtpmdfoaadejmkaaGreatDoorM19
import Derived.Test.YtpmdfoaadejmkaaGreatDoorM14
import Derived.Test.YtpmdfoaadejmkaaGreatDoorM17
namespace Go.Proofs.YtpmdfoaadejmkaaGreatDoor
open Go.RowKit
attribute [local irreducible] AT bI AX AO Av Kt bi dx DA cK
theorem qX {p:Nat} {q:List Nat}:(bW (p::q))[(((p::q).length:Int) - 1).toNat]?=some [aF ((p::q).getLastD p:Nat)]:=by
 have he:(p::q).getLastD p=(p::q).getLast (by simp):=by rw [List.getLastD_eq_getLast?,List.getLast?_eq_some_getLast (by simp)];rfl
 have hi:(((p::q).length:Int) - 1).toNat=(p::q).length - 1:=by omega
 rw [hi,he]
 unfold bW
 refine bP ?_
 rw [List.getElem?_map,←List.getLast?_eq_getElem?,List.getLast?_eq_some_getLast (by simp)]
 rfl
section
variable {E:pp} (hE:lV E) (wb:Nat)
include hE
set_option maxHeartbeats 8000000 in
theorem HV (e:po) (he:e∈E.lks) (h1:1≤e.l.Kind) (h6:e.l.Kind≤6) (forms:List Int) (q0:Option gc) (run0:List aJ) (hq0:dW q0 run0) (hr0:run0.length≤1000000):
  AC Tryz.prog 37 [g8 wb,.iptr (fA e),.imm 1 (aX forms)] (jn wb E q0 run0) (gD wb E (rI E.ms E.ls e.l forms run0.length 0 run0)):=by
 refine aM Tryz.func37 rfl Tryz.ntmps37 rfl fun B=>?_
 have hau:=hE.auto e he h1 h6
 repeat' (first|refine Ji ?_|refine am ?_|refine JF a5 H6 ?_)
 refine aP [0,1,2] (α:=Nat×Nat×Option gc×List aJ) (fun s=>[(6,aF s.1)]) (fun s=>dW s.2.2.1 s.2.2.2∧s.2.2.2.length≤1000000∧s.1≤1000001∧s.2.2.2.length - s.1≤s.2.1∧rI E.ms E.ls e.l forms s.2.1 s.1 s.2.2.2=rI E.ms E.ls e.l forms run0.length 0 run0) (fun s=>jn wb E s.2.2.1 s.2.2.2) (fun s=>s.2.1) (0,run0.length,q0,run0) rfl ⟨rfl,trivial⟩ ⟨hq0,hr0,by dsimp only;omega,by dsimp only;omega,rfl⟩ (fun _ _ h=>h) ?_
 rintro ⟨i,k,q,run⟩ ⟨hq,hr,hi1,hk,hv⟩
 dsimp only at hq hr hi1 hk hv ⊢
 try dsimp only [Js,Jr,Jq,Jl]
 repeat' (first|refine Ji ?_|refine JF a5 H6 ?_|(apply bE;first|refine JI a5 0 JC ?_|refine JI a5 1 JC ?_|refine JI a5 2 JC ?_|refine JI a5 3 JC ?_|refine JJ a5 0 JC ?_|refine JJ a5 1 JC ?_|refine JJ a5 2 JC ?_|refine JK a5 1 JA (by assumption) rfl ?_|refine JK a5 0 JA (by assumption) rfl ?_|fail)|fail)
 refine mt a5 rfl hq rfl rfl ?_
 repeat' (first|refine Ji ?_|refine JF a5 H6 ?_)
 refine ar rfl (fun h=>?_) (fun h=>?_)
 ·have hi:i < run.length:=by have:=Jy h;omega
  obtain ⟨k,rfl⟩:∃j,k=j+1:=⟨k - 1,by omega⟩
  rw [rI,if_pos hi] at hv
  have hma:=qO E e hau wb q run hq hr i (by omega) forms
  clear h
  repeat' (first|refine Ji ?_|refine am ?_|refine JF a5 H6 ?_)
  refine b8 (jn wb E q run) [] hma rfl rfl (by rw [List.append_nil];exact Jo _) rfl fun c L1 ⟨hc,hL⟩=>?_
  subst hc;subst hL
  unfold lg
  cases hmv:dQ E.ms e.l run i forms with
  | none=>
   rw [hmv] at hv
   dsimp only at hv ⊢
   repeat' (first|refine Ji ?_|refine JF a5 H6 ?_)
   refine qT Tryz.underlying190 rfl rfl rfl rfl ?_
   repeat' (first|refine Ji ?_|refine JF a5 H6 ?_|(apply aS;refine aR ?_)|refine bC rfl ?_)
   exact aC (i+1,k,q,run) rfl ⟨by rw [Jv];rfl,trivial⟩ ⟨hq,hr,by dsimp only;omega,by dsimp only;omega,hv⟩ (by dsimp only;omega) (fun _ _ h=>by rw [List.append_nil] at h;exact h)
  | some r=>
   rw [hmv] at hv
   dsimp only at hv ⊢
   obtain ⟨hps,hrm,hin,_,hhd⟩:=zR hmv
   have hro:=hE.rule e he r hrm hin
   have hdo:=BH hE wb 4 0 rfl e r (cW E.ms e.l run i r) q run he h1 h6 hro hps hq hr
   generalize cW E.ms e.l run i r=ps at *
   obtain ⟨p,ps',rfl⟩:=List.exists_cons_of_ne_nil hps.some_
   simp only [List.head?_cons,Option.some.injEq] at hhd
   subst hhd
   obtain ⟨l1,l2,l3⟩:=gP hps
   have hlg:=qX (p:=p) (q:=ps')
   have hnl:=dp (p::ps')
   have hlen:=io (ms:=E.ms) (ls:=E.ls) 4 e.l r (p::ps') run
   have hr2:=hlen.big hr
   have hleft:e.l.Kind≠4→run.length - 1 - (p::ps').getLastD p≤(fS E.ms E.ls 4 e.l r (p::ps') run).length:=fun h4=>BF h4 hps
   have hpl1:(p::ps').length=ps'.length+1:=rfl
   have hlen1:(1 < ((bW (p::ps')).length:Int))↔p < (p::ps').getLastD p:=by
    rw [hnl,hpl1,←l3,←List.length_pos_iff]
    omega
   have hpair:e.l.Kind=6→(fS E.ms E.ls 4 e.l r (p::ps') run).length=run.length:=fun h6=>by
    rw [fS]
    dsimp only
    rw [if_neg (by omega)]
    unfold dX
    rw [if_neg (by omega),if_neg (by omega),if_neg (by omega),if_pos h6]
    unfold kE
    split
    ·rw [List.length_set]
    ·rfl
   generalize fS E.ms E.ls 4 e.l r (p::ps') run=run2 at *
   generalize (p::ps').getLastD p=last at *
   repeat' (first|refine Ji ?_|refine JF a5 H6 ?_)
   refine qT Tryz.underlying190 rfl rfl rfl rfl ?_
   repeat' (first|refine Ji ?_|refine JF a5 H6 ?_|(apply aS;refine aR ?_)|refine bA rfl ?_)
   refine aN a5 ?_ (hl:=by rw [hnl];exact hlg) (h0:=by rw [hnl,hpl1];omega)
   repeat' (first|refine Ji ?_|refine JF a5 H6 ?_|(apply bE;first|refine JI a5 0 JC ?_|refine JI a5 1 JC ?_|refine JI a5 2 JC ?_|refine JI a5 3 JC ?_|refine JJ a5 0 JC ?_|refine JJ a5 1 JC ?_|refine JJ a5 2 JC ?_|refine JK a5 1 JA (by assumption) rfl ?_|refine JK a5 0 JA (by assumption) rfl ?_|fail)|fail)
   refine mt a5 rfl hq rfl rfl ?_
   repeat' (first|refine Ji ?_|refine JF a5 H6 ?_|(apply aS;refine aR ?_)|fail)
   refine b8 (jn wb E q run) [] hdo rfl rfl (by rw [List.append_nil]) rfl fun c L1 ⟨q',g1,g2⟩=>?_
   subst g2
   repeat' (first|refine Ji ?_|refine JF a5 H6 ?_|(apply bE;first|refine JI a5 0 JC ?_|refine JI a5 1 JC ?_|refine JI a5 2 JC ?_|refine JI a5 3 JC ?_|refine JJ a5 0 JC ?_|refine JJ a5 1 JC ?_|refine JJ a5 2 JC ?_|refine JK a5 1 JA (by assumption) rfl ?_|refine JK a5 0 JA (by assumption) rfl ?_|fail)|fail)
   refine mt a5 rfl g1 rfl rfl ?_
   repeat' (first|refine Ji ?_|refine am ?_|refine JF a5 H6 ?_|(apply aS;refine aR ?_)|fail)
   refine ar rfl (fun h4=>?_) (fun h4=>?_)
   ·have hk4:e.l.Kind=4:=Jy h4
    unfold jB at hv
    rw [if_pos hk4] at hv
    repeat' (first|refine Ji ?_|refine JF a5 H6 ?_|(apply aS;refine aR ?_)|fail)
    refine aC (max (run2.length - (run.length - 1 - last)) (p+1),k,q',run2) rfl ⟨?_,trivial⟩ ⟨g1,hr2,by dsimp only;omega,by dsimp only;omega,hv⟩ (by dsimp only;omega) (fun _ _ h=>by rw [List.append_nil] at h;exact h)
    show some (AV.sc (.int .i64 (max ((run2.length:Int) - ((run.length:Int) - 1 - last)) ((p:Int)+1))))=some (aF ((max (run2.length - (run.length - 1 - last)) (p+1):Nat):Int))
    rw [show max ((run2.length:Int) - ((run.length:Int) - 1 - last)) ((p:Int)+1)=((max (run2.length - (run.length - 1 - last)) (p+1):Nat):Int) by omega]
   ·have hk4:e.l.Kind≠4:=Jx h4
    have hlf:=hleft hk4
    repeat' (first|refine Ji ?_|refine JF a5 H6 ?_)
    refine bX [0,1,2,9,11] (e.l.Kind=6∧p < last) rfl (fun Q' K=>?_) (fun hC=>?_) (fun hC=>?_)
    ·repeat' (first|refine Ji ?_|refine JF a5 H6 ?_|refine JN H6 ?_|refine JO JB ?_|refine JR JA (fun _=>?_) (fun _=>?_))
     all_goals exact K _ _ rfl rfl (by rw [←hlen1];simp_all)
    ·unfold jB at hv
     rw [if_neg hk4,if_pos hC] at hv
     repeat' (first|refine Ji ?_|refine JF a5 H6 ?_)
     refine aC (last,k,q',run2) rfl ⟨rfl,trivial⟩ ⟨g1,hr2,by dsimp only;omega,by have:=hpair hC.1;dsimp only;omega,hv⟩ (by dsimp only;omega) (fun _ _ h=>by rw [List.append_nil] at h;exact h)
    ·unfold jB at hv
     rw [if_neg hk4,if_neg hC] at hv
     repeat' (first|refine Ji ?_|refine JF a5 H6 ?_)
     refine aC (run2.length - (run.length - 1 - last),k,q',run2) rfl ⟨?_,trivial⟩ ⟨g1,hr2,by dsimp only;omega,by dsimp only;omega,hv⟩ (by dsimp only;omega) (fun _ _ h=>by rw [List.append_nil] at h;exact h)
     show some (AV.sc (.int .i64 ((run2.length:Int) - ((run.length:Int) - 1 - last))))=some (aF ((run2.length - (run.length - 1 - last):Nat):Int))
     rw [show (run2.length:Int) - ((run.length:Int) - 1 - last)=((run2.length - (run.length - 1 - last):Nat):Int) by omega]
 ·have hi:run.length≤i:=by have:=Jx h;omega
  have hrun:run=rI E.ms E.ls e.l forms run0.length 0 run0:=by
   rw [←hv]
   cases k with
   | zero=>rw [rI]
   | succ k=>rw [rI,if_neg (by omega)]
  repeat' (first|refine Ji ?_|fail)
  exact cG rfl ⟨q,by rw [←hrun];exact hq,by rw [←hrun];rfl⟩
set_option maxHeartbeats 8000000 in
theorem BI (e:po) (he:e∈E.lks) (h1:1≤e.l.Kind) (h6:e.l.Kind≤6) (forms:List Int) (q0:Option gc) (run0:List aJ) (hq0:dW q0 run0) (hr0:run0.length≤1000000):
  AC Tryz.prog 38 [g8 wb,.iptr (fA e),.imm 1 (aX forms)] (jn wb E q0 run0) (gD wb E (gU E.ms E.ls e.l forms run0.length run0)):=by
 refine aM Tryz.func38 rfl Tryz.ntmps38 rfl fun B=>?_
 have hau:=hE.auto e he h1 h6
 repeat' (first|refine Ji ?_|refine JF a5 H6 ?_|(apply bE;first|refine JI a5 0 JC ?_|refine JI a5 1 JC ?_|refine JI a5 2 JC ?_|refine JI a5 3 JC ?_|refine JJ a5 0 JC ?_|refine JJ a5 1 JC ?_|refine JJ a5 2 JC ?_|refine JK a5 1 JA (by assumption) rfl ?_|refine JK a5 0 JA (by assumption) rfl ?_|fail)|fail)
 refine mt a5 rfl hq0 rfl rfl ?_
 repeat' (first|refine am ?_|refine Ji ?_|refine JF a5 H6 ?_|(apply aS;refine aR ?_)|fail)
 refine aP [0,1,2] (α:=Nat×Option gc×List aJ) (fun s=>[(6,aF ((s.1:Int) - 1))]) (fun s=>dW s.2.1 s.2.2∧s.2.2.length≤1000000∧s.1≤1000000∧gU E.ms E.ls e.l forms s.1 s.2.2=gU E.ms E.ls e.l forms run0.length run0) (fun s=>jn wb E s.2.1 s.2.2) (fun s=>s.1) (run0.length,q0,run0) rfl ⟨rfl,trivial⟩ ⟨hq0,hr0,hr0,rfl⟩ (fun _ _ h=>h) ?_
 rintro ⟨n,q,run⟩ ⟨hq,hr,hn1,hv⟩
 dsimp only at hq hr hn1 hv ⊢
 try dsimp only [Js,Jr,Jq,Jl]
 repeat' (first|refine Ji ?_|refine JF a5 H6 ?_)
 refine ar rfl (fun h=>?_) (fun h=>?_)
 ·have hn0:0 < n:=by have:=Jy h;omega
  obtain ⟨i,rfl⟩:∃j,n=j+1:=⟨n - 1,by omega⟩
  rw [gU] at hv
  have hi0:((i+1:Nat):Int) - 1=(i:Int):=by omega
  have hma:=qO E e hau wb q run hq hr i (by omega) forms
  clear h
  rw [hi0]
  repeat' (first|refine Ji ?_|refine am ?_|refine JF a5 H6 ?_)
  refine b8 (jn wb E q run) [] hma rfl rfl (by rw [List.append_nil];exact Jo _) rfl fun c L1 ⟨hc,hL⟩=>?_
  subst hc;subst hL
  unfold lg
  cases hmv:dQ E.ms e.l run i forms with
  | none=>
   rw [hmv] at hv
   dsimp only at hv ⊢
   repeat' (first|refine Ji ?_|refine JF a5 H6 ?_)
   refine tG Tryz.underlying190 rfl rfl rfl rfl ?_
   repeat' (first|refine Ji ?_|refine JF a5 H6 ?_|(apply aS;refine aR ?_)|refine bA rfl ?_)
   exact aC (i,q,run) rfl ⟨rfl,trivial⟩ ⟨hq,hr,by dsimp only;omega,hv⟩ (by dsimp only;omega) (fun _ _ h=>by rw [List.append_nil] at h;exact h)
  | some r=>
   rw [hmv] at hv
   dsimp only at hv ⊢
   obtain ⟨hps,hrm,hin,_,hhd⟩:=zR hmv
   have hro:=hE.rule e he r hrm hin
   have hdo:=BH hE wb 4 0 rfl e r (cW E.ms e.l run i r) q run he h1 h6 hro hps hq hr
   have hr2:=(io (ms:=E.ms) (ls:=E.ls) 4 e.l r (cW E.ms e.l run i r) run).big hr
   repeat' (first|refine Ji ?_|refine JF a5 H6 ?_)
   refine tG Tryz.underlying190 rfl rfl rfl rfl ?_
   repeat' (first|refine Ji ?_|refine JF a5 H6 ?_|refine bC rfl ?_)
   refine b8 (jn wb E q run) [] hdo rfl rfl (by rw [List.append_nil]) rfl fun c L1 ⟨q',g1,g2⟩=>?_
   subst g2
   repeat' (first|refine Ji ?_|refine JF a5 H6 ?_|(apply aS;refine aR ?_)|fail)
   exact aC (i,q',_) rfl ⟨rfl,trivial⟩ ⟨g1,hr2,by dsimp only;omega,hv⟩ (by dsimp only;omega) (fun _ _ h=>by rw [List.append_nil] at h;exact h)
 ·have hn0:n=0:=by have:=Jx h;omega
  subst hn0
  have hrun:run=gU E.ms E.ls e.l forms run0.length run0:=by rw [←hv,gU]
  repeat' (first|refine Ji ?_|fail)
  exact cG rfl ⟨q,by rw [←hrun];exact hq,by rw [←hrun];rfl⟩
end
end Go.Proofs.YtpmdfoaadejmkaaGreatDoor
namespace Go.Proofs.YtpmdfoaadejmkaaGreatDoor
open Go.RowKit
attribute [local irreducible] AT bI AX AO Av Kt bi dx DA cK
theorem um (k:Int):bJ Tryz.prog 34 [aF k] (dV (decide (1≤k∧k≤6))):=by
 refine aM Tryz.func34 rfl Tryz.ntmps34 rfl fun B=>?_
 repeat' (first|refine Ji ?_|refine JF a5 H6 ?_|refine JN H6 ?_|refine JO JB ?_|refine JR JA (fun _=>?_) (fun _=>?_))
 all_goals exact JL H6 (by simp_all <;> omega)
instance (k:Int):AD Tryz.prog 34 [aF k] (dV (decide (1≤k∧k≤6))):=⟨um k⟩
section
variable {nt:Nat} {fr:c7} {B:Bs} {D:List Deferred}
theorem sW {t:Nat} {q:Option gc} {run:List aJ} {Lf:AL} (hq:dW q run) (hl:cg fr t=some (eW q run)):mL nt D B fr (ot q run++Lf) ((t,.imm 6 (run.map aY))::fr) Lf:=by
 cases q with
 | none=>
  have he:=hq.emp rfl
  subst he
  exact bQ hl fun σ v h=>h
 | some m=>
  obtain ⟨h1,h2,h3⟩:=hq.fit m rfl
  have hfl:=dm run
  have hcl:run.length * 6≤(c9 run++m.junk).length:=by rw [List.length_append];omega
  have htk:(c9 run++m.junk).take (run.length * 6)=(run.map aY).flatten:=by
   have:=o7 run m.junk (Nat.le_refl _)
   rw [List.take_length] at this
   exact this
  exact lz (sz:=6) (n:=run.length) (cap:=m.cap) (l:=run.map aY) 0 hl rfl htk hcl (fun e he=>by obtain ⟨z,_,rfl⟩:=List.mem_map.1 he;rfl) (Ju ..) h1 h2
theorem nG {t wb:Nat} {eng:AV} {q:Option gc} {run:List aJ} {Lf:AL} (hq:dW q run) (hl:cg fr t=some (eW q run)):mL nt D B fr ((wb,.box [eng,eW q run] 102)::(ot q run++Lf)) ((t,.imm 6 (run.map aY))::fr) Lf:=fun σ a w ha hw=>
 sW hq hl σ a w ha (hw.sublist (List.sublist_cons_self ..))
end
section
variable {E:pp} (hE:lV E)
include hE
set_option maxHeartbeats 8000000 in
theorem Ba (n:Int) (run:List aJ) (hr:run.length≤1000000) (forms:List Int):AC Tryz.prog 18 [.iptr (ei E),aF n,.imm 6 (run.map aY),.imm 1 (aX forms)] [dU] fun c L=>c= .imm 6 ((d7 E.ms E.ls n run forms).map aY)∧L=[dU]:=by
 refine aM Tryz.func18 rfl Tryz.ntmps18 rfl fun B=>?_
 have hll:=rX E
 have hcl:=Bw run hr
 repeat' (first|refine Ji ?_|refine JF a5 H6 ?_)
 refine b8 [] [dU] hcl rfl rfl (Jo _) rfl fun c L1 ⟨q,hq,hc,hL⟩=>?_
 subst hc;subst hL
 repeat' (first|fail)
 refine ce (u:= .agg [.iptr (ei E),eW q run]) (mB a5 (by cases q <;> rfl)) rfl rfl ?_
 repeat' (first|refine Ji ?_|refine JF a5 H6 ?_|refine y8 (d:=15) fun _=>?_|fail)
 refine qT Tryz.underlying34 rfl rfl rfl rfl ?_
 by_cases hin:0≤n∧n < E.lks.length
 ·obtain ⟨e,he⟩:∃e,E.lks[n.toNat]?=some e:=⟨_,Jz (by omega)⟩
  have heg:(E.lks.map fA)[n.toNat]?=some (fA e):=by simp [he]
  have hem:=Jw he
  refine bX [0,1,3,9] (¬(1≤e.l.Kind∧e.l.Kind≤6)) rfl (fun Q' K=>?_) (fun hC=>?_) (fun hC=>?_)
  ·repeat' (first|refine Ji ?_|refine JF a5 H6 ?_|refine JN H6 ?_|refine JO JB ?_|(apply aO;first|refine aN a5 ?_|refine aG a5 ?_)|(apply bz;refine bo ?_)|refine JR JA (fun _=>?_) (fun _=>?_))
   all_goals exact K _ _ rfl rfl (by simp_all <;> omega)
  ·have hv:d7 E.ms E.ls n run forms=run:=by
    unfold d7
    rw [if_neg (by omega),List.getElem?_map,he]
    show (if e.l.Kind < 1∨6 < e.l.Kind then run else _)=run
    rw [if_pos (by omega)]
   rw [hv]
   repeat' (first|refine Ji ?_|refine JF a5 H6 ?_|(apply bE;first|refine JI a5 0 JC ?_|refine JI a5 1 JC ?_|refine JI a5 2 JC ?_|refine JI a5 3 JC ?_|refine JJ a5 0 JC ?_|refine JJ a5 1 JC ?_|refine JJ a5 2 JC ?_|refine JK a5 1 JA (by assumption) rfl ?_|refine JK a5 0 JA (by assumption) rfl ?_|fail)|fail)
   refine bk (nG (t:=8) hq rfl) ?_
   exact JL H6 ⟨rfl,rfl⟩
  ·have hC:1≤e.l.Kind∧e.l.Kind≤6:=Classical.not_not.1 hC
   have hv:d7 E.ms E.ls n run forms=if e.l.Kind=5 then gU E.ms E.ls e.l forms run.length run else rI E.ms E.ls e.l forms run.length 0 run:=by
    unfold d7
    rw [if_neg (by omega),List.getElem?_map,he]
    show (if e.l.Kind < 1∨6 < e.l.Kind then run else _)=_
    rw [if_neg (by omega)]
   rw [hv]
   rename_i wb _
   have hdn:=BI hE wb e hem hC.1 hC.2 forms q run hq hr
   have hon:=HV hE wb e hem hC.1 hC.2 forms q run hq hr
   repeat' (first|refine Ji ?_|refine JF a5 H6 ?_|(apply aO;first|refine aN a5 ?_|refine aG a5 ?_)|fail)
   refine ar rfl (fun h5=>?_) (fun h5=>?_)
   ·rw [if_pos (Jy h5)]
    repeat' (first|refine Ji ?_|refine JF a5 H6 ?_|(apply aO;first|refine aN a5 ?_|refine aG a5 ?_)|fail)
    refine ja (jn wb E q run) [] (jP.fnB (f:=38) (fs:=[g8 wb]) (caps:=[]) hdn) rfl rfl (by rw [List.append_nil];exact Jo _) rfl rfl fun c L1 ⟨q',g1,g2⟩=>?_
    subst g2
    repeat' (first|refine Ji ?_|refine JF a5 H6 ?_|(apply bE;first|refine JI a5 0 JC ?_|refine JI a5 1 JC ?_|refine JI a5 2 JC ?_|refine JI a5 3 JC ?_|refine JJ a5 0 JC ?_|refine JJ a5 1 JC ?_|refine JJ a5 2 JC ?_|refine JK a5 1 JA (by assumption) rfl ?_|refine JK a5 0 JA (by assumption) rfl ?_|fail)|fail)
    refine bk (aQ (List.Perm.of_eq (List.append_nil _))) ?_
    refine bk (nG (t:=8) g1 rfl) ?_
    exact JL H6 ⟨rfl,rfl⟩
   ·rw [if_neg (Jx h5)]
    repeat' (first|refine Ji ?_|refine JF a5 H6 ?_|(apply aO;first|refine aN a5 ?_|refine aG a5 ?_)|fail)
    refine ja (jn wb E q run) [] (jP.fnB (f:=37) (fs:=[g8 wb]) (caps:=[]) hon) rfl rfl (by rw [List.append_nil];exact Jo _) rfl rfl fun c L1 ⟨q',g1,g2⟩=>?_
    subst g2
    repeat' (first|refine Ji ?_|refine JF a5 H6 ?_|(apply bE;first|refine JI a5 0 JC ?_|refine JI a5 1 JC ?_|refine JI a5 2 JC ?_|refine JI a5 3 JC ?_|refine JJ a5 0 JC ?_|refine JJ a5 1 JC ?_|refine JJ a5 2 JC ?_|refine JK a5 1 JA (by assumption) rfl ?_|refine JK a5 0 JA (by assumption) rfl ?_|fail)|fail)
    refine bk (aQ (List.Perm.of_eq (List.append_nil _))) ?_
    refine bk (nG (t:=8) g1 rfl) ?_
    exact JL H6 ⟨rfl,rfl⟩
 ·have hv:d7 E.ms E.ls n run forms=run:=by
   unfold d7
   by_cases h0:n < 0
   ·rw [if_pos h0]
   ·rw [if_neg h0,List.getElem?_eq_none (by rw [Ju];omega)]
  rw [hv]
  refine bX [0,1,3,9] True rfl (fun Q' K=>?_) (fun hC=>?_) (fun hC=>absurd trivial hC)
  ·repeat' (first|refine Ji ?_|refine JF a5 H6 ?_|refine JN H6 ?_|refine JO JB ?_|refine JR JA (fun _=>?_) (fun _=>?_))
   all_goals first | exact K _ _ rfl rfl (by simp_all <;> omega) | (exfalso;simp_all <;> omega)
  ·repeat' (first|refine Ji ?_|refine JF a5 H6 ?_|(apply bE;first|refine JI a5 0 JC ?_|refine JI a5 1 JC ?_|refine JI a5 2 JC ?_|refine JI a5 3 JC ?_|refine JJ a5 0 JC ?_|refine JJ a5 1 JC ?_|refine JJ a5 2 JC ?_|refine JK a5 1 JA (by assumption) rfl ?_|refine JK a5 0 JA (by assumption) rfl ?_|fail)|fail)
   refine bk (nG (t:=8) hq rfl) ?_
   exact JL H6 ⟨rfl,rfl⟩
end
def xf (ap:Int→List aJ→List Int→List aJ):List Int→List (List Int)→List aJ→List aJ
 | [],_,run=>run
 | n::ns,fs,run=>xf ap ns (fs.drop 1) (ap n run (fs.headD []))
structure Ds (u:AV) (ap:Int→List aJ→List Int→List aJ):Prop where
 ac:∀(n:Int) (run:List aJ) (forms:List Int),run.length≤1000000→AC Tryz.prog 18 [u,aF n,.imm 6 (run.map aY),.imm 1 (aX forms)] [dU] fun c L=>c= .imm 6 ((ap n run forms).map aY)∧L=[dU]
 len:∀(n:Int) (run:List aJ) (forms:List Int),run.length≤1000000→(ap n run forms).length≤1000000
theorem tK {ms:List Bool} {ls:List aL} {l:aL} {forms:List Int}:∀(k i:Nat) (run:List aJ),fM run.length (rI ms ls l forms k i run).length
 | 0,_,_=>by unfold fM;rw [rI];omega
 | k+1,i,run=>by
  rw [rI]
  split
  ·split
   ·exact tK k (i+1) run
   ·exact (io 4 l _ _ run).trans (tK k _ _)
  ·unfold fM;omega
theorem nZ {ms:List Bool} {ls:List aL} {l:aL} {forms:List Int}:∀(k:Nat) (run:List aJ),fM run.length (gU ms ls l forms k run).length
 | 0,_=>by unfold fM;rw [gU];omega
 | i+1,run=>by
  rw [gU]
  split
  ·exact nZ i run
  ·exact (io 4 l _ _ run).trans (nZ i _)
theorem w7 {ms:List Bool} {ls:List aL} {n:Int} {run:List aJ} {forms:List Int}:fM run.length (d7 ms ls n run forms).length:=by
 have hs:fM run.length run.length:=by unfold fM;omega
 unfold d7
 split
 ·exact hs
 ·split
  ·exact hs
  ·split
   ·exact hs
   ·split
    ·exact nZ _ _
    ·exact tK _ _ _
theorem Ht {E:pp} (hE:lV E):Ds (.iptr (ei E)) (d7 E.ms E.ls):=⟨fun n run forms hr=>Ba hE n run hr forms,fun _ _ _ hr=>w7.big hr⟩
def Iv:AV→Bool
 | .iptr _=>true
 | .sc (.pointer none)=>true
 | _=>false
set_option maxHeartbeats 4000000 in
theorem EU (cs:List AV) {ap:Int→List aJ→List Int→List aJ} (h:Ds (.iptr cs) ap) (ns:List Int) (fs:List (List Int)) (run:List aJ) (hr:run.length≤1000000):AC Tryz.prog 22 [.iptr cs,.imm 1 (aX ns),.imm 1 (b9 fs),.imm 6 (run.map aY)] [dU] fun c L=>c= .imm 6 ((xf ap ns fs run).map aY)∧L=[dU]:=by
 refine aM Tryz.func22 rfl Tryz.ntmps22 rfl fun B=>?_
 refine cI 1 rfl rfl fun hlen=>?_
 have hcl:=Bw run hr
 have hnl:=aZ ns
 rw [hnl] at hlen
 have hfl:=cq fs
 repeat' (first|refine Ji ?_|refine JF a5 H6 ?_)
 refine b8 [] [dU] hcl rfl rfl (Jo _) rfl fun c L1 ⟨q,hq,hc,hL⟩=>?_
 subst hc;subst hL
 repeat' (first|refine Ji ?_|refine am ?_|refine JF a5 H6 ?_)
 refine c5 (sW (t:=3) hq rfl) ?_
 refine aP [2,9,17,18] (α:=Nat×List aJ) (fun s=>[(19,aF s.1),(3,.imm 6 (s.2.map aY))]) (fun s=>s.1≤ns.length∧s.2.length≤1000000∧xf ap (ns.drop s.1) (fs.drop s.1) s.2=xf ap ns fs run) (fun _=>[dU]) (fun s=>ns.length - s.1) (0,run) rfl ⟨rfl,rfl,trivial⟩ ⟨Nat.zero_le _,hr,rfl⟩ (fun _ _ h=>h) ?_
 rintro ⟨k,run1⟩ ⟨hk,hr1,hv⟩
 dsimp only at hk hr1 hv ⊢
 try dsimp only [Js,Jr,Jq,Jl]
 repeat' (first|refine Ji ?_|refine JF a5 H6 ?_)
 refine ar rfl (fun h0=>?_) (fun h0=>?_)
 ·have hk2:k < ns.length:=by have:=Jy h0;omega
  obtain ⟨n,hn⟩:∃n,ns[k]?=some n:=⟨_,Jz hk2⟩
  have hng:=bP hn
  rw [List.drop_eq_getElem_cons hk2,(Jp hn).2,xf,List.drop_drop] at hv
  clear h0
  repeat' (first|refine Ji ?_|refine am ?_|refine JF a5 H6 ?_|(apply aO;first|refine aN a5 ?_|refine aG a5 ?_)|fail)
  refine ar rfl (fun h1=>?_) (fun h1=>?_)
  ·have hf:k < fs.length:=by have:=Jy h1;omega
   obtain ⟨f,hfg⟩:∃f,fs[k]?=some f:=⟨_,Jz hf⟩
   have hfgg:=gI hfg
   have hh:(fs.drop k).headD []=f:=by rw [List.drop_eq_getElem_cons hf,(Jp hfg).2];rfl
   rw [hh] at hv
   have hap:=h.ac n run1 f hr1
   clear h1
   repeat' (first|refine Ji ?_|refine JF a5 H6 ?_|(apply aO;first|refine aN a5 ?_|refine aG a5 ?_)|fail)
   refine ja [dU] [] (jP.fnB (f:=18) (fs:=[.iptr cs]) (caps:=[]) hap) rfl rfl (Jo _) rfl rfl fun c L1 ⟨hc,hL⟩=>?_
   subst hc;subst hL
   repeat' (first|refine Ji ?_|refine JF a5 H6 ?_|(apply aS;refine aR ?_)|fail)
   exact aC (k+1,_) rfl ⟨by rw [Jv];rfl,rfl,trivial⟩ ⟨hk2,h.len _ _ _ hr1,hv⟩ (by dsimp only;omega) (fun _ _ h=>h)
  ·have hf:fs.length≤k:=by have:=Jx h1;omega
   have hh:(fs.drop k).headD []=[]:=by rw [List.drop_eq_nil_of_le hf];rfl
   rw [hh] at hv
   have hap:=AC.args (a:=[.iptr cs,aF n,.imm 6 (run1.map aY),.sc (.slice none 0 0)]) (h.ac n run1 [] hr1) ⟨cU.refl _,cU.refl _,cU.refl _,cU.nil 1,trivial⟩
   clear h1
   repeat' (first|refine Ji ?_|refine JF a5 H6 ?_)
   refine ja [dU] [] (jP.fnB (f:=18) (fs:=[.iptr cs]) (caps:=[]) hap) rfl rfl (Jo _) rfl rfl fun c L1 ⟨hc,hL⟩=>?_
   subst hc;subst hL
   repeat' (first|refine Ji ?_|refine JF a5 H6 ?_|(apply aS;refine aR ?_)|fail)
   exact aC (k+1,_) rfl ⟨by rw [Jv];rfl,rfl,trivial⟩ ⟨hk2,h.len _ _ _ hr1,hv⟩ (by dsimp only;omega) (fun _ _ h=>h)
 ·have hk2:k=ns.length:=by have:=Jx h0;omega
  subst hk2
  rw [List.drop_length] at hv
  have hv2:run1=xf ap ns fs run:=hv
  repeat' (first|refine Ji ?_|refine JF a5 H6 ?_)
  exact JL H6 ⟨by rw [←hv2],rfl⟩
end Go.Proofs.YtpmdfoaadejmkaaGreatDoor
namespace Go.Proofs.YtpmdfoaadejmkaaGreatDoor
open Go.RowKit
attribute [local irreducible] AT bI AX AO Av Kt bi dx DA cK
theorem iF {α:Type} {g:α→Nat} {k:Nat}:∀{l:List α} {m:Nat},m≤k→(∀x∈l,g x≤k)→l.foldl (fun m x=>max m (g x)) m≤k
 | [],_,h,_=>h
 | a::l,m,h,hl=>by
  rw [List.foldl_cons]
  exact iF (by have:=hl a (by simp);omega) fun x hx=>hl x (by simp [hx])
theorem zo (rs:List bc):kf oP rs=sg rs:=by
 funext n
 unfold kf sg oP
 rfl
theorem wa (rs:List bc) (gl:List Int):ck (eS (rs.map bc.Back) (kf pT rs) gl) (rs.map bc.Back).length=ck (eS (rs.map bc.Back) (fun _=>true) gl) (rs.map bc.Back).length:=by
 refine gT fun i=>?_
 rw [cj,cj]
 by_cases hi:i < (rs.map bc.Back).length
 ·rw [Ju] at hi
  congr 1
  unfold eS kf
  rw [List.getElem?_map,Jz hi]
  rfl
 ·rw [decide_eq_false hi,Bool.false_and,Bool.false_and]
def E8 (l:aL) (a:kM):po:=⟨l,a.cls,a.fore,a.back,a.foreE,a.backE⟩
theorem vC {cls:List Int} {rows:List (List (List Int))} {hv:Nat→Bool} {C:Nat} {tab:List (List Int)} {ends:List Nat} (h:rR cls rows hv C tab ends) (hr:rows.length≤6):∀z∈ends,z < 2 ^ 64:=by
 intro z hz
 obtain ⟨met,h0,h1,h2,h3,h4⟩:=h.met
 obtain ⟨i,hi⟩:=List.mem_iff_getElem?.1 hz
 have hil:=(Jp hi).1
 obtain ⟨p,hp⟩:∃p,met[i]?=some p:=⟨_,Jz (by omega)⟩
 have:=h3 i p hp
 rw [hi] at this
 cases this
 unfold jt
 split
 ·exact Nat.pow_pos (by omega)
 ·refine Nat.lt_of_le_of_lt Nat.and_le_right ?_
  exact nV (by omega)
theorem DU {N:Nat} {l:aL} (h:xr N l) {a:kM} (hb:xt N l.Rules a):kN (E8 l a):=by
 have hcs:∀z∈a.cls,z.toNat < (gA a.cls).toNat:=fun z hz=>by
  have h1:=hb.cls.dom z hz
  omega
 have hf:∀r∈l.Rules,(dJ r).length≤200∧r.Back.length≤200:=fun r hr=>by
  have:=(h.rule r hr).long
  have:=l6 r
  omega
 refine ⟨h.few,⟨vC hb.fore (by rw [Ju];exact h.few),vC hb.back (by rw [Ju];exact h.few)⟩,fun gl=>?_,fun gl=>?_,?_,?_⟩
 ·have:=pa hb.cls (rows:=l.Rules.map dJ) (fun eQ hrow s hs=>?_) hb.fore hcs gl
  ·rw [zo] at this
   exact this
  ·obtain ⟨r,hr,rfl⟩:=List.mem_map.1 hrow
   have hbr:=h.rule r hr
   refine ⟨List.mem_flatMap.2 ⟨r,hr,?_⟩,?_⟩
   ·rw [List.mem_append,List.mem_append]
    rcases l7 hs with hs | hs
    ·exact .inl (.inr hs)
    ·exact .inr hs
   ·rcases l7 hs with hs | hs
    ·exact (hbr.in_ s hs).2
    ·exact (hbr.ahead s hs).2
 ·have:=pa hb.cls (rows:=l.Rules.map bc.Back) (fun eQ hrow s hs=>?_) hb.back hcs gl
  ·rw [wa] at this
   exact this
  ·obtain ⟨r,hr,rfl⟩:=List.mem_map.1 hrow
   exact ⟨List.mem_flatMap.2 ⟨r,hr,by rw [List.mem_append,List.mem_append];exact .inl (.inl hs)⟩,((h.rule r hr).back s hs).2⟩
 ·exact iF (by omega) fun r hr=>by have:=(h.rule r hr).long;show r.In.length+r.Ahead.length≤_;omega
 ·exact iF (by omega) fun r hr=>by have:=(h.rule r hr).long;show r.Back.length≤_;omega
theorem Bv (l:List Int) (hl:l.length≤1000000):bJ Tryz.prog 96 [.imm 1 (aX l)] (.imm 1 (aX l)):=by
 refine aM Tryz.func96 rfl Tryz.ntmps96 rfl fun B=>?_
 have hml:=aZ l
 repeat' (first|refine Ji ?_|refine JF a5 H6 ?_)
 refine tE a5 rfl rfl rfl rfl rfl fun b hb=>?_
 repeat' (first|refine Ji ?_|fail)
 cases b with
 | true=>
  rw [hb rfl]
  repeat' (first|refine Ji ?_|refine JF a5 H6 ?_|refine bC rfl ?_)
  refine bk (bQ (t:=2) (c':= .imm 1 []) rfl fun σ v h=>it 1 h) ?_
  exact JM JA
 | false=>
  repeat' (first|refine Ji ?_|refine JF a5 H6 ?_|refine lj (d:=5) a5 fun _=>?_|refine bA rfl ?_)
  refine bK a5 [] rfl rfl rfl rfl (Jo _) (by rw [hml];simp;omega) (by rw [hml];simp;omega) rfl fun k'=>?_
  repeat' (first|refine Ji ?_|refine JF a5 H6 ?_)
  refine bk (bQ (t:=2) (c':= .imm 1 (aX l)) rfl fun σ v h=>VR.im h) ?_
  refine dT (List.nil_sublist _) ?_
  exact JM JA
theorem Gu (l:List gR) (hl:l.length≤1000000):bJ Tryz.prog 97 [.imm 2 (l.map eM)] (.imm 2 (l.map eM)):=by
 refine aM Tryz.func97 rfl Tryz.ntmps97 rfl fun B=>?_
 have hml:(l.map eM).length=l.length:=Ju ..
 repeat' (first|refine Ji ?_|refine JF a5 H6 ?_)
 refine tE a5 rfl rfl rfl rfl rfl fun b hb=>?_
 repeat' (first|refine Ji ?_|fail)
 cases b with
 | true=>
  rw [hb rfl]
  repeat' (first|refine Ji ?_|refine JF a5 H6 ?_|refine bC rfl ?_)
  refine bk (bQ (t:=2) (c':= .imm 2 []) rfl fun σ v h=>it 2 h) ?_
  exact JM JA
 | false=>
  repeat' (first|refine Ji ?_|refine JF a5 H6 ?_|refine lj (d:=5) a5 fun _=>?_|refine bA rfl ?_)
  refine bK a5 [] rfl rfl rfl rfl (Jo _) (by rw [hml];simp;omega) (by rw [hml];simp;omega) rfl fun k'=>?_
  repeat' (first|refine Ji ?_|refine JF a5 H6 ?_)
  refine bk (bQ (t:=2) (c':= .imm 2 (l.map eM)) rfl fun σ v h=>VR.im h) ?_
  refine dT (List.nil_sublist _) ?_
  exact JM JA
abbrev eC:AV:= .sc (.slice none 0 0)
def gj {α:Type} (w:α→List AV) (z:List AV) (l:List α) (i:Nat):List (List AV):=(l.take i).map w++List.replicate (l.length - i) z
theorem ql {α:Type} {w:α→List AV} {z:List AV} {l:List α}:gj w z l 0=List.replicate l.length z:=by simp [gj]
theorem s9 {α:Type} {w:α→List AV} {z:List AV} {l:List α}:gj w z l l.length=l.map w:=by simp [gj]
theorem sb {α:Type} {w:α→List AV} {z:List AV} {l:List α} {i:Nat} {x:α} (h:l[i]?=some x):(gj w z l i).set i (w x)=gj w z l (i+1):=by
 have hi:=(Jp h).1
 unfold gj
 rw [List.set_append,if_neg (by rw [Ju,List.length_take];omega),Ju,List.length_take,Nat.min_eq_left (by omega),Nat.sub_self,show l.length - i=(l.length - (i+1))+1 by omega,List.replicate_succ,List.set_cons_zero,List.take_add_one,h]
 simp
theorem sa {α:Type} {w:α→List AV} {z:List AV} {l:List α} {i:Nat} (hi:i≤l.length):(gj w z l i).length=l.length:=by
 unfold gj
 rw [List.length_append,Ju,List.length_take,List.length_replicate]
 omega
theorem o6 {sz:Nat}:∀{l:List (List AV)} {i:Nat} {e:List AV},(∀q∈l,q.length=sz)→e.length=sz→i < l.length→fi l.flatten (i * sz) e=(l.set i e).flatten
 | [],_,_,_,_,h=>by simp at h
 | q::l,0,e,hs,he,_=>by
  have hq:=hs q (by simp)
  rw [List.set_cons_zero,List.flatten_cons,List.flatten_cons,Nat.zero_mul]
  apply List.ext_getElem?
  intro j
  rw [gp _ _ _ _ (by rw [List.length_append];omega)]
  by_cases hj:j < e.length
  ·rw [if_pos (by omega),Nat.sub_zero,List.getElem?_append_left hj]
  ·rw [if_neg (by omega),List.getElem?_append_right (by omega),List.getElem?_append_right (by omega),hq,he]
 | q::l,i+1,e,hs,he,h=>by
  have hq:=hs q (by simp)
  have ih:=o6 (l:=l) (i:=i) (e:=e) (fun x hx=>hs x (by simp [hx])) he (by simpa using h)
  have hlen:i * sz+e.length≤l.flatten.length:=by
   have hl:l.flatten.length=l.length * sz:=fb l fun x hx=>hs x (by simp [hx])
   rw [hl,he]
   have:(i+1) * sz≤l.length * sz:=Nat.mul_le_mul_right _ (by simp at h;omega)
   rw [Nat.add_mul,Nat.one_mul] at this
   exact this
  rw [List.set_cons_succ,List.flatten_cons,List.flatten_cons,←ih]
  apply List.ext_getElem?
  intro j
  have e1:(i+1) * sz=i * sz+sz:=by rw [Nat.add_mul,Nat.one_mul]
  rw [gp _ _ _ _ (by rw [List.length_append];omega),e1]
  by_cases hj:j < sz
  ·rw [if_neg (by omega),List.getElem?_append_left (by omega),List.getElem?_append_left (by omega)]
  ·rw [List.getElem?_append_right (by omega),List.getElem?_append_right (by omega),gp _ _ _ _ hlen,hq]
   by_cases h2:i * sz≤j - sz∧j - sz < i * sz+e.length
   ·rw [if_pos h2,if_pos (by omega)]
    congr 1
    omega
   ·rw [if_neg h2,if_neg (by omega)]
set_option maxHeartbeats 4000000 in
theorem rD (l:List (List Int)) (hl:l.length≤1000000) (hs:∀s∈l,s.length≤1000000):bJ Tryz.prog 95 [.imm 1 (b9 l)] (.imm 1 (b9 l)):=by
 refine aM Tryz.func95 rfl Tryz.ntmps95 rfl fun B=>?_
 have hil:=cq l
 repeat' (first|refine Ji ?_|refine JF a5 H6 ?_)
 refine lm a5 l.length rfl rfl rfl rfl rfl (by rw [hil]) (by rw [hil]) (by omega) (by omega) rfl fun rb=>?_
 repeat' (first|refine Ji ?_|refine am ?_|refine JF a5 H6 ?_)
 refine aP [3,9,10] (α:=Nat) (fun i=>[(11,aF i)]) (fun i=>i≤l.length) (fun i=>[(rb,.box (gj (fun s=>[AV.imm 1 (aX s)]) [eC] l i).flatten 22)]) (fun i=>l.length - i) 0 rfl ⟨rfl,trivial⟩ (Nat.zero_le _) (fun _ _ hh=>by rw [ql];exact hh) fun i hi=>?_
 try dsimp only [Js,Jr,Jq,Jl]
 repeat' (first|refine Ji ?_|refine JF a5 H6 ?_)
 refine ar rfl (fun h1=>?_) (fun h1=>?_)
 ·have hi2:i < l.length:=by have:=Jy h1;omega
  obtain ⟨s,hsi⟩:∃z,l[i]?=some z:=⟨_,Jz hi2⟩
  have hsg:=gI hsi
  haveI:=AD.mk (Bv s (hs s (Jw hsi)))
  have hsz:∀q∈gj (fun s=>[AV.imm 1 (aX s)]) [eC] l i,q.length=1:=by
   intro q hq
   unfold gj at hq
   rw [List.mem_append] at hq
   rcases hq with hq | hq
   ·obtain ⟨_,_,rfl⟩:=List.mem_map.1 hq;rfl
   ·rw [(List.mem_replicate.1 hq).2];rfl
  have hfl:=sa (w:=fun s=>[AV.imm 1 (aX s)]) (z:=[eC]) (l:=l) (i:=i) hi
  have hput:=o6 (sz:=1) (l:=gj (fun s=>[AV.imm 1 (aX s)]) [eC] l i) (i:=i) (e:=[AV.imm 1 (aX s)]) hsz rfl (by omega)
  rw [sb hsi] at hput
  have hfll:(gj (fun s=>[AV.imm 1 (aX s)]) [eC] l i).flatten.length=l.length * 1:=by rw [fb _ hsz,hfl]
  clear h1
  repeat' (first|refine Ji ?_|refine am ?_|refine JF a5 H6 ?_|(apply aO;first|refine aN a5 ?_|refine aG a5 ?_)|(apply bz;refine bo ?_)|fail)
  refine aa a5 0 rfl rfl rfl rfl rfl rfl (Nat.ble_eq_true_of_le (by rw [hfll,Int.toNat_natCast];show 0+i * 1+1≤_;omega)) ?_
  repeat' (first|refine Ji ?_|refine JF a5 H6 ?_|(apply aS;refine aR ?_)|fail)
  refine aC (i+1) rfl ⟨by rw [Jv];rfl,trivial⟩ hi2 (by omega) (fun _ _ hh=>?_)
  rw [←hput]
  rw [Int.toNat_natCast,Nat.zero_add] at hh
  exact hh
 ·have hi2:i=l.length:=by have:=Jx h1;omega
  subst hi2
  rw [s9]
  clear h1
  repeat' (first|refine Ji ?_|refine JF a5 H6 ?_)
  have hml:(l.map fun s=>[AV.imm 1 (aX s)]).flatten.length=l.length * 1:=by rw [fb _ (sz:=1) (fun q hq=>by obtain ⟨_,_,rfl⟩:=List.mem_map.1 hq;rfl),Ju]
  refine bk (lz (t:=2) (sz:=1) (n:=l.length) (cap:=l.length) (l:=b9 l) 0 rfl rfl (by rw [List.take_of_length_le (by omega)];rfl) (by omega) (fun e he=>by unfold b9 at he;obtain ⟨_,_,rfl⟩:=List.mem_map.1 he;rfl) hil (Nat.le_refl _) (by unfold maxLen;omega)) ?_
  exact JM JA
def jh (r:bc):List AV:=[eC,.imm 1 (b9 r.In),eC,.imm 1 (aX r.Out),.imm 2 (r.Calls.map eM),aF r.X]
theorem Do (r:bc):mH (jh r) (bB (eY r)):=⟨cU.nil 1,cU.refl _,cU.nil 1,cU.refl _,cU.refl _,cU.refl _,trivial⟩
theorem yt {α:Type} {a b:α→List AV} (h:∀x,mH (a x) (b x)):∀(l:List α),FZ (l.map a) (l.map b)
 | []=>trivial
 | x::l=>⟨h x,yt h l⟩
structure Fk (r:bc):Prop where
 in_:r.In.length≤1000000∧∀s∈r.In,s.length≤1000000
 out:r.Out.length≤1000000
 calls:r.Calls.length≤1000000
set_option maxHeartbeats 8000000 in
theorem uB (l:aL) (hl:l.Rules.length≤1000000) (hr:∀r∈l.Rules,Fk r):bJ Tryz.prog 33 [.agg (bh l)] (.agg (bh (jm l))):=by
 refine aM Tryz.func33 rfl Tryz.ntmps33 rfl fun B=>?_
 have hml:(l.Rules.map bB).length=l.Rules.length:=Ju ..
 repeat' (first|refine Ji ?_|refine JF a5 H6 ?_|refine bf ?_|refine bj a5 fun _=>?_|fail)
 refine lm a5 l.Rules.length rfl rfl rfl rfl rfl (by rw [hml]) (by rw [hml]) (by omega) (by omega) rfl fun rb=>?_
 repeat' (first|refine Ji ?_|refine am ?_|refine JF a5 H6 ?_)
 rename_i r2
 refine aP [1,2,3,11,12] (α:=Nat) (fun i=>[(13,aF i)]) (fun i=>i≤l.Rules.length) (fun i=>[(rb,.box (gj jh [eC,eC,eC,eC,eC,aF 0] l.Rules i).flatten 79),(r2,.box [aF 0,dV false,eC] 59)]) (fun i=>l.Rules.length - i) 0 rfl ⟨rfl,trivial⟩ (Nat.zero_le _) (fun _ _ hh=>by rw [ql];exact hh) fun i hi=>?_
 try dsimp only [Js,Jr,Jq,Jl]
 repeat' (first|refine Ji ?_|refine JF a5 H6 ?_)
 refine ar rfl (fun h1=>?_) (fun h1=>?_)
 ·have hi2:i < l.Rules.length:=by have:=Jy h1;omega
  obtain ⟨r,hri⟩:∃z,l.Rules[i]?=some z:=⟨_,Jz hi2⟩
  have hrg:(l.Rules.map bB)[i]?=some (bB r):=by simp [hri]
  have hcr:=hr r (Jw hri)
  haveI:=AD.mk (rD r.In hcr.in_.1 hcr.in_.2)
  haveI:=AD.mk (Bv r.Out hcr.out)
  haveI:=AD.mk (Gu r.Calls hcr.calls)
  have hsz:∀q∈gj jh [eC,eC,eC,eC,eC,aF 0] l.Rules i,q.length=6:=by
   intro q hq
   unfold gj at hq
   rw [List.mem_append] at hq
   rcases hq with hq | hq
   ·obtain ⟨_,_,rfl⟩:=List.mem_map.1 hq;rfl
   ·rw [(List.mem_replicate.1 hq).2];rfl
  have hfl:=sa (w:=jh) (z:=[eC,eC,eC,eC,eC,aF 0]) (l:=l.Rules) (i:=i) hi
  have hput:=o6 (sz:=6) (l:=gj jh [eC,eC,eC,eC,eC,aF 0] l.Rules i) (i:=i) (e:=jh r) hsz rfl (by omega)
  rw [sb hri] at hput
  have hfll:(gj jh [eC,eC,eC,eC,eC,aF 0] l.Rules i).flatten.length=l.Rules.length * 6:=by rw [fb _ hsz,hfl]
  clear h1
  repeat' (first|refine Ji ?_|refine am ?_|refine JF a5 H6 ?_|(apply aO;first|refine aN a5 ?_|refine aG a5 ?_)|(apply aK;first|refine JH 5 a5 0 JE ?_|refine JH 5 a5 1 JE ?_|refine JH 5 a5 2 JE ?_|refine JG a5 0 JD ?_|refine JG a5 1 JD ?_|refine JG a5 2 JD ?_|refine JG a5 3 JD ?_|fail)|refine bj a5 fun _=>?_|fail)
  refine bw 14 [(0,.v),(1,.v),(2,.v),(3,.v),(4,.v),(5,.v),(6,.v),(7,.v),(8,.v),(9,.v),(10,.v),(11,.v),(12,.v),(13,.v)] none ?_ trivial rfl (by kernel_rfl) (by kernel_rfl) (by kernel_rfl) bR (by kernel_rfl) rfl
  repeat' (first|refine aD ?_|refine b7 a5 ?_|(apply cQ;refine dg ?_)|fail)
  refine JQ [1,2,3,11,12,13,18,19,31] H6 ?_
  repeat' (first|(apply aO;first|refine aN a5 ?_|refine aG a5 ?_)|fail)
  refine aa a5 0 rfl rfl rfl rfl rfl rfl (Nat.ble_eq_true_of_le (by rw [hfll,Int.toNat_natCast];show 0+i * 6+6≤_;omega)) ?_
  repeat' (first|refine Ji ?_|refine JF a5 H6 ?_|(apply aS;refine aR ?_)|fail)
  refine aC (i+1) rfl ⟨by rw [Jv];rfl,trivial⟩ hi2 (by omega) (fun _ _ hh=>?_)
  rw [←hput]
  rw [Int.toNat_natCast,Nat.zero_add] at hh
  exact hh
 ·have hi2:i=l.Rules.length:=by have:=Jx h1;omega
  subst hi2
  rw [s9]
  clear h1
  have hsz:∀q∈l.Rules.map jh,q.length=6:=fun q hq=>by obtain ⟨_,_,rfl⟩:=List.mem_map.1 hq;rfl
  have hml2:(l.Rules.map jh).flatten.length=l.Rules.length * 6:=by rw [fb _ hsz,Ju]
  refine c5 (lz (t:=3) (sz:=6) (n:=l.Rules.length) (cap:=l.Rules.length) (l:=l.Rules.map jh) 0 rfl rfl (by rw [List.take_of_length_le (by omega)]) (by omega) hsz (Ju ..) (Nat.le_refl _) (by unfold maxLen;omega)) ?_
  refine c5 (bQ (t:=3) (c':= .imm 6 ((jm l).Rules.map bB)) rfl fun σ v h=>?_) ?_
  ·have e:(jm l).Rules.map bB=l.Rules.map fun r=>bB (eY r):=by unfold jm;rw [List.map_map];rfl
   rw [e]
   exact cU.imm (yt Do l.Rules) σ v h
  repeat' (first|refine Ji ?_|refine JF a5 H6 ?_|(apply aK;first|refine JH 5 a5 0 JE ?_|refine JH 5 a5 1 JE ?_|refine JH 5 a5 2 JE ?_|refine JG a5 0 JD ?_|refine JG a5 1 JD ?_|refine JG a5 2 JD ?_|refine JG a5 3 JD ?_|fail))
  exact ij (cs:=[.agg (bh (jm l))]) [] ⟨⟨_,0,_,_,rfl,rfl,.inr ⟨eK a5 rfl,rfl⟩⟩,trivial⟩ (List.nil_sublist _) rfl
end Go.Proofs.YtpmdfoaadejmkaaGreatDoor
