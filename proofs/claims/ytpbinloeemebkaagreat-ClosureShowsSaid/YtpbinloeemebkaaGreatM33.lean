/-
  The program's rules: a lookup at all places, from one end to the other one.
-/
import Derived.Test.YtpbinloeemebkaaGreatM32
import Derived.Test.YtpbinloeemebkaaGreatM28
import Derived.Test.YtpbinloeemebkaaGreatM26
namespace Go.Proofs.YtpbinloeemebkaaGreat
open Go.RowKit
attribute [local irreducible] AT bO AX AO Av Kt bo dU DA cT
section
variable {f:aL} (hf:lG f) (wb mb:Nat)
include hf
set_option maxHeartbeats 8000000 in
theorem Ah (z:Nat) (l:aP) (hl:f.Lookups[z]?=some l) (h5:l.Kind=5) (forms:List Int) (q0:Option fy) (run0:List b6) (mp0:Value→Option AV) (hq0:di q0 run0) (hr0:run0.length≤1000000) (hmp0:fI f mp0):
  AC Tryz.prog 49 [gI wb,aH z,.imm 1 (aS forms)] (oS wb f mb q0 run0 mp0) (i8 wb f mb (iV (aW f) f.Lookups l forms run0.length run0)):=by
 refine aT Tryz.func49 rfl Tryz.ntmps49 rfl fun B=>?_
 have hlm:=Hw hl
 repeat' (first|refine go ?_|refine HF a1 F8 ?_)
 refine bb (oS wb f mb q0 run0 mp0) [] (kY hf mp0 hmp0 z l hl q0 run0) rfl rfl (bB rfl) rfl fun c1 L1 ⟨hc1,mp1,hmp1,hL⟩=>?_
 subst hc1;subst hL
 rw [List.append_nil]
 refine aV (aJ (qk hf)) ?_
 repeat' (first|refine go ?_|refine HF a1 F8 ?_|(apply bh;first|refine HJ a1 0 HC ?_|refine HJ a1 1 HC ?_|refine HJ a1 2 HC ?_|refine HJ a1 3 HC ?_|refine HK a1 0 HC ?_|refine HK a1 1 HC ?_|refine HK a1 2 HC ?_|refine HM a1 1 HA (by assumption) rfl ?_|refine HM a1 0 HA (by assumption) rfl ?_|fail)|fail)
 refine qb a1 rfl hq0 rfl rfl ?_
 repeat' (first|refine ak ?_|refine go ?_|refine HF a1 F8 ?_|(apply aZ;refine aY ?_)|fail)
 refine aR [0,1,2,6] (α:=Nat×Option fy×List b6×(Value→Option AV)) (fun s=>[(7,aH ((s.1:Int) - 1))]) (fun s=>di s.2.1 s.2.2.1∧s.2.2.1.length≤1000000∧fI f s.2.2.2∧s.1≤s.2.2.1.length∧iV (aW f) f.Lookups l forms s.1 s.2.2.1=iV (aW f) f.Lookups l forms run0.length run0) (fun s=>oS wb f mb s.2.1 s.2.2.1 s.2.2.2) (fun s=>s.1) (run0.length,q0,run0,mp1) rfl ⟨rfl,trivial⟩ ⟨hq0,hr0,hmp1,Nat.le_refl _,rfl⟩ (fun _ _ h=>h) ?_
 rintro ⟨n,q,run,mp⟩ ⟨hq,hr,hmp,hn1,hv⟩
 dsimp only at hq hr hmp hn1 hv ⊢
 try dsimp only [Hs,Hr,Hq,Hl]
 repeat' (first|refine go ?_|refine HF a1 F8 ?_)
 refine ay rfl (fun h=>?_) (fun h=>?_)
 ·have hn0:0 < n:=by have:=Hy h;omega
  obtain ⟨i,rfl⟩:∃j,n=j+1:=⟨n - 1,by omega⟩
  rw [iV] at hv
  have hi0:((i+1:Nat):Int) - 1=(i:Int):=by omega
  have hma:=nV hf (wb:=wb) (v:=kV mb) l hlm q run hq hr i hn1 forms
  clear h
  rw [hi0]
  repeat' (first|refine go ?_|refine ak ?_|refine HF a1 F8 ?_)
  refine bb (dZ wb f (kV mb) q run) [mQ mb mp] hma rfl rfl (Ho _) rfl fun c1 L1 ⟨hc1,hL⟩=>?_
  subst hc1;subst hL
  unfold pY
  cases hmn:jU (aW f) l run i forms with
  | none=>
   rw [kW hmn] at hv
   dsimp only at hv ⊢
   repeat' (first|refine go ?_|refine HF a1 F8 ?_|(apply aZ;refine aY ?_)|refine bL rfl ?_)
   exact aF (i,q,run,mp) rfl ⟨rfl,trivial⟩ ⟨hq,hr,hmp,by dsimp only;omega,hv⟩ (by dsimp only;omega) (fun _ _ h=>h)
  | some mr=>
   obtain ⟨r,hm,hmv⟩:=kX hmn
   rw [hmv] at hv
   dsimp only at hv ⊢
   rw [hm]
   simp only [Option.map_some,Option.getD_some]
   rw [show (dy (aW f) l.Ignore run i).take r.In.length=dw (aW f) l run i r from rfl]
   obtain ⟨hps,hrm,hin,_,hhd⟩:=EZ hmv
   generalize dw (aW f) l run i r=ps at *
   have hd2:=DO hf (wb:=wb) (mb:=mb) 4 0 rfl z l mr r ps q run mp hl hm (by omega) (by omega) (hf.ruleO hlm hrm hin) hps hq hr hmp
   have hr2:=(ln (ms:=aW f) (ls:=f.Lookups) 4 l r ps run).big hr
   have hln:=Ae (ms:=aW f) (ls:=f.Lookups) (k:=4) h5 (r:=r) (ps:=ps) (run:=run)
   generalize iU (aW f) f.Lookups 4 l r ps run=R at *
   repeat' (first|refine go ?_|refine HF a1 F8 ?_|refine bR rfl ?_)
   refine bb (oS wb f mb q run mp) [] hd2 rfl rfl (bB rfl) rfl fun c1 L1 ⟨q2,mp3,k1,k2,k3⟩=>?_
   subst k3
   rw [List.append_nil]
   repeat' (first|refine go ?_|refine HF a1 F8 ?_|(apply aZ;refine aY ?_)|fail)
   exact aF (i,q2,R,mp3) rfl ⟨rfl,trivial⟩ ⟨k1,hr2,k2,by dsimp only;omega,hv⟩ (by dsimp only;omega) (fun _ _ h=>h)
 ·have hn0:n=0:=by have:=Hx h;omega
  subst hn0
  have hrun:run=iV (aW f) f.Lookups l forms run0.length run0:=by rw [←hv,iV]
  repeat' (first|refine go ?_|fail)
  exact ce rfl ⟨q,mp,by rw [←hrun];exact hq,hmp,by rw [←hrun];rfl⟩
set_option maxHeartbeats 8000000 in
theorem EV (z:Nat) (l:aP) (hl:f.Lookups[z]?=some l) (h1:1≤l.Kind) (h6:l.Kind≤6) (forms:List Int) (q0:Option fy) (run0:List b6) (mp0:Value→Option AV) (hq0:di q0 run0) (hr0:run0.length≤1000000) (hmp0:fI f mp0):
  AC Tryz.prog 50 [gI wb,aH z,.imm 1 (aS forms)] (oS wb f mb q0 run0 mp0) (i8 wb f mb (uN (aW f) f.Lookups l forms run0.length 0 run0)):=by
 refine aT Tryz.func50 rfl Tryz.ntmps50 rfl fun B=>?_
 have hlm:=Hw hl
 have hlg:=bA (c:=bF) hl
 repeat' (first|refine go ?_|refine HF a1 F8 ?_)
 refine bb (oS wb f mb q0 run0 mp0) [] (kY hf mp0 hmp0 z l hl q0 run0) rfl rfl (bB rfl) rfl fun c1 L1 ⟨hc1,mp1,hmp1,hL⟩=>?_
 subst hc1;subst hL
 rw [List.append_nil]
 refine aV (aJ (qk hf)) ?_
 repeat' (first|refine go ?_|refine ak ?_|refine HF a1 F8 ?_)
 refine aR [0,1,2,6] (α:=Nat×Nat×Option fy×List b6×(Value→Option AV)) (fun s=>[(7,aH s.1)]) (fun s=>di s.2.2.1 s.2.2.2.1∧s.2.2.2.1.length≤1000000∧fI f s.2.2.2.2∧s.1≤1000001∧s.2.2.2.1.length - s.1≤s.2.1∧uN (aW f) f.Lookups l forms s.2.1 s.1 s.2.2.2.1=uN (aW f) f.Lookups l forms run0.length 0 run0) (fun s=>oS wb f mb s.2.2.1 s.2.2.2.1 s.2.2.2.2) (fun s=>s.2.1) (0,run0.length,q0,run0,mp1) rfl ⟨rfl,trivial⟩ ⟨hq0,hr0,hmp1,by dsimp only;omega,by dsimp only;omega,rfl⟩ (fun _ _ h=>h) ?_
 rintro ⟨i,k,q,run,mp⟩ ⟨hq,hr,hmp,hi1,hk,hv⟩
 dsimp only at hq hr hmp hi1 hk hv ⊢
 try dsimp only [Hs,Hr,Hq,Hl]
 repeat' (first|refine go ?_|refine HF a1 F8 ?_|(apply bh;first|refine HJ a1 0 HC ?_|refine HJ a1 1 HC ?_|refine HJ a1 2 HC ?_|refine HJ a1 3 HC ?_|refine HK a1 0 HC ?_|refine HK a1 1 HC ?_|refine HK a1 2 HC ?_|refine HM a1 1 HA (by assumption) rfl ?_|refine HM a1 0 HA (by assumption) rfl ?_|fail)|fail)
 refine qb a1 rfl hq rfl rfl ?_
 repeat' (first|refine go ?_|refine HF a1 F8 ?_)
 refine ay rfl (fun h=>?_) (fun h=>?_)
 ·have hi:i < run.length:=by have:=Hy h;omega
  obtain ⟨k,rfl⟩:∃j,k=j+1:=⟨k - 1,by omega⟩
  rw [uN,if_pos hi] at hv
  have hma:=nV hf (wb:=wb) (v:=kV mb) l hlm q run hq hr i hi forms
  clear h
  repeat' (first|refine go ?_|refine ak ?_|refine HF a1 F8 ?_)
  refine bb (dZ wb f (kV mb) q run) [mQ mb mp] hma rfl rfl (Ho _) rfl fun c1 L1 ⟨hc1,hL⟩=>?_
  subst hc1;subst hL
  unfold pY
  cases hmn:jU (aW f) l run i forms with
  | none=>
   rw [kW hmn] at hv
   dsimp only at hv ⊢
   repeat' (first|refine go ?_|refine HF a1 F8 ?_|(apply aZ;refine aY ?_)|refine bR rfl ?_)
   exact aF (i+1,k,q,run,mp) rfl ⟨by rw [Hv];rfl,trivial⟩ ⟨hq,hr,hmp,by dsimp only;omega,by dsimp only;omega,hv⟩ (by dsimp only;omega) (fun _ _ h=>h)
  | some mr=>
   obtain ⟨r,hm,hmv⟩:=kX hmn
   rw [hmv] at hv
   dsimp only at hv ⊢
   rw [hm]
   simp only [Option.map_some,Option.getD_some]
   rw [show (dy (aW f) l.Ignore run i).take r.In.length=dw (aW f) l run i r from rfl]
   obtain ⟨hps,hrm,hin,_,hhd⟩:=EZ hmv
   generalize dw (aW f) l run i r=ps at *
   have hd2:=DO hf (wb:=wb) (mb:=mb) 4 0 rfl z l mr r ps q run mp hl hm (by omega) (by omega) (hf.ruleO hlm hrm hin) hps hq hr hmp
   obtain ⟨p,ps',rfl⟩:=List.exists_cons_of_ne_nil hps.some_
   simp only [List.head?_cons,Option.some.injEq] at hhd
   subst hhd
   obtain ⟨l1,l2,l3⟩:=sL hps
   have hr2:=(ln (ms:=aW f) (ls:=f.Lookups) 4 l r (p::ps') run).big hr
   have hnx:=D5 hps hr hr2
   have hlg2:=w8 (p:=p) (q:=ps')
   have hnl:=ip (p::ps')
   have hleft:l.Kind≠4→run.length - 1 - (p::ps').getLastD p≤(iU (aW f) f.Lookups 4 l r (p::ps') run).length:=fun h4=>Ad h4 hps
   have hpl1:(p::ps').length=ps'.length+1:=rfl
   have hlen1:(1 < ((cu (p::ps')).length:Int))↔p < (p::ps').getLastD p:=by
    rw [hnl,hpl1,←l3,←List.length_pos_iff]
    omega
   generalize iU (aW f) f.Lookups 4 l r (p::ps') run=R at *
   generalize (p::ps').getLastD p=last at *
   repeat' (first|refine go ?_|refine HF a1 F8 ?_|(apply aZ;refine aY ?_)|refine bL rfl ?_)
   refine aU a1 ?_ (hl:=by rw [hnl];exact hlg2) (h0:=by rw [hnl,hpl1];omega)
   repeat' (first|refine go ?_|refine HF a1 F8 ?_|(apply bh;first|refine HJ a1 0 HC ?_|refine HJ a1 1 HC ?_|refine HJ a1 2 HC ?_|refine HJ a1 3 HC ?_|refine HK a1 0 HC ?_|refine HK a1 1 HC ?_|refine HK a1 2 HC ?_|refine HM a1 1 HA (by assumption) rfl ?_|refine HM a1 0 HA (by assumption) rfl ?_|fail)|fail)
   refine qb a1 rfl hq rfl rfl ?_
   repeat' (first|refine go ?_|refine HF a1 F8 ?_|(apply aZ;refine aY ?_)|fail)
   refine bb (oS wb f mb q run mp) [] hd2 rfl rfl (bB rfl) rfl fun c1 L1 ⟨q2,mp3,k1,k2,k3⟩=>?_
   subst k3
   rw [List.append_nil]
   repeat' (first|refine go ?_|refine HF a1 F8 ?_|(apply bh;first|refine HJ a1 0 HC ?_|refine HJ a1 1 HC ?_|refine HJ a1 2 HC ?_|refine HJ a1 3 HC ?_|refine HK a1 0 HC ?_|refine HK a1 1 HC ?_|refine HK a1 2 HC ?_|refine HM a1 1 HA (by assumption) rfl ?_|refine HM a1 0 HA (by assumption) rfl ?_|fail)|fail)
   refine qb a1 rfl k1 rfl rfl ?_
   repeat' (first|refine go ?_|refine ak ?_|refine HF a1 F8 ?_|(apply bh;first|refine HJ a1 0 HC ?_|refine HJ a1 1 HC ?_|refine HJ a1 2 HC ?_|refine HJ a1 3 HC ?_|refine HK a1 0 HC ?_|refine HK a1 1 HC ?_|refine HK a1 2 HC ?_|refine HM a1 1 HA (by assumption) rfl ?_|refine HM a1 0 HA (by assumption) rfl ?_|fail)|(apply aZ;refine aY ?_)|(apply aX;first|refine aU a1 ?_|refine aK a1 ?_)|fail)
   refine ay rfl (fun h4=>?_) (fun h4=>?_)
   ·have hk4:l.Kind=4:=Hy h4
    unfold oE at hv hnx
    rw [if_pos hk4] at hv hnx
    repeat' (first|refine go ?_|refine HF a1 F8 ?_|(apply aZ;refine aY ?_)|fail)
    refine aF (max (R.length - (run.length - 1 - last)) (p+1),k,q2,R,mp3) rfl ⟨?_,trivial⟩ ⟨k1,hr2,k2,hnx.1,by have:=hnx.2;dsimp only;omega,hv⟩ (by dsimp only;omega) (fun _ _ h=>h)
    show some (AV.sc (.int .i64 (max ((R.length:Int) - ((run.length:Int) - 1 - last)) ((p:Int)+1))))=some (aH ((max (R.length - (run.length - 1 - last)) (p+1):Nat):Int))
    rw [show max ((R.length:Int) - ((run.length:Int) - 1 - last)) ((p:Int)+1)=((max (R.length - (run.length - 1 - last)) (p+1):Nat):Int) by omega]
   ·have hk4:l.Kind≠4:=Hx h4
    have hlf:=hleft hk4
    repeat' (first|refine go ?_|refine HF a1 F8 ?_)
    refine ay rfl (fun h6=>?_) (fun h6=>?_)
    ·have hk6:l.Kind=6:=Hy h6
     repeat' (first|refine go ?_|refine HF a1 F8 ?_)
     refine ay rfl (fun hp=>?_) (fun hp=>?_)
     ·have hpp:=hlen1.1 (Hy hp)
      unfold oE at hv hnx
      rw [if_neg hk4,if_pos ⟨hk6,hpp⟩] at hv hnx
      repeat' (first|refine go ?_|refine HF a1 F8 ?_)
      exact aF (last,k,q2,R,mp3) rfl ⟨rfl,trivial⟩ ⟨k1,hr2,k2,hnx.1,by have:=hnx.2;dsimp only;omega,hv⟩ (by dsimp only;omega) (fun _ _ h=>h)
     ·have hpp:=mt hlen1.2 (Hx hp)
      unfold oE at hv hnx
      rw [if_neg hk4,if_neg (fun h=>hpp h.2)] at hv hnx
      repeat' (first|refine go ?_|refine HF a1 F8 ?_)
      refine aF (R.length - (run.length - 1 - last),k,q2,R,mp3) rfl ⟨?_,trivial⟩ ⟨k1,hr2,k2,hnx.1,by have:=hnx.2;dsimp only;omega,hv⟩ (by dsimp only;omega) (fun _ _ h=>h)
      show some (AV.sc (.int .i64 ((R.length:Int) - ((run.length:Int) - 1 - last))))=some (aH ((R.length - (run.length - 1 - last):Nat):Int))
      rw [show (R.length:Int) - ((run.length:Int) - 1 - last)=((R.length - (run.length - 1 - last):Nat):Int) by omega]
    ·have hk6:l.Kind≠6:=Hx h6
     unfold oE at hv hnx
     rw [if_neg hk4,if_neg (fun h=>hk6 h.1)] at hv hnx
     repeat' (first|refine go ?_|refine HF a1 F8 ?_)
     refine aF (R.length - (run.length - 1 - last),k,q2,R,mp3) rfl ⟨?_,trivial⟩ ⟨k1,hr2,k2,hnx.1,by have:=hnx.2;dsimp only;omega,hv⟩ (by dsimp only;omega) (fun _ _ h=>h)
     show some (AV.sc (.int .i64 ((R.length:Int) - ((run.length:Int) - 1 - last))))=some (aH ((R.length - (run.length - 1 - last):Nat):Int))
     rw [show (R.length:Int) - ((run.length:Int) - 1 - last)=((R.length - (run.length - 1 - last):Nat):Int) by omega]
 ·have hi:run.length≤i:=by have:=Hx h;omega
  have hrun:run=uN (aW f) f.Lookups l forms run0.length 0 run0:=by
   rw [←hv]
   cases k with
   | zero=>rw [uN]
   | succ k=>rw [uN,if_neg (by omega)]
  repeat' (first|refine go ?_|fail)
  exact ce rfl ⟨q,mp,by rw [←hrun];exact hq,hmp,by rw [←hrun];rfl⟩
end
end Go.Proofs.YtpbinloeemebkaaGreat
namespace Go.Proofs.YtpbinloeemebkaaGreat
open Go.RowKit
attribute [local irreducible] AT bO AX AO Av Kt bo dU DA cT
section
variable {P:Program} {l:List Oper} {fr:c6} {fin:iq} {sk:ky} {acc:c6} {L:AL} {k:Nat} {dd:Option Tmp} {ty t t':TypeId} {pos:String} {af:Array Edge} {g:Option (Nat×Bool)} {x y:Operand} {u:AV}
theorem Ev {cs:List AV} (hx:bt (cB l.toArray acc fr af.toList) x=some u) (hc:u.cells=some cs) (hg:iL ⟨dd,.box t x,ty,pos,af,g⟩ acc) (h:∀b,DA P l fr fin sk ((k,fg b)::acc) ((b,.box cs t)::L)):cT P l fr fin k .a ⟨dd,.box t x,ty,pos,af,g⟩ sk acc L:=
 Ab (fun c L' ⟨b,_,h2⟩=>⟨[(b,.box cs t)],h2⟩) hg (fun _=>va hx hc) fun c L' ⟨b,h1,h2⟩=>by subst h1;subst h2;exact h b
end
theorem p7 {nt:Nat} {fr:c6} {B:Bs} {D:List Deferred} {t wb mb:Nat} {f:aL} {q:Option fy} {run:List b6} {mp:Value→Option AV} (hq:di q run) (hl:bY fr t=some (dC q run)):mx nt D B fr (oS wb f mb q run mp) ((t,.imm 6 (run.map cI))::fr) [mQ mb mp]:=fun σ a w ha hw=>
 zm hq hl σ a w ha (hw.sublist (List.sublist_cons_self ..))
set_option maxHeartbeats 8000000 in
theorem qm {f:aL} (hf:lG f) (n:Int) (run:List b6) (hr:run.length≤1000000) (forms:List Int):bM Tryz.prog 22 [cx f,aH n,.imm 6 (run.map cI),.imm 1 (aS forms)] (.imm 6 ((gt (aW f) f.Lookups n run forms).map cI)):=by
 refine aT Tryz.func22 rfl Tryz.ntmps22 rfl fun B=>?_
 have hm0:fI f fun _=>none:=fun u c h=>by cases h
 have hll:(f.Lookups.map bF).length=f.Lookups.length:=Hu ..
 repeat' (first|refine go ?_|refine HF a1 F8 ?_|refine bC ?_|fail)
 refine zX 7 [(0,.v),(1,.v),(2,.e)] [(4,.v),(5,.a),(6,.v)] 3 (dc (.int .i64) fun _=>none) (fun b=> .map (some b)) ?_ ⟨_,rfl,rfl,fun _ _ _=>pj _⟩ rfl (by kernel_rfl) (by kernel_rfl) (by kernel_rfl) (by kernel_rfl) (by kernel_rfl) mixed (by kernel_rfl) rfl
 repeat' (first|refine aE ?_|refine ba a1 ?_|fail)
 refine fj [] [] (Et run hr) rfl rfl (Ho _) trivial fun c L1 ⟨q,hq,hc,hL⟩=>?_
 subst hc;subst hL
 refine Ew fun mb=>?_
 rw [List.append_nil]
 repeat' (first|refine aE ?_|fail)
 refine ba (u:= .agg (cf f++[dC q run,kV mb])) a1 ?_ (hu:=by cases q <;> rfl)
 repeat' (first|refine aE ?_|fail)
 refine Ev rfl rfl trivial fun wb=>?_
 repeat' (first|refine aE ?_|refine ba a1 ?_|fail)
 refine HR [9,8,4,3,1] F8 ?_
 repeat' (first|refine go ?_|refine a8 ?_|refine HF a1 F8 ?_)
 by_cases hin:0≤n∧n < f.Lookups.length
 ·obtain ⟨z,rfl⟩:∃z:Nat,n=z:=⟨n.toNat,by omega⟩
  have hz:z < f.Lookups.length:=by omega
  obtain ⟨l,hl⟩:∃l,f.Lookups[z]?=some l:=⟨_,Hz hz⟩
  have hlg:=bA (c:=bF) hl
  have hav:=xK (ms:=aW f) hl run forms
  refine cN [1,3,4,9] False rfl (fun Q' K=>?_) (fun hC=>hC.elim) (fun hC=>?_)
  ·repeat' (first|refine go ?_|refine HF a1 F8 ?_|refine HO F8 ?_)
   all_goals first | exact K _ _ rfl rfl (by simp_all <;> omega) | (exfalso;simp_all <;> omega)
  ·clear hC
   repeat' (first|refine go ?_|refine ak ?_|refine HF a1 F8 ?_|(apply aX;first|refine aU a1 ?_|refine aK a1 ?_)|fail)
   refine cN [1,3,9,10] (l.Kind < 1∨6 < l.Kind) rfl (fun Q' K=>?_) (fun hC=>?_) (fun hC=>?_)
   ·repeat' (first|refine go ?_|refine HF a1 F8 ?_|refine HO F8 ?_|refine HS HB ?_|refine be rfl rfl rfl (fun _=>?_) (fun _=>?_))
    all_goals first | exact K _ _ rfl rfl (by simp_all <;> omega) | (exfalso;simp_all <;> omega)
   ·rw [if_pos hC] at hav
    rw [hav]
    repeat' (first|refine go ?_|refine HF a1 F8 ?_|(apply bh;first|refine HJ a1 0 HC ?_|refine HJ a1 1 HC ?_|refine HJ a1 2 HC ?_|refine HJ a1 3 HC ?_|refine HK a1 0 HC ?_|refine HK a1 1 HC ?_|refine HK a1 2 HC ?_|refine HM a1 1 HA (by assumption) rfl ?_|refine HM a1 0 HA (by assumption) rfl ?_|fail)|fail)
    refine bk (p7 (t:=8) hq rfl) ?_
    exact HP HA
   ·rw [if_neg hC] at hav
    repeat' (first|refine go ?_|refine HF a1 F8 ?_)
    refine ay rfl (fun h5=>?_) (fun h5=>?_)
    ·have h5:l.Kind=5:=Hy h5
     rw [if_pos h5] at hav
     have hdn:=Ah hf wb mb z l hl h5 forms q run (fun _=>none) hq hr hm0
     repeat' (first|refine go ?_|refine HF a1 F8 ?_)
     refine bb (oS wb f mb q run fun _=>none) [] hdn rfl rfl (bB rfl) rfl fun c L1 ⟨q',mp',g1,g2,g3⟩=>?_
     subst g3
     rw [List.append_nil,hav]
     repeat' (first|refine go ?_|refine HF a1 F8 ?_|(apply bh;first|refine HJ a1 0 HC ?_|refine HJ a1 1 HC ?_|refine HJ a1 2 HC ?_|refine HJ a1 3 HC ?_|refine HK a1 0 HC ?_|refine HK a1 1 HC ?_|refine HK a1 2 HC ?_|refine HM a1 1 HA (by assumption) rfl ?_|refine HM a1 0 HA (by assumption) rfl ?_|fail)|fail)
     refine bk (p7 (t:=8) g1 rfl) ?_
     exact HP HA
    ·have h5:l.Kind≠5:=Hx h5
     rw [if_neg h5] at hav
     have hon:=EV hf wb mb z l hl (by omega) (by omega) forms q run (fun _=>none) hq hr hm0
     repeat' (first|refine go ?_|refine HF a1 F8 ?_)
     refine bb (oS wb f mb q run fun _=>none) [] hon rfl rfl (bB rfl) rfl fun c L1 ⟨q',mp',g1,g2,g3⟩=>?_
     subst g3
     rw [List.append_nil,hav]
     repeat' (first|refine go ?_|refine HF a1 F8 ?_|(apply bh;first|refine HJ a1 0 HC ?_|refine HJ a1 1 HC ?_|refine HJ a1 2 HC ?_|refine HJ a1 3 HC ?_|refine HK a1 0 HC ?_|refine HK a1 1 HC ?_|refine HK a1 2 HC ?_|refine HM a1 1 HA (by assumption) rfl ?_|refine HM a1 0 HA (by assumption) rfl ?_|fail)|fail)
     refine bk (p7 (t:=8) g1 rfl) ?_
     exact HP HA
 ·have hav:gt (aW f) f.Lookups n run forms=run:=vd (by omega)
  rw [hav]
  refine cN [1,3,4,9] True rfl (fun Q' K=>?_) (fun hC=>?_) (fun hC=>(hC trivial).elim)
  ·repeat' (first|refine go ?_|refine HF a1 F8 ?_|refine HO F8 ?_|refine HS HB ?_|refine be rfl rfl rfl (fun _=>?_) (fun _=>?_))
   all_goals first | exact K _ _ rfl rfl (by simp_all <;> omega) | (exfalso;simp_all <;> omega)
  ·repeat' (first|refine go ?_|refine HF a1 F8 ?_|(apply bh;first|refine HJ a1 0 HC ?_|refine HJ a1 1 HC ?_|refine HJ a1 2 HC ?_|refine HJ a1 3 HC ?_|refine HK a1 0 HC ?_|refine HK a1 1 HC ?_|refine HK a1 2 HC ?_|refine HM a1 1 HA (by assumption) rfl ?_|refine HM a1 0 HA (by assumption) rfl ?_|fail)|fail)
   refine bk (p7 (t:=8) hq rfl) ?_
   exact HP HA
end Go.Proofs.YtpbinloeemebkaaGreat
namespace Go.Proofs.YtpbinloeemebkaaGreat
open Go.RowKit
attribute [local irreducible] AT bO AX AO Av Kt bo dU DA cT
theorem Dd {f:aL} {K:List Int} {fs:List ByteArray} (hd:∀z∈K,0≤z∧z < f.Glyphs.length) (hcl:∀z∈ca f (dT f fs) K,z∈K) {z:Int} (hz:z∈K) {g:bn} (hg:f.Glyphs[z.toNat]?=some g) {p:cX} (hp:p∈g.Parts) (h0:0≤p.Glyph∧p.Glyph < f.Glyphs.length):p.Glyph∈K:=by
 refine hcl _ (iK hd (o8.2 ⟨.inl ?_,h0⟩))
 unfold eQ
 refine List.mem_flatMap.2 ⟨z,hz,Ht _ ?_⟩
 unfold mZ
 rw [hg]
 exact List.mem_map_of_mem hp
theorem BK (run:List b6) (x:b6):run.map cI++[cI x]=(run++[x]).map cI:=by rw [List.map_append];rfl
set_option maxHeartbeats 8000000 in
theorem zb (ns bs ps:List Int):bM Tryz.prog 9 [.imm 1 (aS ns),.imm 1 (aS bs),.imm 1 (aS ps)] (c9 true):=by
 refine aT Tryz.func9 rfl Tryz.ntmps9 rfl fun B=>?_
 refine cF 2 rfl rfl fun hlen=>?_
 have hpl:=aN ps
 rw [hpl] at hlen
 haveI c1:AD Tryz.prog 11 [] (c9 true):=⟨xW⟩
 repeat' (first|refine go ?_|refine HF a1 F8 ?_)
 refine bf (hc:=⟨tX ns bs⟩) ?_
 have hG:=pS ns
 generalize lw ns=f at hG ⊢
 have h1:=Bz bs
 have l1:=yN bs
 have l3:=EC f hG bs
 generalize n4 bs=rs at h1 l1 ⊢
 generalize qj f bs=fs at l3 ⊢
 have hch:=hG.chars
 have hgn:=hG.glyN
 have hcm:(f.Chars.map dJ).length=f.Chars.length:=Hu ..
 have hgm:(f.Glyphs.map bS).length=f.Glyphs.length:=Hu ..
 have hrl:=aN rs
 repeat' (first|refine go ?_|refine HF a1 F8 ?_|(apply aQ;first|refine HH 7 a1 0 HE ?_|refine HH 7 a1 1 HE ?_|refine HH 7 a1 2 HE ?_|refine HH 8 a1 0 HE ?_|refine HH 8 a1 1 HE ?_|refine HH 8 a1 2 HE ?_|refine HG a1 0 HD ?_|refine HG a1 1 HD ?_|refine HG a1 2 HD ?_|refine HG a1 3 HD ?_|fail)|refine bl a1 fun _=>?_|fail)
 refine bf (hc:=⟨u4 hG rs fs h1⟩) ?_
 repeat' (first|refine go ?_|refine HF a1 F8 ?_)
 refine bf (hc:=⟨jT f fs hG.small⟩) ?_
 have hK:=wZ (f:=f) rs fs
 have hA:=zW hG (rs:=rs) (fs:=fs)
 have hR:∀z∈dT f fs,fX f fs z:=fun z hz=>uo.1 hz
 have hcl:=hK.closed
 have hd:=hK.ok.dom
 have hkl:=hK.ok.len
 have hsm:∀z,z∈dt (gm f rs fs)↔z∈gm f rs fs:=AI
 have hsl:(dt (gm f rs fs)).length=(gm f rs fs).length:=iJ _
 have hO:∀l∈f.Lookups,∀r∈l.Rules,∀z∈r.Out,0≤z∧z < f.Glyphs.length:=fun l hl r hr=>by
  obtain ⟨calls,hc,_⟩:=hG.looks.rule l hl r hr
  exact hc.outs.2
 have hap:∀n∈dT f fs,∀run,oU (gm f rs fs) run→oU (gm f rs fs) (gt (aW f) f.Lookups n run []):=fun n hn run hr=>Cl hd hcl hO (hR n hn) hr []
 have hpt:∀z∈gm f rs fs,∀g,f.Glyphs[z.toNat]?=some g→∀p∈g.Parts,p.Glyph∈gm f rs fs:=fun z hz g hg p hp=>Dd hd hcl hz hg hp (by
  have hgp:=(hG.gly z.toNat g hg).parts
  rcases hgp with e | ⟨_,x,y,e,_⟩
  ·rw [e] at hp;cases hp
  ·rw [e] at hp
   rw [Hm hp]
   dsimp only
   omega)
 have hksl:(dT f fs).length≤6:=by
  unfold dT
  refine Nat.le_trans (List.length_filter_le ..) ?_
  rw [Hu,List.length_range]
  exact hG.looks.len
 clear hK hcl hR hO
 generalize dT f fs=ks at hap hksl ⊢
 generalize gm f rs fs=K at hA hap hpt hd hkl hsm hsl ⊢
 generalize dt K=l at hsm hsl ⊢
 have hll:=aN l
 have hkl2:=aN ks
 repeat' (first|refine go ?_|refine ak ?_|refine HF a1 F8 ?_|refine xc (n:=0) a1 fun _=>?_|refine bL rfl ?_)
 refine aR [2,7,8,9,11] (α:=Nat×Option (Nat×Nat)×List b6) (fun s=>[(13,aH s.1),(12,.vec s.2.1 6 (s.2.2.map cI))]) (fun s=>s.1≤rs.length∧s.2.2.length=s.1∧oU K s.2.2) (fun s=>tok s.2.1 54 6 s.1) (fun s=>rs.length - s.1) (0,some (_,0),[]) rfl ⟨rfl,rfl,trivial⟩ ⟨Nat.zero_le _,rfl,fun x hx=>by cases hx⟩ (fun _ _ h=>h) ?_
 rintro ⟨i,q,run⟩ ⟨hi,hlr,hin⟩
 dsimp only at hi hlr hin ⊢
 have hml:(run.map cI).length=i:=by rw [Hu,hlr]
 try dsimp only [Hs,Hr,Hq,Hl]
 repeat' (first|refine go ?_|refine HF a1 F8 ?_)
 refine ay rfl (fun h=>?_) (fun h=>?_)
 ·have hi2:i < rs.length:=by have:=Hy h;omega
  obtain ⟨z,hz⟩:∃z,rs[i]?=some z:=⟨_,Hz hi2⟩
  have hzg:=bG hz
  have hzm:=Hw hz
  clear h
  repeat' (first|refine go ?_|refine ak ?_|refine HF a1 F8 ?_)
  refine aR [2,7,8,9,11,12,13] (α:=Nat×Int) (fun s=>[(15,aH s.1),(14,aH s.2)]) (fun s=>s.1≤f.Chars.length∧s.2∈K) (fun _=>tok q 54 6 i) (fun s=>f.Chars.length - s.1) (0,0) rfl ⟨rfl,rfl,trivial⟩ ⟨Nat.zero_le _,hA 0 (List.mem_cons_self ..)⟩ (fun _ _ h=>h) ?_
  rintro ⟨c,g⟩ ⟨hc,hg⟩
  dsimp only at hc hg ⊢
  try dsimp only [Hs,Hr,Hq,Hl]
  repeat' (first|refine go ?_|refine HF a1 F8 ?_)
  refine ay rfl (fun h=>?_) (fun h=>?_)
  ·have hc2:c < f.Chars.length:=by have:=Hy h;omega
   obtain ⟨ch,hch2⟩:∃ch,f.Chars[c]?=some ch:=⟨_,Hz hc2⟩
   have hcg:=bA (c:=dJ) hch2
   clear h
   repeat' (first|refine go ?_|refine ak ?_)
   refine bj 11 [(0,.v),(1,.v),(2,.v),(3,.v),(4,.v),(5,.v),(6,.v),(7,.v),(8,.v),(9,.v),(10,.v)] none ?_ trivial rfl (by kernel_rfl) (by kernel_rfl) (by kernel_rfl) mixed (by kernel_rfl) rfl
   repeat' (first|refine aE ?_|refine ba a1 ?_|(apply co;refine cJ a1 ?_)|fail)
   refine HR [2,7,8,9,11,12,13,14,15,59,64] F8 ?_
   repeat' (first|refine go ?_|refine a8 ?_|refine HF a1 F8 ?_)
   refine ay rfl (fun he=>?_) (fun he=>?_)
   ·have he:ch.Rune=z:=Hy he
    have hgk:ch.Glyph∈K:=hA _ (Ht _ (by
     unfold vg
     exact List.mem_map.2 ⟨ch,List.mem_filter.2 ⟨Hw hch2,decide_eq_true (he▸hzm)⟩,rfl⟩))
    repeat' (first|refine go ?_|refine HF a1 F8 ?_|(apply aZ;refine aY ?_)|(apply aX;first|refine aU a1 ?_|refine aK a1 ?_)|fail)
    exact aF (c+1,ch.Glyph) rfl ⟨by rw [Hv];rfl,rfl,trivial⟩ ⟨hc2,hgk⟩ (by dsimp only;omega) (fun _ _ h=>h)
   ·repeat' (first|refine go ?_|refine HF a1 F8 ?_|(apply aZ;refine aY ?_)|fail)
    exact aF (c+1,g) rfl ⟨by rw [Hv];rfl,rfl,trivial⟩ ⟨hc2,hg⟩ (by dsimp only;omega) (fun _ _ h=>h)
  ·clear h
   have hsn:=BK run ⟨g,i,0,0,0,0⟩
   repeat' (first|refine go ?_|refine HF a1 F8 ?_|refine bI a1 ?_|fail)
   refine cj a1 [] rfl rfl rfl rfl (by rw [hml,List.append_nil]) (by rw [hml];simp only [List.length_cons,List.length_nil];omega) (by rw [hml];simp only [List.length_cons,List.length_nil];omega) rfl fun q'=>?_
   repeat' (first|refine go ?_|refine HF a1 F8 ?_|(apply aZ;refine aY ?_)|fail)
   refine aF (i+1,q',run++[⟨g,i,0,0,0,0⟩]) rfl ⟨by rw [Hv];rfl,by dsimp only;rw [←hsn];rfl,trivial⟩ ⟨hi2,by dsimp only;rw [List.length_append,hlr];rfl,fun x hx=>?_⟩ (by dsimp only;omega) (fun _ _ h=>?_)
   ·rcases Hn hx with hx | hx
    ·exact hin x hx
    ·rw [Hm hx];exact hg
   ·rw [List.length_append,hml,List.append_nil] at h
    exact h
 clear h
 have hrb:run.length≤500:=by omega
 repeat' (first|refine go ?_|refine ak ?_|refine HF a1 F8 ?_)
 refine bW (cb (L':=[]) (List.nil_sublist _)) ?_
 refine bW (cA (t:=12) (c':= .imm 6 (run.map cI)) rfl fun σ v h=>VR.im h) ?_
 refine aR [2,7,9,11] (α:=Nat×List b6) (fun s=>[(16,aH s.1),(12,.imm 6 (s.2.map cI))]) (fun s=>s.1≤ps.length∧s.2.length≤500∧oU K s.2) (fun _=>[]) (fun s=>ps.length - s.1) (0,run) rfl ⟨rfl,rfl,trivial⟩ ⟨Nat.zero_le _,hrb,hin⟩ (fun _ _ h=>h) ?_
 clear hin hrb hlr hml
 clear run
 rintro ⟨j,run⟩ ⟨hj,hrb,hin⟩
 dsimp only at hj hrb hin ⊢
 have hml:(run.map cI).length=run.length:=Hu ..
 try dsimp only [Hs,Hr,Hq,Hl]
 repeat' (first|refine go ?_|refine HF a1 F8 ?_)
 refine cN [2,7,9,11,12,16] (j < ps.length∧j < 12∧0 < ks.length) rfl (fun Q' K=>?_) (fun hC=>?_) (fun hC=>?_)
 ·repeat' (first|refine go ?_|refine HF a1 F8 ?_|refine HO F8 ?_|refine HS HB ?_|refine be rfl rfl rfl (fun _=>?_) (fun _=>?_))
  all_goals exact K _ _ rfl rfl (by simp_all <;> omega)
 ·obtain ⟨p,hp⟩:∃p,ps[j]?=some p:=⟨_,Hz hC.1⟩
  have hpg:=bG hp
  obtain ⟨a,ha⟩:∃a,p.tmod (ks.length:Int)=a:=⟨_,rfl⟩
  have hab:=Dv p (b:=(ks.length:Int)) (by omega)
  rw [ha] at hab
  repeat' (first|refine go ?_|refine ak ?_|refine HF a1 F8 ?_|(apply aX;first|refine aU a1 ?_|refine aK a1 ?_)|fail)
  refine d8 (zK rfl rfl (by omega)) rfl rfl ?_
  rw [show p.tmod (((aS ks).length:Nat):Int)=a by rw [hkl2];exact ha]
  repeat' (first|refine HF a1 F8 ?_|(apply aZ;refine aY ?_)|fail)
  refine d8 (zK rfl rfl (by omega)) rfl rfl ?_
  obtain ⟨k,hk⟩:∃k:Nat,(a+(((aS ks).length:Nat):Int)).tmod (((aS ks).length:Nat):Int)=k:=⟨((a+(((aS ks).length:Nat):Int)).tmod (((aS ks).length:Nat):Int)).toNat,by have:=(xv (a:=a+(((aS ks).length:Nat):Int)) (b:=(((aS ks).length:Nat):Int)) (by omega) (by omega)).1;omega⟩
  have hk2:k < ks.length:=by have:=(xv (a:=a+(((aS ks).length:Nat):Int)) (b:=(((aS ks).length:Nat):Int)) (by omega) (by omega)).2;omega
  rw [hk]
  obtain ⟨z,hz⟩:∃z,ks[k]?=some z:=⟨_,Hz hk2⟩
  have hzg:=bG hz
  have hin2:=hap z (Hw hz) run hin
  have hlb:=(ve (ms:=aW f) (ls:=f.Lookups) (n:=z) (run:=run) (forms:=[]))
  haveI i1:AD Tryz.prog 22 [cx f,aH z,.imm 6 (run.map cI),.sc (.slice none 0 0)] (.imm 6 ((gt (aW f) f.Lookups z run []).map cI)):=⟨AC.args (qm hG.fontN z run (by omega) []) (a:=[cx f,aH z,.imm 6 (run.map cI),.sc (.slice none 0 0)]) ⟨ea.refl _,ea.refl _,ea.refl _,ea.nil 1,trivial⟩⟩
  unfold fU at hlb
  generalize gt (aW f) f.Lookups z run []=run2 at *
  repeat' (first|refine go ?_|refine HF a1 F8 ?_)
  refine bj 6 [(0,.v),(1,.v),(2,.v),(3,.v),(4,.v),(5,.v)] none ?_ trivial rfl (by kernel_rfl) (by kernel_rfl) (by kernel_rfl) mixed (by kernel_rfl) rfl
  repeat' (first|refine aE ?_|refine ba a1 ?_|(apply co;refine cJ a1 ?_)|fail)
  refine HR [2,7,9,11,16,106,110,111] F8 ?_
  repeat' (first|refine go ?_|refine a8 ?_|refine HF a1 F8 ?_|(apply aZ;refine aY ?_)|(apply bD;refine bf ?_)|fail)
  exact aF (j+1,run2) rfl ⟨by rw [Hv];rfl,rfl,trivial⟩ ⟨hC.1,by dsimp only;omega,hin2⟩ (by dsimp only;omega) (fun _ _ h=>h)
 clear hC
 repeat' (first|refine go ?_|refine ak ?_|refine HF a1 F8 ?_)
 refine aR [7,9,12] (α:=Nat) (fun i=>[(18,aH i)]) (fun i=>i≤run.length) (fun _=>[]) (fun i=>run.length - i) 0 rfl ⟨rfl,trivial⟩ (Nat.zero_le _) (fun _ _ h=>h) fun i hi=>?_
 try dsimp only [Hs,Hr,Hq,Hl]
 repeat' (first|refine go ?_|refine HF a1 F8 ?_)
 refine ay rfl (fun h=>?_) (fun h=>?_)
 ·have hi2:i < run.length:=by have:=Hy h;omega
  obtain ⟨x,hx⟩:∃x,run[i]?=some x:=⟨_,Hz hi2⟩
  have hxg:=bA (c:=cI) hx
  have hxk:l.contains x.Glyph=true:=List.contains_iff_mem.2 ((hsm _).2 (hin x (Hw hx)))
  clear h
  repeat' (first|refine go ?_|refine ak ?_|refine HF a1 F8 ?_|(apply aX;first|refine aU a1 ?_|refine aK a1 ?_)|(apply bD;refine bf ?_)|fail)
  rw [hxk]
  repeat' (first|refine go ?_|refine HF a1 F8 ?_|(apply aZ;refine aY ?_)|refine bL rfl ?_)
  exact aF (i+1) rfl ⟨by rw [Hv];rfl,trivial⟩ hi2 (by omega) (fun _ _ h=>h)
 clear h
 clear hi
 repeat' (first|refine go ?_|refine ak ?_|refine HF a1 F8 ?_)
 refine aR [7,9] (α:=Nat) (fun i=>[(19,aH i)]) (fun i=>i≤l.length) (fun _=>[]) (fun i=>l.length - i) 0 rfl ⟨rfl,trivial⟩ (Nat.zero_le _) (fun _ _ h=>h) fun i hi=>?_
 try dsimp only [Hs,Hr,Hq,Hl]
 repeat' (first|refine go ?_|refine HF a1 F8 ?_)
 refine ay rfl (fun h=>?_) (fun h=>?_)
 ·have hi2:i < l.length:=by have:=Hy h;omega
  obtain ⟨z,hz⟩:∃z,l[i]?=some z:=⟨_,Hz hi2⟩
  have hzg:=bG hz
  have hzk:=(hsm z).1 (Hw hz)
  have hzd:=hd z hzk
  obtain ⟨g,hg⟩:∃g,f.Glyphs[z.toNat]?=some g:=⟨_,Hz (by omega)⟩
  have hgg:=bA (c:=bS) hg
  have hpl2:(g.Parts.map dW).length=g.Parts.length:=Hu ..
  have hpb:g.Parts.length≤1:=by rcases (hG.gly _ g hg).parts with e | ⟨_,x,y,e,_⟩ <;> rw [e] <;> simp
  clear h
  repeat' (first|refine go ?_|refine ak ?_|refine HF a1 F8 ?_)
  refine aR [7,9,19] (α:=Nat) (fun p=>[(20,aH p)]) (fun p=>p≤g.Parts.length) (fun _=>[]) (fun p=>g.Parts.length - p) 0 rfl ⟨rfl,trivial⟩ (Nat.zero_le _) (fun _ _ h=>h) fun p hp=>?_
  try dsimp only [Hs,Hr,Hq,Hl]
  repeat' (first|refine go ?_|fail)
  refine bj 12 [(0,.v),(1,.v),(2,.v),(3,.v),(4,.v),(5,.v),(6,.v),(7,.v),(8,.v),(9,.v),(10,.v),(11,.v)] none ?_ trivial rfl (by kernel_rfl) (by kernel_rfl) (by kernel_rfl) mixed (by kernel_rfl) rfl
  repeat' (first|refine aE ?_|refine ba a1 ?_|(apply co;refine cJ a1 ?_)|fail)
  refine HR [7,9,19,20,144] F8 ?_
  repeat' (first|refine go ?_|refine a8 ?_|fail)
  refine ay rfl (fun h=>?_) (fun h=>?_)
  ·have hp2:p < g.Parts.length:=by have:=Hy h;omega
   obtain ⟨y,hy⟩:∃y,g.Parts[p]?=some y:=⟨_,Hz hp2⟩
   have hyg:=bA (c:=dW) hy
   have hyk:l.contains y.Glyph=true:=List.contains_iff_mem.2 ((hsm _).2 (hpt z hzk g hg y (Hw hy)))
   clear h
   repeat' (first|refine go ?_|refine ak ?_)
   refine bj 16 [(0,.v),(1,.v),(2,.v),(3,.v),(4,.v),(5,.v),(6,.v),(7,.v),(8,.v),(9,.v),(10,.v),(11,.v),(12,.v),(13,.v),(14,.v),(15,.v)] none ?_ trivial rfl (by kernel_rfl) (by kernel_rfl) (by kernel_rfl) mixed (by kernel_rfl) rfl
   repeat' (first|refine aE ?_|refine ba a1 ?_|(apply co;refine cJ a1 ?_)|(apply dm;refine dP ?_)|fail)
   refine HR [7,9,19,20,162] F8 ?_
   repeat' (first|refine go ?_|refine a8 ?_|fail)
   rw [hyk]
   repeat' (first|refine go ?_|refine HF a1 F8 ?_|(apply aZ;refine aY ?_)|refine bL rfl ?_)
   exact aF (p+1) rfl ⟨by rw [Hv];rfl,trivial⟩ hp2 (by omega) (fun _ _ h=>h)
  ·clear h
   repeat' (first|refine go ?_|refine HF a1 F8 ?_|(apply aZ;refine aY ?_)|fail)
   exact aF (i+1) rfl ⟨by rw [Hv];rfl,trivial⟩ hi2 (by omega) (fun _ _ h=>h)
 clear h
 repeat' (first|refine go ?_|refine HF a1 F8 ?_|(apply bD;refine bf ?_)|fail)
 exact HP HA
end Go.Proofs.YtpbinloeemebkaaGreat
