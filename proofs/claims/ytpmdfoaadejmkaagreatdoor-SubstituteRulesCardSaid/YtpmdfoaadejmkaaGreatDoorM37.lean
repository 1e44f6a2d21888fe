/-
  The program's rules: a lookup at all places, from one end to the other one.
-/
import Derived.Test.YtpmdfoaadejmkaaGreatDoorM36
import Derived.Test.YtpmdfoaadejmkaaGreatDoorM32
import Derived.Test.YtpmdfoaadejmkaaGreatDoorM03
import Derived.Test.YtpmdfoaadejmkaaGreatDoorM20
namespace Go.Proofs.YtpmdfoaadejmkaaGreatDoor
open Go.RowKit
attribute [local irreducible] AT bJ AX AO Av Kt bi dq DA cG
section
variable {f:aZ} (hf:iz f) (wb mb:Nat)
include hf
set_option maxHeartbeats 8000000 in
theorem CE (z:Nat) (l:aL) (hl:f.Lookups[z]?=some l) (h5:l.Kind=5) (forms:List Int) (q0:Option dD) (run0:List aJ) (mp0:Value→Option AV) (hq0:cu q0 run0) (hr0:run0.length≤1000000) (hmp0:fX f mp0):
  AC Tryz.prog 87 [dA wb,aF z,.imm 1 (aW forms)] (pV wb f mb q0 run0 mp0) (iI wb f mb (gz (aS f) f.Lookups l forms run0.length run0)):=by
 refine aN Tryz.func87 rfl Tryz.ntmps87 rfl fun B=>?_
 have hlm:=Kw hl
 repeat' (first|refine L3 ?_|refine KG a4 HY ?_)
 refine b6 (pV wb f mb q0 run0 mp0) [] (lV hf mp0 hmp0 z l hl q0 run0) rfl rfl (bK rfl) rfl fun c1 L1 ⟨hc1,mp1,hmp1,hL⟩=>?_
 subst hc1;subst hL
 rw [List.append_nil]
 refine aP (aI (rS hf)) ?_
 repeat' (first|refine L3 ?_|refine KG a4 HY ?_|(apply bo;first|refine KM a4 0 KC ?_|refine KM a4 1 KC ?_|refine KM a4 2 KC ?_|refine KM a4 3 KC ?_|refine KN a4 0 KC ?_|refine KN a4 1 KC ?_|refine KN a4 2 KC ?_|refine KO a4 1 KA (by assumption) rfl ?_|refine KO a4 0 KA (by assumption) rfl ?_|fail)|fail)
 refine iw a4 rfl hq0 rfl rfl ?_
 repeat' (first|refine ak ?_|refine L3 ?_|refine KG a4 HY ?_|(apply aU;refine aT ?_)|fail)
 refine aR [0,1,2,6] (α:=Nat×Option dD×List aJ×(Value→Option AV)) (fun s=>[(7,aF ((s.1:Int) - 1))]) (fun s=>cu s.2.1 s.2.2.1∧s.2.2.1.length≤1000000∧fX f s.2.2.2∧s.1≤s.2.2.1.length∧gz (aS f) f.Lookups l forms s.1 s.2.2.1=gz (aS f) f.Lookups l forms run0.length run0) (fun s=>pV wb f mb s.2.1 s.2.2.1 s.2.2.2) (fun s=>s.1) (run0.length,q0,run0,mp1) rfl ⟨rfl,trivial⟩ ⟨hq0,hr0,hmp1,Nat.le_refl _,rfl⟩ (fun _ _ h=>h) ?_
 rintro ⟨n,q,run,mp⟩ ⟨hq,hr,hmp,hn1,hv⟩
 dsimp only at hq hr hmp hn1 hv ⊢
 try dsimp only [Kr,Kq,Kp,Lv]
 repeat' (first|refine L3 ?_|refine KG a4 HY ?_)
 refine aw rfl (fun h=>?_) (fun h=>?_)
 ·have hn0:0 < n:=by have:=Ky h;omega
  obtain ⟨i,rfl⟩:∃j,n=j+1:=⟨n - 1,by omega⟩
  rw [gz] at hv
  have hi0:((i+1:Nat):Int) - 1=(i:Int):=by omega
  have hma:=oX hf (wb:=wb) (v:=lR mb) l hlm q run hq hr i hn1 forms
  clear h
  rw [hi0]
  repeat' (first|refine L3 ?_|refine ak ?_|refine KG a4 HY ?_)
  refine b6 (ey wb f (lR mb) q run) [nM mb mp] hma rfl rfl (Lz _) rfl fun c1 L1 ⟨hc1,hL⟩=>?_
  subst hc1;subst hL
  unfold rr
  cases hmn:kS (aS f) l run i forms with
  | none=>
   rw [lT hmn] at hv
   dsimp only at hv ⊢
   repeat' (first|refine L3 ?_|refine KG a4 HY ?_|(apply aU;refine aT ?_)|refine bE rfl ?_)
   exact aD (i,q,run,mp) rfl ⟨rfl,trivial⟩ ⟨hq,hr,hmp,by dsimp only;omega,hv⟩ (by dsimp only;omega) (fun _ _ h=>h)
  | some mr=>
   obtain ⟨r,hm,hmv⟩:=lU hmn
   rw [hmv] at hv
   dsimp only at hv ⊢
   rw [hm]
   simp only [Option.map_some,Option.getD_some]
   rw [show (dk (aS f) l.Ignore run i).take r.In.length=d8 (aS f) l run i r from rfl]
   obtain ⟨hps,hrm,hin,_,hhd⟩:=AW hmv
   generalize d8 (aS f) l run i r=ps at *
   have hd2:=Gz hf (wb:=wb) (mb:=mb) 4 0 rfl z l mr r ps q run mp hl hm (by omega) (by omega) (hf.ruleO hlm hrm hin) hps hq hr hmp
   have hr2:=(iK (ms:=aS f) (ls:=f.Lookups) 4 l r ps run).big hr
   have hln:=CB (ms:=aS f) (ls:=f.Lookups) (k:=4) h5 (r:=r) (ps:=ps) (run:=run)
   generalize fq (aS f) f.Lookups 4 l r ps run=R at *
   repeat' (first|refine L3 ?_|refine KG a4 HY ?_|refine bH rfl ?_)
   refine b6 (pV wb f mb q run mp) [] hd2 rfl rfl (bK rfl) rfl fun c1 L1 ⟨q2,mp3,k1,k2,k3⟩=>?_
   subst k3
   rw [List.append_nil]
   repeat' (first|refine L3 ?_|refine KG a4 HY ?_|(apply aU;refine aT ?_)|fail)
   exact aD (i,q2,R,mp3) rfl ⟨rfl,trivial⟩ ⟨k1,hr2,k2,by dsimp only;omega,hv⟩ (by dsimp only;omega) (fun _ _ h=>h)
 ·have hn0:n=0:=by have:=Kx h;omega
  subst hn0
  have hrun:run=gz (aS f) f.Lookups l forms run0.length run0:=by rw [←hv,gz]
  repeat' (first|refine L3 ?_|fail)
  exact ca rfl ⟨q,mp,by rw [←hrun];exact hq,hmp,by rw [←hrun];rfl⟩
set_option maxHeartbeats 8000000 in
theorem HK (z:Nat) (l:aL) (hl:f.Lookups[z]?=some l) (h1:1≤l.Kind) (h6:l.Kind≤6) (forms:List Int) (q0:Option dD) (run0:List aJ) (mp0:Value→Option AV) (hq0:cu q0 run0) (hr0:run0.length≤1000000) (hmp0:fX f mp0):
  AC Tryz.prog 88 [dA wb,aF z,.imm 1 (aW forms)] (pV wb f mb q0 run0 mp0) (iI wb f mb (sm (aS f) f.Lookups l forms run0.length 0 run0)):=by
 refine aN Tryz.func88 rfl Tryz.ntmps88 rfl fun B=>?_
 have hlm:=Kw hl
 have hlg:=c5 (c:=bw) hl
 repeat' (first|refine L3 ?_|refine KG a4 HY ?_)
 refine b6 (pV wb f mb q0 run0 mp0) [] (lV hf mp0 hmp0 z l hl q0 run0) rfl rfl (bK rfl) rfl fun c1 L1 ⟨hc1,mp1,hmp1,hL⟩=>?_
 subst hc1;subst hL
 rw [List.append_nil]
 refine aP (aI (rS hf)) ?_
 repeat' (first|refine L3 ?_|refine ak ?_|refine KG a4 HY ?_)
 refine aR [0,1,2,6] (α:=Nat×Nat×Option dD×List aJ×(Value→Option AV)) (fun s=>[(7,aF s.1)]) (fun s=>cu s.2.2.1 s.2.2.2.1∧s.2.2.2.1.length≤1000000∧fX f s.2.2.2.2∧s.1≤1000001∧s.2.2.2.1.length - s.1≤s.2.1∧sm (aS f) f.Lookups l forms s.2.1 s.1 s.2.2.2.1=sm (aS f) f.Lookups l forms run0.length 0 run0) (fun s=>pV wb f mb s.2.2.1 s.2.2.2.1 s.2.2.2.2) (fun s=>s.2.1) (0,run0.length,q0,run0,mp1) rfl ⟨rfl,trivial⟩ ⟨hq0,hr0,hmp1,by dsimp only;omega,by dsimp only;omega,rfl⟩ (fun _ _ h=>h) ?_
 rintro ⟨i,k,q,run,mp⟩ ⟨hq,hr,hmp,hi1,hk,hv⟩
 dsimp only at hq hr hmp hi1 hk hv ⊢
 try dsimp only [Kr,Kq,Kp,Lv]
 repeat' (first|refine L3 ?_|refine KG a4 HY ?_|(apply bo;first|refine KM a4 0 KC ?_|refine KM a4 1 KC ?_|refine KM a4 2 KC ?_|refine KM a4 3 KC ?_|refine KN a4 0 KC ?_|refine KN a4 1 KC ?_|refine KN a4 2 KC ?_|refine KO a4 1 KA (by assumption) rfl ?_|refine KO a4 0 KA (by assumption) rfl ?_|fail)|fail)
 refine iw a4 rfl hq rfl rfl ?_
 repeat' (first|refine L3 ?_|refine KG a4 HY ?_)
 refine aw rfl (fun h=>?_) (fun h=>?_)
 ·have hi:i < run.length:=by have:=Ky h;omega
  obtain ⟨k,rfl⟩:∃j,k=j+1:=⟨k - 1,by omega⟩
  rw [sm,if_pos hi] at hv
  have hma:=oX hf (wb:=wb) (v:=lR mb) l hlm q run hq hr i hi forms
  clear h
  repeat' (first|refine L3 ?_|refine ak ?_|refine KG a4 HY ?_)
  refine b6 (ey wb f (lR mb) q run) [nM mb mp] hma rfl rfl (Lz _) rfl fun c1 L1 ⟨hc1,hL⟩=>?_
  subst hc1;subst hL
  unfold rr
  cases hmn:kS (aS f) l run i forms with
  | none=>
   rw [lT hmn] at hv
   dsimp only at hv ⊢
   repeat' (first|refine L3 ?_|refine KG a4 HY ?_|(apply aU;refine aT ?_)|refine bH rfl ?_)
   exact aD (i+1,k,q,run,mp) rfl ⟨by rw [Kv];rfl,trivial⟩ ⟨hq,hr,hmp,by dsimp only;omega,by dsimp only;omega,hv⟩ (by dsimp only;omega) (fun _ _ h=>h)
  | some mr=>
   obtain ⟨r,hm,hmv⟩:=lU hmn
   rw [hmv] at hv
   dsimp only at hv ⊢
   rw [hm]
   simp only [Option.map_some,Option.getD_some]
   rw [show (dk (aS f) l.Ignore run i).take r.In.length=d8 (aS f) l run i r from rfl]
   obtain ⟨hps,hrm,hin,_,hhd⟩:=AW hmv
   generalize d8 (aS f) l run i r=ps at *
   have hd2:=Gz hf (wb:=wb) (mb:=mb) 4 0 rfl z l mr r ps q run mp hl hm (by omega) (by omega) (hf.ruleO hlm hrm hin) hps hq hr hmp
   obtain ⟨p,ps',rfl⟩:=List.exists_cons_of_ne_nil hps.some_
   simp only [List.head?_cons,Option.some.injEq] at hhd
   subst hhd
   obtain ⟨l1,l2,l3⟩:=qj hps
   have hr2:=(iK (ms:=aS f) (ls:=f.Lookups) 4 l r (p::ps') run).big hr
   have hnx:=FJ hps hr hr2
   have hlg2:=rI (p:=p) (q:=ps')
   have hnl:=f8 (p::ps')
   have hleft:l.Kind≠4→run.length - 1 - (p::ps').getLastD p≤(fq (aS f) f.Lookups 4 l r (p::ps') run).length:=fun h4=>vm h4 hps
   have hpl1:(p::ps').length=ps'.length+1:=rfl
   have hlen1:(1 < ((bQ (p::ps')).length:Int))↔p < (p::ps').getLastD p:=by
    rw [hnl,hpl1,←l3,←List.length_pos_iff]
    omega
   generalize fq (aS f) f.Lookups 4 l r (p::ps') run=R at *
   generalize (p::ps').getLastD p=last at *
   repeat' (first|refine L3 ?_|refine KG a4 HY ?_|(apply aU;refine aT ?_)|refine bE rfl ?_)
   refine aO a4 ?_ (hl:=by rw [hnl];exact hlg2) (h0:=by rw [hnl,hpl1];omega)
   repeat' (first|refine L3 ?_|refine KG a4 HY ?_|(apply bo;first|refine KM a4 0 KC ?_|refine KM a4 1 KC ?_|refine KM a4 2 KC ?_|refine KM a4 3 KC ?_|refine KN a4 0 KC ?_|refine KN a4 1 KC ?_|refine KN a4 2 KC ?_|refine KO a4 1 KA (by assumption) rfl ?_|refine KO a4 0 KA (by assumption) rfl ?_|fail)|fail)
   refine iw a4 rfl hq rfl rfl ?_
   repeat' (first|refine L3 ?_|refine KG a4 HY ?_|(apply aU;refine aT ?_)|fail)
   refine b6 (pV wb f mb q run mp) [] hd2 rfl rfl (bK rfl) rfl fun c1 L1 ⟨q2,mp3,k1,k2,k3⟩=>?_
   subst k3
   rw [List.append_nil]
   repeat' (first|refine L3 ?_|refine KG a4 HY ?_|(apply bo;first|refine KM a4 0 KC ?_|refine KM a4 1 KC ?_|refine KM a4 2 KC ?_|refine KM a4 3 KC ?_|refine KN a4 0 KC ?_|refine KN a4 1 KC ?_|refine KN a4 2 KC ?_|refine KO a4 1 KA (by assumption) rfl ?_|refine KO a4 0 KA (by assumption) rfl ?_|fail)|fail)
   refine iw a4 rfl k1 rfl rfl ?_
   repeat' (first|refine L3 ?_|refine ak ?_|refine KG a4 HY ?_|(apply bo;first|refine KM a4 0 KC ?_|refine KM a4 1 KC ?_|refine KM a4 2 KC ?_|refine KM a4 3 KC ?_|refine KN a4 0 KC ?_|refine KN a4 1 KC ?_|refine KN a4 2 KC ?_|refine KO a4 1 KA (by assumption) rfl ?_|refine KO a4 0 KA (by assumption) rfl ?_|fail)|(apply aU;refine aT ?_)|(apply aQ;first|refine aO a4 ?_|refine aG a4 ?_)|fail)
   refine aw rfl (fun h4=>?_) (fun h4=>?_)
   ·have hk4:l.Kind=4:=Ky h4
    unfold ki at hv hnx
    rw [if_pos hk4] at hv hnx
    repeat' (first|refine L3 ?_|refine KG a4 HY ?_|(apply aU;refine aT ?_)|fail)
    refine aD (max (R.length - (run.length - 1 - last)) (p+1),k,q2,R,mp3) rfl ⟨?_,trivial⟩ ⟨k1,hr2,k2,hnx.1,by have:=hnx.2;dsimp only;omega,hv⟩ (by dsimp only;omega) (fun _ _ h=>h)
    show some (AV.sc (.int .i64 (max ((R.length:Int) - ((run.length:Int) - 1 - last)) ((p:Int)+1))))=some (aF ((max (R.length - (run.length - 1 - last)) (p+1):Nat):Int))
    rw [show max ((R.length:Int) - ((run.length:Int) - 1 - last)) ((p:Int)+1)=((max (R.length - (run.length - 1 - last)) (p+1):Nat):Int) by omega]
   ·have hk4:l.Kind≠4:=Kx h4
    have hlf:=hleft hk4
    repeat' (first|refine L3 ?_|refine KG a4 HY ?_)
    refine aw rfl (fun h6=>?_) (fun h6=>?_)
    ·have hk6:l.Kind=6:=Ky h6
     repeat' (first|refine L3 ?_|refine KG a4 HY ?_)
     refine aw rfl (fun hp=>?_) (fun hp=>?_)
     ·have hpp:=hlen1.1 (Ky hp)
      unfold ki at hv hnx
      rw [if_neg hk4,if_pos ⟨hk6,hpp⟩] at hv hnx
      repeat' (first|refine L3 ?_|refine KG a4 HY ?_)
      exact aD (last,k,q2,R,mp3) rfl ⟨rfl,trivial⟩ ⟨k1,hr2,k2,hnx.1,by have:=hnx.2;dsimp only;omega,hv⟩ (by dsimp only;omega) (fun _ _ h=>h)
     ·have hpp:=mt hlen1.2 (Kx hp)
      unfold ki at hv hnx
      rw [if_neg hk4,if_neg (fun h=>hpp h.2)] at hv hnx
      repeat' (first|refine L3 ?_|refine KG a4 HY ?_)
      refine aD (R.length - (run.length - 1 - last),k,q2,R,mp3) rfl ⟨?_,trivial⟩ ⟨k1,hr2,k2,hnx.1,by have:=hnx.2;dsimp only;omega,hv⟩ (by dsimp only;omega) (fun _ _ h=>h)
      show some (AV.sc (.int .i64 ((R.length:Int) - ((run.length:Int) - 1 - last))))=some (aF ((R.length - (run.length - 1 - last):Nat):Int))
      rw [show (R.length:Int) - ((run.length:Int) - 1 - last)=((R.length - (run.length - 1 - last):Nat):Int) by omega]
    ·have hk6:l.Kind≠6:=Kx h6
     unfold ki at hv hnx
     rw [if_neg hk4,if_neg (fun h=>hk6 h.1)] at hv hnx
     repeat' (first|refine L3 ?_|refine KG a4 HY ?_)
     refine aD (R.length - (run.length - 1 - last),k,q2,R,mp3) rfl ⟨?_,trivial⟩ ⟨k1,hr2,k2,hnx.1,by have:=hnx.2;dsimp only;omega,hv⟩ (by dsimp only;omega) (fun _ _ h=>h)
     show some (AV.sc (.int .i64 ((R.length:Int) - ((run.length:Int) - 1 - last))))=some (aF ((R.length - (run.length - 1 - last):Nat):Int))
     rw [show (R.length:Int) - ((run.length:Int) - 1 - last)=((R.length - (run.length - 1 - last):Nat):Int) by omega]
 ·have hi:run.length≤i:=by have:=Kx h;omega
  have hrun:run=sm (aS f) f.Lookups l forms run0.length 0 run0:=by
   rw [←hv]
   cases k with
   | zero=>rw [sm]
   | succ k=>rw [sm,if_neg (by omega)]
  repeat' (first|refine L3 ?_|fail)
  exact ca rfl ⟨q,mp,by rw [←hrun];exact hq,hmp,by rw [←hrun];rfl⟩
end
end Go.Proofs.YtpmdfoaadejmkaaGreatDoor
namespace Go.Proofs.YtpmdfoaadejmkaaGreatDoor
open Go.RowKit
section
variable {P:Program} {r:Option Nat} {Q:Exit→Act→World→Prop} {nt:Nat} {D:List Deferred} {fr:cf} {B:Bs} {l:List Oper}
theorem xV {S:Nat→Bool} (hc:mP l.toArray S) {j:Nat}:∀(n i:Nat),d9 l.toArray n i j=true→(∀o,l[i]?=some o→∀e∈o.after,Region.binds .any e=true→S e.on=true)→S j=true:=by
 intro n i h hd'
 cases n with
 | zero=>simp [d9] at h
 | succ n=>
  simp only [d9] at h
  split at h
  ·cases h
  ·rename_i oi hoi
   rw [List.any_eq_true] at h
   obtain ⟨ed,hed,h⟩:=h
   simp only [Bool.and_eq_true,Bool.or_eq_true,Nat.beq_eq] at h
   have hse:=hd' oi (by simpa using hoi) ed (Array.mem_def.2 hed) h.1
   rcases h.2 with h2 | h2
   ·rw [←h2];exact hse
   ·exact eW hc n _ _ h2 hse
theorem ph:∀(sk:lp) (dn:List Nat),ly l dn sk=true→∀p∈sk,p.1∉dn
 | [],_,_,p,hp=>by simp at hp
 | (k,s)::r,dn,h,p,hp=>by
  obtain ⟨_,c0,_,_,_,c4⟩:=kA h
  rcases List.mem_cons.1 hp with rfl | hp
  ·exact c0
  ·exact fun hm=>ph r _ c4 p hp (Ks _ hm)
def xg (k0:Nat) (sk1:lp):List Nat:=k0::sk1.map (·.1)
theorem Hl {fin:iH} {acc:cf} {L:AL} (h:fin.fin acc L):DA P l fr fin [] acc L:=⟨.fin,rfl,h⟩
theorem C6 {id:Nat} {L:AL} (n0:Nat) (sk1 sk2:lp) (k0:Nat) (ab:AB) (vf:Nat→Value)
  (h:DA P l fr ⟨fun acc L1=>∀b,DA P l fr ⟨vt P r l n0 Q nt D fr B none,[]⟩ sk2 ((k0,.sc (vf b))::acc) (L1++[(b,ab)]),[]⟩ sk1 [] L)
  (hal:∃o,l[k0]?=some o∧o.guard=none∧∀fr B L,AO P o fr B L (fun c L'=>∃b,c= .sc (vf b)∧L'=(b,ab)::L))
  (hn0:Nat.ble n0 l.length=true) (ht:m7 l n0=true) (hck1:ly l [] sk1=true) (hck2:ly l (xg k0 sk1) sk2=true) (hcv:ni n0 (sk1++sk2) [k0]=true) (hre:(sk2.all fun p=>(xg k0 sk1).all fun j=>d9 l.toArray 8 p.1 j)=true) (hm:P.follows .mixedOrders=true) (ok:ij l=true) (hs:kT nt l=true):
  AT P r (.region id l.toArray true) Q nt D fr B L:=by
 obtain ⟨pl,hpl⟩:=h
 intro σ a w ha hw
 have hn0':n0≤l.length:=by simpa [Nat.ble_eq] using hn0
 have okG:jb l.toArray l=true:=by
  simp only [ij,Bool.and_eq_true] at ok
  exact ok.1.2
 simp only [ni,Bool.and_eq_true,List.all_eq_true,List.mem_range,Bool.or_eq_true,List.any_eq_true] at hcv
 obtain ⟨⟨hcv1,hcv2⟩,hcv3⟩:=hcv
 have hlt:∀p∈sk1++sk2,p.1 < n0:=fun p hp=>by have:=(hcv2 p hp).1;simpa [Nat.blt_eq] using this
 have hnal:∀p∈sk1++sk2,p.1≠k0:=fun p hp e=>by
  have:=(hcv2 p hp).2
  simp [e] at this
 have hk0:k0 < n0:=by have:=hcv3 k0 (by simp);simpa [Nat.blt_eq] using this
 have hdis:∀p∈sk2,p.1∉xg k0 sk1:=ph sk2 _ hck2
 have hreach:∀p∈sk2,∀j∈xg k0 sk1,d9 l.toArray 8 p.1 j=true:=fun p hp j hj=>List.all_eq_true.1 (List.all_eq_true.1 hre p hp) j hj
 have hf0:∀(τ:cr),σ.le τ→∀t c,ci fr t=some c→∃v,f0 (la fr a) t=some v∧VR τ c v:=fun τ hle t c hc=>⟨a.tmps.getD t undef,by rw [kG,hc];rfl,(ha.look t c hc).mono hle⟩
 let fin2:iH:=⟨vt P r l n0 Q nt D fr B none,[]⟩
 let ph1:(Nat→Bool)→(Nat→Value)→World→Prop:=fun S ε w'=>∃τ La Lc,σ.le τ∧di B τ (Lc++La) w'∧jq τ S ε pl L Lc∧(∃b,(S k0=true→ε k0=vf b)∧La=if S k0 then [(b,ab)] else [])∧∀p∈sk2,S p.1=false
 let ph2:(Nat→Bool)→(Nat→Value)→World→Prop:=fun S ε w'=>∃τ Lc,σ.le τ∧di B τ (Lc++[]) w'∧(∀j∈xg k0 sk1,S j=true)∧∃pl2 acc L1,dq P l fr fin2 pl2 sk2 acc L1∧(∀p∈sk2,∀q,ci acc p.1≠some q)∧(∀j∈xg k0 sk1,VR τ (ox acc j) (ε j))∧jq τ S ε pl2 L1 Lc
 have tr:∀S ε w',ph1 S ε w'→(∀j∈xg k0 sk1,S j=true)→ph2 S ε w':=by
  rintro S ε w' ⟨τ,La,Lc,hle,hst,hsh,⟨b,hA1,hA2⟩,h2⟩ hS
  have hS0:S k0=true:=hS k0 (List.mem_cons_self ..)
  rw [hS0,if_pos rfl] at hA2
  subst hA2
  obtain ⟨acc',hf,hv,hacc⟩:=oa pl sk1 [] L Lc hpl (fun p hp=>hS p.1 (Ks _ (List.mem_map_of_mem hp))) (by simp [ci]) (js sk1 [] hck1) hsh
  obtain ⟨pl2,hpl2⟩:=hf b
  refine ⟨τ,Lc++[(b,ab)],hle,by rw [List.append_nil];exact hst,hS,pl2,_,_,hpl2,fun p hp q hq=>?_,fun j hj=>?_,jq.fresh pl2 sk2 _ _ hpl2 h2⟩
  ·rw [cz,if_neg (hnal p (List.mem_append_right _ hp)).symm,hacc p.1 (fun p' hp' e=>hdis p hp (Ks _ (by rw [←e];exact List.mem_map_of_mem hp')))] at hq
   simp [ci] at hq
  ·rw [nL]
   by_cases e:k0=j
   ·subst e
    rw [if_pos rfl,hA1 hS0]
    exact .sc _
   ·rw [if_neg e]
    rcases List.mem_cons.1 hj with rfl | hj
    ·exact absurd rfl e
    ·obtain ⟨p,hp,rfl⟩:=List.mem_map.1 hj
     exact hv p hp
 refine zl (D:=D) (fr:=la fr a) (I:=fun w'=>w'=w) n0 (J:=fun S ε w'=>ph1 S ε w'∨ph2 S ε w') hn0' ht hm ok hs ?_ ?_ ?_ a w ?_ rfl
 ·rintro w' n rfl
  exact .inl ⟨σ,[],L,cr.le_refl _,by rw [List.append_nil];exact hw.drew n,jq.fresh pl sk1 _ L hpl (fun _ _=>rfl),⟨0,by simp,by simp⟩,fun _ _=>rfl⟩
 ·intro k o hk ho S ε hc hSk hd
  have key:(∀(ρ:Operand→Value) (w':World),(∀x v,wy (ow l.toArray ε (la fr a) o.after.toList) x=some v→ρ x=v)→(ph1 S ε w'∨ph2 S ε w')→Cn o ε (gR P o ρ w' fun v w''=>ph1 (mark S k) (jP ε k v) w''∨ph2 (mark S k) (jP ε k v) w'') (ph1 (mark S k) (jP ε k undef) w'∨ph2 (mark S k) (jP ε k undef) w'))→(match o.guard with
    | none=>∀(ρ:Operand→Value) (w':World),(∀x v,wy (ow l.toArray ε (la fr a) o.after.toList) x=some v→ρ x=v)→(ph1 S ε w'∨ph2 S ε w')→gR P o ρ w' fun v w''=>ph1 (mark S k) (jP ε k v) w''∨ph2 (mark S k) (jP ε k v) w''
    | some (g,want)=>(ε g= .bool want→∀(ρ:Operand→Value) (w':World),(∀x v,wy (ow l.toArray ε (la fr a) o.after.toList) x=some v→ρ x=v)→(ph1 S ε w'∨ph2 S ε w')→gR P o ρ w' fun v w''=>ph1 (mark S k) (jP ε k v) w''∨ph2 (mark S k) (jP ε k v) w'')∧(ε g≠ .bool want→∀w',(ph1 S ε w'∨ph2 S ε w')→(ph1 (mark S k) (jP ε k undef) w'∨ph2 (mark S k) (jP ε k undef) w'))):=by
   intro st
   unfold Cn at st
   cases hg:o.guard with
   | none=>simp only [hg] at st ⊢;exact st
   | some q=>
    obtain ⟨g,want⟩:=q
    simp only [hg] at st ⊢
    refine ⟨fun hy ρ w' hρ hJ=>(st ρ w' hρ hJ).1 hy,fun hne w' hJ=>?_⟩
    classical
    exact (st (fun x=>(wy (ow l.toArray ε (la fr a) o.after.toList) x).getD undef) w' (fun x v hx=>by simp [hx]) hJ).2 hne
  have h2no:(k=k0∨k∈sk1.map (·.1))→∀w',¬ph2 S ε w':=by
   rintro hkk w' ⟨_,_,_,_,hS,_⟩
   have:S k=true:=hS k (List.mem_cons.2 hkk)
   rw [hSk] at this
   cases this
  refine key ?_
  rcases hcv1 k hk with ⟨p,hp,he⟩ | ⟨k',hk',he⟩
  ·rw [Nat.beq_eq] at he
   have hkk0:k0≠k:=fun e=>hnal p hp (by rw [←he,e])
   have m1:mark S k k0=S k0:=by simp [mark,hkk0]
   have m2:∀v,jP ε k v k0=ε k0:=fun v=>by simp [jP,hkk0]
   rcases Ly hp with hp | hp
   ·have hks:∃s,(k,s)∈sk1:=⟨p.2,by rw [he];exact hp⟩
    have hkm:k∈sk1.map (·.1):=by rw [he];exact List.mem_map_of_mem hp
    have hm2:∀q∈sk2,S q.1=false→mark S k q.1=false:=fun q hq h=>by
     have:q.1≠k:=fun e=>hdis q hq (Ks _ (by rw [e];exact hkm))
     simp [mark,this,h]
    rintro ρ w' hρ (⟨τ,La,Lc,hle,hst,hsh,⟨b,hA1,hA2⟩,h2⟩ | hbad)
    ·refine (m4 (B:=B) (La:=La) (w:=w') okG ho hc hSk hd (hf0 τ hle) hρ pl sk1 [] [] L Lc hpl hck1 (by simp) hks hsh hst).mono (fun h=>?_) (fun h=>?_)
     ·exact h.mono fun v w'' ⟨τ',Lc',h1,h3,h4⟩=> .inl ⟨τ',La,Lc',cr.le_trans hle h1,h4,h3,⟨b,by rw [m1,m2];exact hA1,by rw [m1];exact hA2⟩,fun q hq=>hm2 q hq (h2 q hq)⟩
     ·obtain ⟨Lc',h3,h4⟩:=h
      exact .inl ⟨τ,La,Lc',hle,h4,h3,⟨b,by rw [m1,m2];exact hA1,by rw [m1];exact hA2⟩,fun q hq=>hm2 q hq (h2 q hq)⟩
    ·exact absurd hbad (h2no (.inr hkm) w')
   ·have hks:∃s,(k,s)∈sk2:=⟨p.2,by rw [he];exact hp⟩
    have hall:∀j∈xg k0 sk1,S j=true:=fun j hj=>xV hc 8 k (by rw [he];exact hreach p hp j hj) fun o' ho'=>by
     have:o'=o:=by rw [ho] at ho';injection ho' with h;exact h.symm
     subst this
     exact hd
    have hkd:k∉xg k0 sk1:=by rw [he];exact hdis p hp
    intro ρ w' hρ hJ
    have h2:ph2 S ε w':=hJ.elim (fun h=>tr S ε w' h hall) fun h=>h
    obtain ⟨τ,Lc,hle,hst,hS,pl2,acc,L1,hpl2,hac,hvr,hsh⟩:=h2
    have hS':∀j∈xg k0 sk1,mark S k j=true:=fun j hj=>by
     have:j≠k:=fun e=>hkd (e▸hj)
     simp [mark,this,hS j hj]
    have hv':∀(τ':cr) v,τ.le τ'→∀j∈xg k0 sk1,VR τ' (ox acc j) (jP ε k v j):=fun τ' v hle' j hj=>by
     have:j≠k:=fun e=>hkd (e▸hj)
     simp only [jP,if_neg this]
     exact (hvr j hj).mono hle'
    refine (m4 (B:=B) (La:=[]) (w:=w') okG ho hc hSk hd (hf0 τ hle) hρ pl2 sk2 (xg k0 sk1) acc L1 Lc hpl2 hck2 (fun j hj _=>hvr j hj) hks hsh hst).mono (fun h=>?_) (fun h=>?_)
    ·exact h.mono fun v w'' ⟨τ',Lc',h1,h3,h4⟩=> .inr ⟨τ',Lc',cr.le_trans hle h1,h4,hS',pl2,acc,L1,hpl2,hac,hv' τ' v h1,h3⟩
    ·obtain ⟨Lc',h3,h4⟩:=h
     exact .inr ⟨τ,Lc',hle,h4,hS',pl2,acc,L1,hpl2,hac,hv' τ undef (cr.le_refl _),h3⟩
  ·rw [Nat.beq_eq] at he
   simp only [List.mem_singleton] at hk'
   subst hk'
   subst he
   obtain ⟨o',ho',hg,hAO⟩:=hal
   have:o'=o:=by rw [ho] at ho';injection ho' with h;exact h.symm
   subst this
   rintro ρ w' hρ (⟨τ,La,Lc,hle,hst,hsh,⟨b0,hA1,hA2⟩,h2⟩ | hbad)
   ·unfold Cn
    simp only [hg]
    rw [hSk] at hA2
    simp only [Bool.false_eq_true,if_false] at hA2
    subst hA2
    refine (hAO [] B (Lc++[]) τ ρ w' (fun x c hx=>?_) hst).mono ?_
    ·cases x with
     | tmp t=>simp [br,ci] at hx
     | const v=>simp only [br,Option.some.injEq] at hx;subst hx;rw [hρ (.const v) v rfl];exact .sc _
     | global g=>simp only [br,Option.some.injEq] at hx;subst hx;rw [hρ (.global g) _ rfl];exact .sc _
     | func f=>simp only [br,Option.some.injEq] at hx;subst hx;rw [hρ (.func f) _ rfl];exact .sc _
    ·rintro v w'' ⟨τ',c,L',h1,h3,h4,b,rfl,rfl⟩
     have hv:=h3.sc_inv
     refine .inl ⟨τ',[(b,ab)],Lc,cr.le_trans hle h1,?_,jq.congr pl sk1 _ L Lc hpl (fun p hp=>?_) (hsh.mono h1),⟨b,fun _=>by simp [jP,hv],by simp [mark]⟩,fun q hq=>?_⟩
     ·rw [List.append_nil] at h4
      exact h4.perm (List.perm_append_comm (l₁:=[_]))
     ·have:=hnal p (List.mem_append_left _ hp)
      simp [mark,jP,this]
     ·have:=hnal q (List.mem_append_right _ hq)
      simp [mark,this,h2 q hq]
   ·exact absurd hbad (h2no (.inl rfl) w')
 ·intro ε a' w' ha' hJ
  have hall:∀j∈xg k0 sk1,decide (j < n0)=true:=fun j hj=>by
   rcases List.mem_cons.1 hj with rfl | hj
   ·simpa using hk0
   ·obtain ⟨p,hp,rfl⟩:=List.mem_map.1 hj
    simpa using hlt p (List.mem_append_left _ hp)
  have h2:ph2 (fun i=>decide (i < n0)) ε w':=by
   rcases hJ with h | h
   ·by_cases he:sk2=[]
    ·exact tr _ _ _ h hall
    ·obtain ⟨p,q,hpq⟩:=List.exists_cons_of_ne_nil he
     obtain ⟨_,_,_,_,_,_,_,h5⟩:=h
     have h6:=h5 p (by rw [hpq];exact List.mem_cons_self ..)
     have h7:=hlt p (List.mem_append_right _ (by rw [hpq];exact List.mem_cons_self ..))
     simp only [decide_eq_false_iff_not] at h6
     exact absurd h7 h6
   ·exact h
  obtain ⟨τ,Lc,hle,hst,hS,pl2,acc,L1,hpl2,hac,hvr,hsh⟩:=h2
  obtain ⟨acc',hf,hv,hacc⟩:=oa pl2 sk2 acc L1 Lc hpl2 (fun p hp=>by simpa using hlt p (List.mem_append_right _ hp)) hac (js sk2 _ hck2) hsh
  have hag:jo τ nt D (iv l.toArray acc' fr n0) a':=⟨ha'.size,ha'.defers,fun t c hc=>by
   obtain ⟨v,h1,h2⟩:=oS (ops:=l.toArray) (acc:=acc') (ε:=ε) (hf0 τ hle) n0 (fun i hi=>by
    rcases hcv1 i hi with ⟨p,hp,he⟩ | ⟨k',hk',he⟩
    ·rw [Nat.beq_eq] at he
     rcases Ly hp with hp | hp
     ·have hin:i∈xg k0 sk1:=Ks _ (by rw [he];exact List.mem_map_of_mem hp)
      have:=hvr i hin
      rw [ox,hacc i (fun q hq e=>hdis q hq (e▸hin))]
      exact this
     ·rw [he];exact hv p hp
    ·rw [Nat.beq_eq] at he
     simp only [List.mem_singleton] at hk'
     subst hk'
     subst he
     have hin:i∈xg i sk1:=List.mem_cons_self ..
     have:=hvr i hin
     rw [ox,hacc i (fun q hq e=>hdis q hq (e▸hin))]
     exact this) t c hc
   rw [ha'.look t v h1]
   exact h2⟩
  have hf':vt P r l n0 Q nt D fr B none acc' Lc:=hf
  rw [List.append_nil] at hst
  exact hf' τ a' w' hag hst
 ·refine ⟨ha.size,ha.defers,fun t v hv=>?_⟩
  rw [kG] at hv
  cases hq:ci fr t with
  | none=>rw [hq] at hv;cases hv
  | some c=>rw [hq] at hv;simpa using hv
end
end Go.Proofs.YtpmdfoaadejmkaaGreatDoor
namespace Go.Proofs.YtpmdfoaadejmkaaGreatDoor
open Go.RowKit
attribute [local irreducible] AT bJ AX AO Av Kt bi dq DA cG
section
variable {P:Program} {l:List Oper} {fr:cf} {fin:iH} {sk:lp} {acc:cf} {L:AL} {k:Nat} {dd:Option Tmp} {ty t t':TypeId} {pos:String} {af:Array Edge} {g:Option (Nat×Bool)} {x y:Operand} {u:AV}
theorem Hk {cs:List AV} (hx:br (cE l.toArray acc fr af.toList) x=some u) (hc:u.cells=some cs) (hg:iO ⟨dd,.box t x,ty,pos,af,g⟩ acc) (h:∀b,DA P l fr fin sk ((k,Eu b)::acc) ((b,.box cs t)::L)):cG P l fr fin k .a ⟨dd,.box t x,ty,pos,af,g⟩ sk acc L:=
 Cz (fun c L' ⟨b,_,h2⟩=>⟨[(b,.box cs t)],h2⟩) hg (fun _=>BW hx hc) fun c L' ⟨b,h1,h2⟩=>by subst h1;subst h2;exact h b
end
theorem ql {nt:Nat} {fr:cf} {B:Bs} {D:List Deferred} {t wb mb:Nat} {f:aZ} {q:Option dD} {run:List aJ} {mp:Value→Option AV} (hq:cu q run) (hl:ci fr t=some (cM q run)):mQ nt D B fr (pV wb f mb q run mp) ((t,.imm 6 (run.map bO))::fr) [nM mb mp]:=fun σ a w ha hw=>
 pd hq hl σ a w ha (hw.sublist (List.sublist_cons_self ..))
set_option maxHeartbeats 8000000 in
theorem rV {f:aZ} (hf:iz f) (n:Int) (run:List aJ) (hr:run.length≤1000000) (forms:List Int):bU Tryz.prog 31 [df f,aF n,.imm 6 (run.map bO),.imm 1 (aW forms)] (.imm 6 ((cK (aS f) f.Lookups n run forms).map bO)):=by
 refine aN Tryz.func31 rfl Tryz.ntmps31 rfl fun B=>?_
 have hm0:fX f fun _=>none:=fun u c h=>by cases h
 have hll:(f.Lookups.map bw).length=f.Lookups.length:=Ku ..
 repeat' (first|refine L3 ?_|refine KG a4 HY ?_|refine bA ?_|fail)
 refine C6 7 [(0,.v),(1,.v),(2,.e)] [(4,.v),(5,.a),(6,.v)] 3 (dc (.int .i64) fun _=>none) (fun b=> .map (some b)) ?_ ⟨_,rfl,rfl,fun _ _ _=>qD _⟩ rfl (by kernel_rfl) (by kernel_rfl) (by kernel_rfl) (by kernel_rfl) (by kernel_rfl) bI (by kernel_rfl) rfl
 repeat' (first|refine aB ?_|refine aX a4 ?_|fail)
 refine fG [] [] (x8 run hr) rfl rfl (Lz _) trivial fun c L1 ⟨q,hq,hc,hL⟩=>?_
 subst hc;subst hL
 refine Hl fun mb=>?_
 rw [List.append_nil]
 repeat' (first|refine aB ?_|fail)
 refine aX (u:= .agg (cJ f++[cM q run,lR mb])) a4 ?_ (hu:=by cases q <;> rfl)
 repeat' (first|refine aB ?_|fail)
 refine Hk rfl rfl trivial fun wb=>?_
 repeat' (first|refine aB ?_|refine aX a4 ?_|fail)
 refine KU [9,8,4,3,1] HY ?_
 repeat' (first|refine L3 ?_|refine a7 ?_|refine KG a4 HY ?_)
 by_cases hin:0≤n∧n < f.Lookups.length
 ·obtain ⟨z,rfl⟩:∃z:Nat,n=z:=⟨n.toNat,by omega⟩
  have hz:z < f.Lookups.length:=by omega
  obtain ⟨l,hl⟩:∃l,f.Lookups[z]?=some l:=⟨_,Kz hz⟩
  have hlg:=c5 (c:=bw) hl
  have hav:=zG (ms:=aS f) hl run forms
  refine ce [1,3,4,9] False rfl (fun Q' K=>?_) (fun hC=>hC.elim) (fun hC=>?_)
  ·repeat' (first|refine L3 ?_|refine KG a4 HY ?_|refine KR HY ?_)
   all_goals first | exact K _ _ rfl rfl (by simp_all <;> omega) | (exfalso;simp_all <;> omega)
  ·clear hC
   repeat' (first|refine L3 ?_|refine ak ?_|refine KG a4 HY ?_|(apply aQ;first|refine aO a4 ?_|refine aG a4 ?_)|fail)
   refine ce [1,3,9,10] (l.Kind < 1∨6 < l.Kind) rfl (fun Q' K=>?_) (fun hC=>?_) (fun hC=>?_)
   ·repeat' (first|refine L3 ?_|refine KG a4 HY ?_|refine KR HY ?_|refine KV KB ?_|refine KW KA (fun _=>?_) (fun _=>?_))
    all_goals first | exact K _ _ rfl rfl (by simp_all <;> omega) | (exfalso;simp_all <;> omega)
   ·rw [if_pos hC] at hav
    rw [hav]
    repeat' (first|refine L3 ?_|refine KG a4 HY ?_|(apply bo;first|refine KM a4 0 KC ?_|refine KM a4 1 KC ?_|refine KM a4 2 KC ?_|refine KM a4 3 KC ?_|refine KN a4 0 KC ?_|refine KN a4 1 KC ?_|refine KN a4 2 KC ?_|refine KO a4 1 KA (by assumption) rfl ?_|refine KO a4 0 KA (by assumption) rfl ?_|fail)|fail)
    refine bj (ql (t:=8) hq rfl) ?_
    exact KQ KA
   ·rw [if_neg hC] at hav
    repeat' (first|refine L3 ?_|refine KG a4 HY ?_)
    refine aw rfl (fun h5=>?_) (fun h5=>?_)
    ·have h5:l.Kind=5:=Ky h5
     rw [if_pos h5] at hav
     have hdn:=CE hf wb mb z l hl h5 forms q run (fun _=>none) hq hr hm0
     repeat' (first|refine L3 ?_|refine KG a4 HY ?_)
     refine b6 (pV wb f mb q run fun _=>none) [] hdn rfl rfl (bK rfl) rfl fun c L1 ⟨q',mp',g1,g2,g3⟩=>?_
     subst g3
     rw [List.append_nil,hav]
     repeat' (first|refine L3 ?_|refine KG a4 HY ?_|(apply bo;first|refine KM a4 0 KC ?_|refine KM a4 1 KC ?_|refine KM a4 2 KC ?_|refine KM a4 3 KC ?_|refine KN a4 0 KC ?_|refine KN a4 1 KC ?_|refine KN a4 2 KC ?_|refine KO a4 1 KA (by assumption) rfl ?_|refine KO a4 0 KA (by assumption) rfl ?_|fail)|fail)
     refine bj (ql (t:=8) g1 rfl) ?_
     exact KQ KA
    ·have h5:l.Kind≠5:=Kx h5
     rw [if_neg h5] at hav
     have hon:=HK hf wb mb z l hl (by omega) (by omega) forms q run (fun _=>none) hq hr hm0
     repeat' (first|refine L3 ?_|refine KG a4 HY ?_)
     refine b6 (pV wb f mb q run fun _=>none) [] hon rfl rfl (bK rfl) rfl fun c L1 ⟨q',mp',g1,g2,g3⟩=>?_
     subst g3
     rw [List.append_nil,hav]
     repeat' (first|refine L3 ?_|refine KG a4 HY ?_|(apply bo;first|refine KM a4 0 KC ?_|refine KM a4 1 KC ?_|refine KM a4 2 KC ?_|refine KM a4 3 KC ?_|refine KN a4 0 KC ?_|refine KN a4 1 KC ?_|refine KN a4 2 KC ?_|refine KO a4 1 KA (by assumption) rfl ?_|refine KO a4 0 KA (by assumption) rfl ?_|fail)|fail)
     refine bj (ql (t:=8) g1 rfl) ?_
     exact KQ KA
 ·have hav:cK (aS f) f.Lookups n run forms=run:=wR (by omega)
  rw [hav]
  refine ce [1,3,4,9] True rfl (fun Q' K=>?_) (fun hC=>?_) (fun hC=>(hC trivial).elim)
  ·repeat' (first|refine L3 ?_|refine KG a4 HY ?_|refine KR HY ?_|refine KV KB ?_|refine KW KA (fun _=>?_) (fun _=>?_))
   all_goals first | exact K _ _ rfl rfl (by simp_all <;> omega) | (exfalso;simp_all <;> omega)
  ·repeat' (first|refine L3 ?_|refine KG a4 HY ?_|(apply bo;first|refine KM a4 0 KC ?_|refine KM a4 1 KC ?_|refine KM a4 2 KC ?_|refine KM a4 3 KC ?_|refine KN a4 0 KC ?_|refine KN a4 1 KC ?_|refine KN a4 2 KC ?_|refine KO a4 1 KA (by assumption) rfl ?_|refine KO a4 0 KA (by assumption) rfl ?_|fail)|fail)
   refine bj (ql (t:=8) hq rfl) ?_
   exact KQ KA
end Go.Proofs.YtpmdfoaadejmkaaGreatDoor
namespace Go.Proofs.YtpmdfoaadejmkaaGreatDoor
open Go.RowKit
attribute [local irreducible] AT bJ AX AO Av Kt bi dq DA cG
theorem xH (l:List Int):bU Tryz.prog 14 [.imm 1 (aW l)] (df (lg (l.take 300))):=by
 refine aN Tryz.func14 rfl Tryz.ntmps14 rfl fun B=>?_
 refine cW 0 rfl rfl fun hl=>?_
 have hil:=bb l
 repeat' (first|refine L3 ?_|refine KG a4 HY ?_|refine bq a4 fun _=>?_|fail)
 refine yZ a4 (min l.length 300) rfl rfl rfl rfl rfl (by omega) (by omega) rfl ?_
 have ht:l.take (min l.length 300)=l.take 300:=by
  rcases Nat.le_total l.length 300 with h | h
  ·rw [Nat.min_eq_left h,List.take_length,List.take_of_length_le h]
  ·rw [Nat.min_eq_right h]
 rw [show (aW l).take (min l.length 300)=aW (l.take 300) from by rw [←ht];unfold aW;rw [List.map_take]]
 refine bv (hc:=⟨Dl (l.take 300) (by rw [List.length_take];omega)⟩) ?_
 repeat' (first|refine L3 ?_|(apply aM;first|refine KH a4 0 KE ?_|refine KH a4 1 KE ?_|refine KH a4 2 KE ?_|refine KH a4 3 KE ?_|fail))
 exact yx a4 0 rfl rfl rfl rfl rfl rfl
theorem Au (g:Int) (l:List Int):(vG g l).length≤60:=by
 unfold vG
 rw [oV,List.length_take]
 omega
def K2 (l:List (List Int)):List (List Int):=(l.take 12).map fun q=>q.take 12
theorem y0 (l:List (List Int)) (q:List Int):bc l++[[.imm 1 (aW q)]]=bc (l++[q]):=by simp [bc]
def Kg (h:List (List Int)) (k:Nat):List Int:=if k=0 then [] else h.headD []
def mS (k:Nat):List Int:=(List.range k).map fun (i:Nat)=>(i:Int)
theorem uR (k:Nat):(mS k).length=k:=by simp [mS]
theorem sK (k:Nat):mS (k+1)=mS k++[(k:Int)]:=by
 unfold mS
 rw [List.range_succ,List.map_append]
 rfl
def lP (ap:Int→List aJ→List Int→List aJ) (fm:List Int) (w:List aJ) (k:Nat):List aJ:=(mS k).foldl (fun r n=>ap n r fm) w
theorem xA {ap:Int→List aJ→List Int→List aJ} {fm:List Int} {w:List aJ} {k:Nat}:lP ap fm w (k+1)=ap (k:Int) (lP ap fm w k) fm:=by
 unfold lP
 rw [sK,List.foldl_append]
 rfl
theorem wc {ap:Int→List aJ→List Int→List aJ} {fm:List Int}:∀(ns:List Int) (run:List aJ),uw ap ns (List.replicate ns.length fm) run=ns.foldl (fun r n=>ap n r fm) run
 | [],_=>rfl
 | n::ns,run=>by
  rw [List.length_cons,List.replicate_succ,uw,List.foldl_cons]
  exact wc ns _
set_option maxHeartbeats 8000000 in
theorem Be (l run forms:List Int):AC Tryz.prog 12 [.imm 1 (aW l),.imm 1 (aW run),.imm 1 (aW forms)] [dN] fun c L=>c=d6 true∧L=[dN]:=by
 refine aN Tryz.func12 rfl Tryz.ntmps12 rfl fun B=>?_
 repeat' (first|refine L3 ?_|refine KG a4 HY ?_)
 refine b6 [dN] [] Ec rfl rfl (Lz _) rfl fun c L1 ⟨hc,hL⟩=>?_
 subst hc;subst hL
 repeat' (first|refine L3 ?_|refine KG a4 HY ?_)
 refine bv (hc:=⟨xH l⟩) ?_
 have hM:=qg (l.take 300)
 have hE:=Dm (l.take 300)
 generalize lg (l.take 300)=f at hM hE ⊢
 have hgn:=hM.glyN
 have hln:=hM.looks.len
 have hgm:(f.Glyphs.map bT).length=f.Glyphs.length:=Ku ..
 have hlm:(f.Lookups.map bw).length=f.Lookups.length:=Ku ..
 repeat' (first|refine L3 ?_|refine KG a4 HY ?_|(apply aM;first|refine KL 8 a4 0 KF ?_|refine KL 8 a4 1 KF ?_|refine KL 8 a4 2 KF ?_|refine KH a4 0 KE ?_|refine KH a4 1 KE ?_|refine KH a4 2 KE ?_|refine KH a4 3 KE ?_|fail)|refine bq a4 fun _=>?_|fail)
 refine b6 [] _ hE rfl rfl (Lz _) rfl fun c L1 hc=>?_
 obtain ⟨E,hE,hA,rfl⟩:=hc
 refine aP (c6 (L':=[dN]) (List.sublist_append_right ..)) ?_
 repeat' (first|refine L3 ?_|refine KG a4 HY ?_|refine KR HY ?_)
 refine ce [1,2,8,9] False rfl (fun Q' K=>?_) (fun hC=>hC.elim) (fun _=>?_)
 ·repeat' (first|fail)
  refine rD Tryz.underlying34 rfl rfl rfl rfl ?_
  repeat' (first|refine L3 ?_|refine KG a4 HY ?_)
  exact K _ _ rfl rfl (by simp)
 repeat' (first|refine L3 ?_|refine KG a4 HY ?_)
 refine bv (hc:=⟨D7 run ((f.Glyphs.map bT).length:Int) (by omega)⟩) ?_
 have hw:=Au ((f.Glyphs.map bT).length:Int) run
 generalize vG ((f.Glyphs.map bT).length:Int) run=w at hw ⊢
 repeat' (first|refine L3 ?_|refine ak ?_|refine KG a4 HY ?_|refine rE (n:=0) a4 fun _=>?_|fail)
 refine aR [2,8,9,11] (α:=Nat×Option (Nat×Nat)×Option (Nat×Nat)) (fun s=>[(15,aF s.1),(12,.vec s.2.1 1 (aW (mS s.1))),(13,.vec s.2.2 1 (bc (List.replicate s.1 (forms.take 12)))),(14,.imm 6 ((lP (cK (aS f) f.Lookups) (forms.take 12) w s.1).map bO))]) (fun s=>s.1≤f.Lookups.length∧(lP (cK (aS f) f.Lookups) (forms.take 12) w s.1).length≤1000000) (fun s=>tok s.2.2 22 1 s.1++(tok s.2.1 3 1 s.1++[dN])) (fun s=>f.Lookups.length - s.1) (0,some (_,0),some (_,0)) rfl ⟨rfl,rfl,rfl,rfl,trivial⟩ ⟨Nat.zero_le _,by dsimp only;show w.length≤_;omega⟩ (fun _ _ h=>h) ?_
 rintro ⟨k,s1,s2⟩ ⟨hk,hlb⟩
 dsimp only at hk hlb ⊢
 have hal:=uR k
 have hzl:=bb (mS k)
 have hel:(bc (List.replicate k (forms.take 12))).length=k:=by rw [bY,List.length_replicate]
 try dsimp only [Kr,Kq,Kp,Lv]
 repeat' (first|refine L3 ?_|refine KG a4 HY ?_)
 refine aw rfl (fun h=>?_) (fun h=>?_)
 ·have hk2:k < f.Lookups.length:=by have:=Ky h;omega
  have hA1:=hA.ac (k:Int) (lP (cK (aS f) f.Lookups) (forms.take 12) w k) (forms.take 12) hlb
  haveI i1:AD Tryz.prog 31 [df f,aF k,.imm 6 ((lP (cK (aS f) f.Lookups) (forms.take 12) w k).map bO),.imm 1 (aW (forms.take 12))] (.imm 6 ((cK (aS f) f.Lookups (k:Int) (lP (cK (aS f) f.Lookups) (forms.take 12) w k) (forms.take 12)).map bO)):=⟨rV hM.fontN _ _ hlb _⟩
  have b1:=hA.len (k:Int) _ (forms.take 12) hlb
  have hsn:=xA (ap:=cK (aS f) f.Lookups) (fm:=forms.take 12) (w:=w) (k:=k)
  have hzs:aW (mS k)++[[aF k]]=aW (mS (k+1)):=by rw [sK];simp [aW]
  have hes:bc (List.replicate k (forms.take 12))++[[.imm 1 (aW (forms.take 12))]]=bc (List.replicate (k+1) (forms.take 12)):=by rw [y0,List.replicate_succ']
  generalize lP (cK (aS f) f.Lookups) (forms.take 12) w k=r0 at *
  generalize cK (aS f) f.Lookups (k:Int) r0 (forms.take 12)=r1 at *
  haveI i3:AD Tryz.prog 19 [.imm 1 (aW forms)] (.imm 1 (aW (forms.take 12))):=⟨Fn forms⟩
  haveI i4:AD Tryz.prog 17 [.imm 6 (r1.map bO),.imm 6 (r1.map bO)] (d6 (decide (r1=r1))):=⟨wf r1 r1 b1⟩
  have hz2:(aW (mS (k+1))).length=k+1:=by rw [bb,uR]
  have he2:(bc (List.replicate (k+1) (forms.take 12))).length=k+1:=by rw [bY,List.length_replicate]
  have hpm:∀A C:AL,([dN]++(A++C)).Perm (A++(C++[dN])):=fun A C=>by rw [←List.append_assoc A];exact List.perm_append_comm
  clear h
  repeat' (first|refine L3 ?_|refine ak ?_|refine KG a4 HY ?_|refine bW a4 ?_|fail)
  refine bV a4 (tok s2 22 1 k++[dN]) rfl rfl rfl rfl (by rw [hzl,hal,←List.append_assoc,←List.append_assoc];exact List.Perm.append_right _ List.perm_append_comm) (by rw [hzl,hal];simp only [List.length_cons,List.length_nil];omega) (by rw [hzl,hal];simp only [List.length_cons,List.length_nil];omega) rfl fun s1'=>?_
  rw [hzs,hz2]
  repeat' (first|refine L3 ?_|refine KG a4 HY ?_|refine bW a4 ?_|(apply bF;refine bv ?_)|fail)
  refine bV a4 (tok s1' 3 1 (k+1)++[dN]) rfl rfl rfl rfl (by rw [hel,←List.append_assoc,←List.append_assoc];exact List.Perm.append_right _ List.perm_append_comm) (by rw [hel];simp only [List.length_cons,List.length_nil];omega) (by rw [hel];simp only [List.length_cons,List.length_nil];omega) rfl fun s2'=>?_
  rw [hes,he2]
  repeat' (first|refine L3 ?_|refine KG a4 HY ?_|(apply bF;refine bv ?_)|fail)
  refine b6 [dN] (tok s2' 22 1 (k+1)++tok s1' 3 1 (k+1)) hA1 rfl rfl (by rw [←List.append_assoc];exact List.perm_append_comm) rfl fun c L1 ⟨hc,hL⟩=>?_
  subst hc;subst hL
  repeat' (first|refine L3 ?_|refine KG a4 HY ?_)
  refine bn 7 [(0,.v),(1,.v),(2,.v),(3,.v),(4,.v),(5,.v),(6,.v)] none ?_ trivial rfl (by kernel_rfl) (by kernel_rfl) (by kernel_rfl) bI (by kernel_rfl) rfl
  repeat' (first|refine aB ?_|refine aX a4 ?_|(apply dh;refine dK ?_)|fail)
  refine KU [2,8,9,11,12,13,15,16,65,71] HY ?_
  repeat' (first|refine L3 ?_|refine a7 ?_|refine KG a4 HY ?_|(apply bF;refine bv ?_)|fail)
  rw [decide_eq_true (rfl:r1=r1)]
  repeat' (first|refine L3 ?_|refine KG a4 HY ?_|(apply aU;refine aT ?_)|refine bE rfl ?_)
  exact aD (k+1,s1',s2') rfl ⟨by rw [Kv];rfl,rfl,rfl,by dsimp only;rw [hsn];rfl,trivial⟩ ⟨hk2,by dsimp only;rw [hsn];exact b1⟩ (by dsimp only;omega) (fun _ _ h=>h.perm (hpm _ _))
 ·have hsl:∀A C:AL,[dN].Sublist (A++(C++[dN])):=fun A C=>by rw [←List.append_assoc A];exact List.sublist_append_right ..
  have hk2:k=f.Lookups.length:=by have:=Kx h;omega
  have hR:=zb (eC E) hA (mS k) (List.replicate k (forms.take 12)) w (by omega)
  have hrf:=wc (ap:=cK (aS f) f.Lookups) (fm:=forms.take 12) (mS k) w
  rw [hal] at hrf
  rw [hrf] at hR
  have hRl:(mS k).foldl (fun r n=>cK (aS f) f.Lookups n r (forms.take 12)) w=lP (cK (aS f) f.Lookups) (forms.take 12) w k:=rfl
  rw [hRl] at hR
  generalize lP (cK (aS f) f.Lookups) (forms.take 12) w k=r1 at *
  haveI i4:AD Tryz.prog 17 [.imm 6 (r1.map bO),.imm 6 (r1.map bO)] (d6 (decide (r1=r1))):=⟨wf r1 r1 hlb⟩
  clear h
  repeat' (first|refine L3 ?_|refine KG a4 HY ?_)
  refine aP (c6 (L':=[dN]) (hsl _ _)) ?_
  refine aP (bS (t:=76) (c':= .imm 1 (aW (mS k))) rfl fun σ v h=>VR.im h) ?_
  refine aP (bS (t:=77) (c':= .imm 1 (bc (List.replicate k (forms.take 12)))) rfl fun σ v h=>VR.im h) ?_
  repeat' (first|fail)
  refine b6 [dN] [] hR rfl rfl (Lz _) rfl fun c L1 ⟨hc,hL⟩=>?_
  subst hc;subst hL
  repeat' (first|refine L3 ?_|refine KG a4 HY ?_|(apply bF;refine bv ?_)|fail)
  rw [decide_eq_true (rfl:r1=r1)]
  repeat' (first|fail)
  exact KP HY ⟨rfl,rfl⟩
end Go.Proofs.YtpmdfoaadejmkaaGreatDoor
