/-
  The document's rules: chains, calls, and what a lookup does with a run.
-/
import Derived.Test.YtpmdfoaadejmkaaGreatDoorM33
import Derived.Test.YtpmdfoaadejmkaaGreatDoorM13
import Derived.ShutString
import Derived.Below
import Derived.Deep.Slices
import Derived.Deep.SlicePairs
import Derived.Lib.SmallJoins
namespace Go.Proofs.YtpmdfoaadejmkaaGreatDoor
open Go.RowKit
attribute [local irreducible] AT bK AX AO Av Kt bh dw DA cK
section
variable {f:b7} {n:Nat} {l:aO} (hl:f.Lookups[n]?=some l) {m:Nat} {r:bc} (hm:l.Rules[m]?=some r) (hro:jQ r) {run:List aI} (hr:run.length≤1000000) {p:Nat} {q:List Nat} (hps:mI run (p::q)) (deep:Nat)
abbrev Fs:=Int→Nat→List aI→List aI
def gF (ms:List Bool) (ig:Bool) (p:Nat) (D:Fs) (run:List aI) (c:gQ):List aI:=match kI ms ig run p c.At with
 | none=>run
 | some j=>D c.Lookup j run
include hl hm hro hr hps
set_option maxHeartbeats 8000000 in
theorem FK (hk:l.Kind=4) (hdp:deep≤4) (D:Fs) (hD:∀(n:Int) (j:Nat) (run:List aI),j < run.length→run.length≤1000000→bJ Tryz.prog 110 [bZ f,aF n,.imm 6 (run.map aY),aF j,aF ((deep:Int)+1)] (.imm 6 ((D n j run).map aY))) (hDl:∀n j run,fN run.length (D n j run).length):
  bJ Tryz.prog 40 (iA f n run m (p::q) deep) (iS (r.Calls.foldl (gF (bb f) l.Ignore p D) run) (jA l p ((p::q).getLastD p) run (r.Calls.foldl (gF (bb f) l.Ignore p D) run))):=by
 obtain ⟨kd,ig,rs⟩:=l
 dsimp only at hk hm ⊢
 subst hk
 have hlg:=bH (c:=bi) hl
 have hmg:=bH (c:=bB) hm
 have hpl:=hps.lt p (by simp)
 have hp0:(bY (p::q))[(0:Int).toNat]?=some [aF p]:=rfl
 have hla:=fX (p:=p) (q:=q)
 obtain ⟨l1,l2,l3⟩:=gO hps
 have hnl:(bY (p::q)).length=q.length+1:=dm (p::q)
 have hrl:(run.map aY).length=run.length:=Jv ..
 have hcl:(r.Calls.map eM).length=r.Calls.length:=Jv ..
 have hcn:=hro.calls
 have hnv:∀R:List aI,jA ⟨4,ig,rs⟩ p ((p::q).getLastD p) run R=max (R.length - (run.length - 1 - (p::q).getLastD p)) (p+1):=fun R=>rfl
 rw [hnv]
 generalize (p::q).getLastD p=last at *
 refine aN Tryz.func40 rfl Tryz.ntmps40 rfl fun B=>?_
 repeat' (first|refine JU ?_|refine am ?_|refine JG a5 JA ?_|(apply aS;refine aQ ?_)|(apply aL;first|refine aK a5 ?_|refine aG a5 ?_)|(apply aM;first|refine JI 14 a5 0 JF ?_|refine JI 14 a5 1 JF ?_|refine JI 14 a5 2 JF ?_|refine JI 15 a5 0 JF ?_|refine JI 15 a5 1 JF ?_|refine JI 15 a5 2 JF ?_|refine JH a5 0 JE ?_|refine JH a5 1 JE ?_|refine JH a5 2 JE ?_|refine JH a5 3 JE ?_|fail)|refine bf ?_|refine bj a5 fun _=>?_|refine bD rfl ?_|refine bC rfl ?_)
 refine aP [5,6,14,15,16,18] (α:=Nat×List aI) (fun s=>[(25,aF s.1),(2,.imm 6 (s.2.map aY))]) (fun s=>s.1≤r.Calls.length∧s.2.length≤1000000∧s.2=(r.Calls.take s.1).foldl (gF (bb f) ig p D) run) (fun _=>[]) (fun s=>r.Calls.length - s.1) (0,run) rfl ⟨rfl,rfl,trivial⟩ ⟨Nat.zero_le _,hr,rfl⟩ (fun _ _ h=>h) ?_
 rintro ⟨k,cur⟩ ⟨hk,hcu,hv⟩
 dsimp only at hk hcu hv ⊢
 have hcm:(cur.map aY).length=cur.length:=Jv ..
 try dsimp only [Jt,Js,Jr,Kz]
 repeat' (first|refine JU ?_|refine JG a5 JA ?_)
 refine ar rfl (fun h=>?_) (fun h=>?_)
 ·have hk2:k < r.Calls.length:=by have:=Jz h;omega
  obtain ⟨c,hc⟩:∃c,r.Calls[k]?=some c:=⟨_,Hb hk2⟩
  have hcg:=bH (c:=eM) hc
  have hca:=hro.at_ c (Jx hc)
  have hnx:(r.Calls.take (k+1)).foldl (gF (bb f) ig p D) run=gF (bb f) ig p D cur c:=by
   rw [List.take_add_one,hc,Option.toList_some,List.foldl_append,←hv]
   rfl
  haveI:AD Tryz.prog 109 [bZ f,.agg (bi ⟨4,ig,rs⟩),.imm 6 (cur.map aY),aF p,aF c.At] (aF (match kI (bb f) ig cur p c.At with | some j=>(j:Int) | none=> -1)):=⟨zO f ⟨4,ig,rs⟩ cur hcu p (by omega) c.At hca.2⟩
  clear h
  repeat' (first|refine JU ?_|refine am ?_)
  refine br 10 [(0,.v),(1,.v),(2,.v),(3,.v),(4,.v),(5,.v),(6,.v),(7,.v),(8,.v),(9,.v)] none ?_ trivial rfl (by kernel_rfl) (by kernel_rfl) (by kernel_rfl) bQ (by kernel_rfl) rfl
  repeat' (first|refine aD ?_|refine b8 a5 ?_|(apply bW;refine ci a5 ?_)|fail)
  refine JQ [2,5,6,14,15,16,18,25,144,145,146,147,153] JA ?_
  repeat' (first|refine JU ?_|refine a7 ?_|refine JG a5 JA ?_|(apply bw;refine bn ?_)|fail)
  cases hno:kI (bb f) ig cur p c.At with
  | none=>
   have hch:gF (bb f) ig p D cur c=cur:=by
    unfold gF
    rw [hno]
   rw [hch] at hnx
   repeat' (first|refine JU ?_|refine JG a5 JA ?_|(apply aS;refine aQ ?_)|refine bC rfl ?_)
   exact aC (k+1,cur) rfl ⟨by rw [Jw];rfl,rfl,trivial⟩ ⟨hk2,hcu,hnx.symm⟩ (by dsimp only;omega) (fun _ _ h=>h)
  | some j=>
   have hch:gF (bb f) ig p D cur c=D c.Lookup j cur:=by
    unfold gF
    rw [hno]
   rw [hch] at hnx
   haveI:AD Tryz.prog 110 [bZ f,aF c.Lookup,.imm 6 (cur.map aY),aF j,aF ((deep:Int)+1)] (.imm 6 ((D c.Lookup j cur).map aY)):=⟨hD c.Lookup j cur (EQ hno) hcu⟩
   have hln:=(hDl c.Lookup j cur).big hcu
   dsimp only
   repeat' (first|refine bD rfl ?_)
   refine br 11 [(0,.v),(1,.v),(2,.v),(3,.v),(4,.v),(5,.v),(6,.v),(7,.v),(8,.v),(9,.v),(10,.v)] none ?_ trivial rfl (by kernel_rfl) (by kernel_rfl) (by kernel_rfl) bQ (by kernel_rfl) rfl
   repeat' (first|refine aD ?_|refine b8 a5 ?_|(apply ea;refine fA ?_)|(apply bW;refine ci a5 ?_)|fail)
   refine JQ [5,6,14,15,16,18,25,157,163,164,165,167] JA ?_
   repeat' (first|refine JU ?_|refine a7 ?_|refine JG a5 JA ?_|(apply aS;refine aQ ?_)|(apply bw;refine bn ?_)|fail)
   exact aC (k+1,D c.Lookup j cur) rfl ⟨by rw [Jw];rfl,rfl,trivial⟩ ⟨hk2,hln,hnx.symm⟩ (by dsimp only;omega) (fun _ _ h=>h)
 ·have hk2:k=r.Calls.length:=by have:=Jy h;omega
  subst hk2
  rw [List.take_length] at hv
  rw [←hv]
  clear h
  repeat' (first|refine JU ?_|refine JG a5 JA ?_|(apply aS;refine aQ ?_)|fail)
  refine ar rfl (fun h=>?_) (fun h=>?_)
  ·have hle:=Jz h
   repeat' (first|refine JU ?_|refine JG a5 JA ?_|(apply aS;refine aQ ?_)|fail)
   refine JR JB ?_
   unfold iS
   rw [show max (cur.length - (run.length - 1 - last)) (p+1)=p+1 by omega,Jw]
   rfl
  ·have hle:=Jy h
   repeat' (first|refine JU ?_|refine JG a5 JA ?_|(apply aS;refine aQ ?_)|fail)
   refine JR JB ?_
   unfold iS
   rw [hcm,hrl,show ((cur.length:Int) - ((run.length:Int) - (last:Int) - 1))=((max (cur.length - (run.length - 1 - last)) (p+1):Nat):Int) by omega]
end
def AG (f:b7) (deep k:Nat):Prop:=∀(n:Nat) (l:aO) (m:Nat) (r:bc) (run:List aI) (p:Nat) (q:List Nat),f.Lookups[n]?=some l→l.Rules[m]?=some r→1≤l.Kind→l.Kind≤6→jQ r→run.length≤1000000→mI run (p::q)→
 bJ Tryz.prog 40 (iA f n run m (p::q) deep) (iS (fT (bb f) f.Lookups k l r (p::q) run) (jA l p ((p::q).getLastD p) run (fT (bb f) f.Lookups k l r (p::q) run)))
theorem we (f:b7) (n:Int) (run:List aI) (j:Nat):bJ Tryz.prog 110 [bZ f,aF n,.imm 6 (run.map aY),aF j,aF 5] (.imm 6 (run.map aY)):=by
 refine aN Tryz.func110 rfl Tryz.ntmps110 rfl fun B=>?_
 repeat' (first|refine JU ?_|refine JG a5 JA ?_|refine JP JC ?_|refine bf ?_|refine bD rfl ?_)
 exact JN JB
set_option maxHeartbeats 4000000 in
theorem z0 {f:b7} (hf:iu f) {deep k:Nat} (hdp:deep≤4) (hd:AG f deep k) (n:Int) (j:Nat) (run:List aI) (hj:j < run.length) (hr:run.length≤1000000):
  bJ Tryz.prog 110 [bZ f,aF n,.imm 6 (run.map aY),aF j,aF deep] (.imm 6 ((i3 (bb f) f.Lookups (fT (bb f) f.Lookups k) n j run).map aY)):=by
 refine aN Tryz.func110 rfl Tryz.ntmps110 rfl fun B=>?_
 have hll:(f.Lookups.map bi).length=f.Lookups.length:=Jv ..
 by_cases hn:0≤n∧n < f.Lookups.length
 ·obtain ⟨z,rfl⟩:∃z:Nat,n=z:=⟨n.toNat,by omega⟩
  have hz:z < f.Lookups.length:=by omega
  obtain ⟨l,hl⟩:∃l,f.Lookups[z]?=some l:=⟨_,Hb hz⟩
  have hlg:=bH (c:=bi) hl
  have hcv:i3 (bb f) f.Lookups (fT (bb f) f.Lookups k) (z:Int) j run=if l.Kind < 1∨4 < l.Kind then run else match dS (bb f) l run j [] with
   | none=>run
   | some r=>fT (bb f) f.Lookups k l r (cU (bb f) l run j r) run:=by
   unfold i3
   rw [if_neg (by omega),Int.toNat_natCast,hl]
   rfl
  repeat' (first|refine JU ?_|refine JG a5 JA ?_|refine bf ?_|fail)
  refine bX [1,2,3,4,5] (l.Kind < 1∨4 < l.Kind) rfl (fun Q' K=>?_) (fun hC=>?_) (fun hC=>?_)
  ·repeat' (first|refine JU ?_|refine JG a5 JA ?_|refine JO JA ?_|refine JP JC ?_|(apply aL;first|refine aK a5 ?_|refine aG a5 ?_)|refine JS JB (fun _=>?_) (fun _=>?_))
   all_goals first | exact K _ _ rfl rfl (by simp_all <;> omega) | (exfalso;simp_all <;> omega)
  ·rw [if_pos hC] at hcv
   rw [hcv]
   repeat' (first|refine JU ?_|refine JG a5 JA ?_)
   exact JN JB
  ·rw [if_neg hC] at hcv
   have hma:=ld f z l hl (hf.looks (Jx hl)) run hr j hj []
   repeat' (first|refine JU ?_|refine JG a5 JA ?_)
   refine b9 [] _ (AC.args hma (a:=[bZ f,aF z,.imm 6 (run.map aY),aF j,.sc (.slice none 0 0)]) ⟨cY.refl _,cY.refl _,cY.refl _,cY.refl _,cY.nil 1,trivial⟩) rfl rfl (Jp _) rfl fun c L1 hc=>?_
   subst hc
   refine aJ (bA (L':=[]) (List.nil_sublist _)) ?_
   unfold qK
   cases hmn:kj (bb f) l run j [] with
   | none=>
    rw [lg hmn] at hcv
    dsimp only at hcv ⊢
    rw [hcv]
    repeat' (first|refine JU ?_|refine JG a5 JA ?_|refine bD rfl ?_)
    exact JN JB
   | some m=>
    obtain ⟨r,hm,hmv⟩:=lh hmn
    rw [hmv] at hcv
    dsimp only at hcv ⊢
    rw [hm]
    simp only [Option.map_some,Option.getD_some]
    rw [show (cI (bb f) l.Ignore run j).take r.In.length=cU (bb f) l run j r from rfl]
    obtain ⟨hps,hrm,hin,_,hhd⟩:=zW hmv
    generalize cU (bb f) l run j r=ps at *
    obtain ⟨p,ps',rfl⟩:=List.exists_cons_of_ne_nil hps.some_
    have hdo:=hd z l m r run p ps' hl hm (by omega) (by omega) (hf.ruleO (Jx hl) hrm hin) hr hps
    rw [hcv]
    repeat' (first|refine JU ?_|refine JG a5 JA ?_|refine bC rfl ?_)
    refine b9 [] _ hdo rfl rfl (Jp _) rfl fun c L1 hc=>?_
    subst hc
    refine aJ (bA (L':=[]) (List.nil_sublist _)) ?_
    unfold iS
    repeat' (first|refine JU ?_|refine JG a5 JA ?_)
    exact JN JB
 ·have hcv:i3 (bb f) f.Lookups (fT (bb f) f.Lookups k) n j run=run:=by
   unfold i3
   split
   ·rfl
   ·rw [List.getElem?_eq_none (by omega)]
  rw [hcv]
  repeat' (first|refine JU ?_|refine JG a5 JA ?_|refine bf ?_|fail)
  refine bX [1,2,3,4,5] True rfl (fun Q' K=>?_) (fun hC=>?_) (fun hC=>(hC trivial).elim)
  ·repeat' (first|refine JU ?_|refine JG a5 JA ?_|refine JO JA ?_|refine JP JC ?_|refine JS JB (fun _=>?_) (fun _=>?_))
   all_goals first | exact K _ _ rfl rfl (by simp_all <;> omega) | (exfalso;simp_all <;> omega)
  ·repeat' (first|refine JU ?_|refine JG a5 JA ?_)
   exact JN JB
theorem lD {ms:List Bool} {ls:List aO} {k:Nat} {l:aO} (h:l.Kind≠4) {r:bc} {ps:List Nat} {run:List aI}:fT ms ls k l r ps run=dW l r ps run:=by
 cases k with
 | zero=>rfl
 | succ k=>rw [fT];dsimp only;rw [if_neg h]
theorem rW {ms:List Bool} {ig:Bool} {p:Nat}:∀(cs:List gQ) (run:List aI),cs.foldl (gF ms ig p fun _ _ run=>run) run=run
 | [],_=>rfl
 | c::cs,run=>by
  rw [List.foldl_cons]
  have:gF ms ig p (fun _ _ run=>run) run c=run:=by unfold gF;split <;> rfl
  rw [this,rW cs]
theorem xT {f:b7} (hf:iu f):∀(k deep:Nat),deep+k=4→AG f deep k:=by
 intro k
 induction k with
 | zero=>
  intro deep hdk n l m r run p q hl hm h1 h6 hro hr hps
  by_cases h4:l.Kind=4
  ·have mY:deep=4:=by omega
   subst mY
   have:=FK hl hm hro hr hps 4 h4 (Nat.le_refl _) (fun _ _ run=>run) (fun n j run _ _=>we f n run j) (fun _ _ _=>by unfold fN;omega)
   rw [rW] at this
   have hs:fT (bb f) f.Lookups 0 l r (p::q) run=run:=by
    show dW l r (p::q) run=run
    unfold dW
    rw [if_neg (by omega),if_neg (by omega),if_neg (by omega),if_neg (by omega)]
   rw [hs]
   exact this
  ·rw [lD h4]
   rcases (by omega:l.Kind=1∨l.Kind=5∨l.Kind=2∨l.Kind=3∨l.Kind=6) with h | h | h | h | h
   ·exact FH hl hm hro hr hps deep h
   ·exact FL hl hm hro hr hps deep h
   ·exact FI hl hm hro hr hps deep h
   ·exact FJ hl hm hro hr hps deep h
   ·exact FM hl hm hro hr hps deep h
 | succ k ih=>
  intro deep hdk n l m r run p q hl hm h1 h6 hro hr hps
  by_cases h4:l.Kind=4
  ·have hca:=z0 hf (deep:=deep+1) (k:=k) (by omega) (ih (deep+1) (by omega))
   have:=FK hl hm hro hr hps deep h4 (by omega) (i3 (bb f) f.Lookups (fT (bb f) f.Lookups k)) (fun n j run hj hr=>by have:=hca n j run hj hr;rw [Jw] at this;exact this) (fun n j run=>nV (fun l r ps run=>ie k l r ps run))
   have hs:fT (bb f) f.Lookups (k+1) l r (p::q) run=r.Calls.foldl (gF (bb f) l.Ignore p (i3 (bb f) f.Lookups (fT (bb f) f.Lookups k))) run:=by
    rw [fT]
    dsimp only
    rw [if_pos h4]
    rfl
   rw [hs]
   exact this
  ·rw [lD h4]
   rcases (by omega:l.Kind=1∨l.Kind=5∨l.Kind=2∨l.Kind=3∨l.Kind=6) with h | h | h | h | h
   ·exact FH hl hm hro hr hps deep h
   ·exact FL hl hm hro hr hps deep h
   ·exact FI hl hm hro hr hps deep h
   ·exact FJ hl hm hro hr hps deep h
   ·exact FM hl hm hro hr hps deep h
end Go.Proofs.YtpmdfoaadejmkaaGreatDoor
namespace Go.Proofs.YtpmdfoaadejmkaaGreatDoor
open Go.RowKit
attribute [local irreducible] AT bK AX AO Av Kt bh dw DA cK
theorem yQ {ms:List Bool} {ls:List aO} {z:Nat} {l:aO} (hl:ls[z]?=some l) (run:List aI) (forms:List Int):cV ms ls (z:Int) run forms=if l.Kind < 1∨6 < l.Kind then run else if l.Kind=5 then gT ms ls l forms run.length run else rH ms ls l forms run.length 0 run:=by
 unfold cV
 rw [if_neg (by omega),Int.toNat_natCast,hl]
theorem vx {r:bc} {i:Nat} {run:List aI}:(dt r i run).length=run.length:=by
 unfold dt
 split
 ·rfl
 ·split
  ·rfl
  ·split
   ·rw [List.length_set]
   ·rfl
theorem BL {ms:List Bool} {ls:List aO} {k:Nat} {l:aO} (h:l.Kind=5) {r:bc} {ps:List Nat} {run:List aI}:(fT ms ls k l r ps run).length=run.length:=by
 rw [lD (by omega)]
 unfold dW
 rw [if_pos (.inr h),vx]
theorem EP {ms:List Bool} {ls:List aO} {k:Nat} {l:aO} {r:bc} {run:List aI} {p:Nat} {q:List Nat} (hps:mI run (p::q)) (hr:run.length≤1000000) (hr2:(fT ms ls k l r (p::q) run).length≤1000000):
  jA l p ((p::q).getLastD p) run (fT ms ls k l r (p::q) run)≤1000001∧(fT ms ls k l r (p::q) run).length - jA l p ((p::q).getLastD p) run (fT ms ls k l r (p::q) run)≤run.length - p - 1:=by
 obtain ⟨l1,l2,l3⟩:=gO hps
 have hpair:l.Kind=6→(fT ms ls k l r (p::q) run).length=run.length:=fun h6=>by
  rw [lD (by omega)]
  unfold dW
  rw [if_neg (by omega),if_neg (by omega),if_neg (by omega),if_pos h6]
  unfold kD
  split
  ·rw [List.length_set]
  ·rfl
 generalize fT ms ls k l r (p::q) run=R at *
 generalize (p::q).getLastD p=last at *
 unfold jA
 split
 ·omega
 ·split
  ·rename_i h
   have:=hpair h.1
   omega
  ·omega
set_option maxHeartbeats 8000000 in
theorem oE {f:b7} (hf:iu f) (n:Int) (run0:List aI) (hr0:run0.length≤1000000) (forms:List Int):bJ Tryz.prog 20 [bZ f,aF n,.imm 6 (run0.map aY),.imm 1 (aW forms)] (.imm 6 ((cV (bb f) f.Lookups n run0 forms).map aY)):=by
 refine aN Tryz.func20 rfl Tryz.ntmps20 rfl fun B=>?_
 have hll:(f.Lookups.map bi).length=f.Lookups.length:=Jv ..
 have hrl0:(run0.map aY).length=run0.length:=Jv ..
 repeat' (first|refine JU ?_|refine JG a5 JA ?_|refine bf ?_|refine iL (n:=0) a5 fun _=>?_|fail)
 refine bI a5 [] rfl rfl rfl rfl (Jp _) (by simp;omega) (by simp;omega) rfl fun q1=>?_
 rw [Js]
 repeat' (first|refine JU ?_|refine JG a5 JA ?_)
 refine aJ (bA (L':=[]) (List.nil_sublist _)) ?_
 refine aJ (bL (t:=9) (c':= .imm 6 (run0.map aY)) rfl fun σ v h=>VR.im h) ?_
 by_cases hn:0≤n∧n < f.Lookups.length
 ·obtain ⟨z,rfl⟩:∃z:Nat,n=z:=⟨n.toNat,by omega⟩
  have hz:z < f.Lookups.length:=by omega
  obtain ⟨l,hl⟩:∃l,f.Lookups[z]?=some l:=⟨_,Hb hz⟩
  have hlg:=bH (c:=bi) hl
  have hlm:=Jx hl
  have hav:=yQ (ms:=bb f) hl run0 forms
  repeat' (first|refine JG a5 JA ?_|refine JO JA ?_)
  refine bX [1,3,4,9] (l.Kind < 1∨6 < l.Kind) rfl (fun Q' K=>?_) (fun hC=>?_) (fun hC=>?_)
  ·repeat' (first|refine JU ?_|refine JG a5 JA ?_|refine JO JA ?_|refine JP JC ?_|(apply aL;first|refine aK a5 ?_|refine aG a5 ?_)|refine JS JB (fun _=>?_) (fun _=>?_))
   all_goals first | exact K _ _ rfl rfl (by simp_all <;> omega) | (exfalso;simp_all <;> omega)
  ·rw [if_pos hC] at hav
   rw [hav]
   repeat' (first|refine JU ?_|refine JG a5 JA ?_)
   exact JN JB
  ·rw [if_neg hC] at hav
   repeat' (first|refine JU ?_|refine JG a5 JA ?_|(apply aL;first|refine aK a5 ?_|refine aG a5 ?_)|fail)
   refine ar rfl (fun h5=>?_) (fun h5=>?_)
   ·have h5:l.Kind=5:=Jz h5
    rw [if_pos h5] at hav
    repeat' (first|refine JU ?_|refine am ?_|refine JG a5 JA ?_|(apply aS;refine aQ ?_)|fail)
    refine aP [1,3,4] (α:=Nat×List aI) (fun s=>[(10,aF ((s.1:Int) - 1)),(9,.imm 6 (s.2.map aY))]) (fun s=>s.2.length≤1000000∧s.1≤s.2.length∧gT (bb f) f.Lookups l forms s.1 s.2=gT (bb f) f.Lookups l forms run0.length run0) (fun _=>[]) (fun s=>s.1) (run0.length,run0) rfl ⟨by rw [hrl0];rfl,rfl,trivial⟩ ⟨hr0,Nat.le_refl _,rfl⟩ (fun _ _ h=>h) ?_
    rintro ⟨k,cur⟩ ⟨hcu,hk,hv⟩
    dsimp only at hcu hk hv ⊢
    try dsimp only [Jt,Js,Jr,Kz]
    repeat' (first|refine JU ?_|refine JG a5 JA ?_)
    refine ar rfl (fun h=>?_) (fun h=>?_)
    ·obtain ⟨i,rfl⟩:∃j,k=j+1:=⟨k - 1,by have:=Jz h;omega⟩
     rw [show ((i+1:Nat):Int) - 1=(i:Int) by omega]
     rw [gT] at hv
     clear h
     have hi:i < cur.length:=hk
     ·have hma:=ld f z l hl (hf.looks hlm) cur hcu i hi forms
      repeat' (first|refine JU ?_|refine am ?_|refine JG a5 JA ?_)
      refine b9 [] _ hma rfl rfl (Jp _) rfl fun c L1 hc=>?_
      subst hc
      refine aJ (bA (L':=[]) (List.nil_sublist _)) ?_
      unfold qK
      cases hmn:kj (bb f) l cur i forms with
      | none=>
       rw [lg hmn] at hv
       dsimp only at hv ⊢
       repeat' (first|refine JU ?_|refine JG a5 JA ?_|(apply aS;refine aQ ?_)|refine bC rfl ?_)
       exact aC (i,cur) rfl ⟨rfl,rfl,trivial⟩ ⟨hcu,by dsimp only;omega,hv⟩ (by dsimp only;omega) (fun _ _ h=>h)
      | some m=>
       obtain ⟨r,hm,hmv⟩:=lh hmn
       rw [hmv] at hv
       dsimp only at hv ⊢
       rw [hm]
       simp only [Option.map_some,Option.getD_some]
       rw [show (cI (bb f) l.Ignore cur i).take r.In.length=cU (bb f) l cur i r from rfl]
       obtain ⟨hps,hrm,hin,_,hhd⟩:=zW hmv
       generalize cU (bb f) l cur i r=ps at *
       obtain ⟨p,ps',rfl⟩:=List.exists_cons_of_ne_nil hps.some_
       have hdo:=xT hf 4 0 rfl z l m r cur p ps' hl hm (by omega) (by omega) (hf.ruleO hlm hrm hin) hcu hps
       have hr2:=(ie (ms:=bb f) (ls:=f.Lookups) 4 l r (p::ps') cur).big hcu
       have hl5:=BL (ms:=bb f) (ls:=f.Lookups) (k:=4) h5 (r:=r) (ps:=p::ps') (run:=cur)
       generalize fT (bb f) f.Lookups 4 l r (p::ps') cur=R at *
       repeat' (first|refine JU ?_|refine JG a5 JA ?_|refine bD rfl ?_)
       refine b9 [] _ hdo rfl rfl (Jp _) rfl fun c L1 hc=>?_
       subst hc
       refine aJ (bA (L':=[]) (List.nil_sublist _)) ?_
       unfold iS
       repeat' (first|refine JU ?_|refine JG a5 JA ?_|(apply aS;refine aQ ?_)|fail)
       exact aC (i,R) rfl ⟨rfl,rfl,trivial⟩ ⟨hr2,by dsimp only;omega,hv⟩ (by dsimp only;omega) (fun _ _ h=>h)
    ·have hk0:k=0:=by have:=Jy h;omega
     subst hk0
     rw [gT] at hv
     repeat' (first|refine JU ?_|refine JG a5 JA ?_)
     exact JM JA (by rw [hv,hav])
   ·have h5:l.Kind≠5:=Jy h5
    rw [if_neg h5] at hav
    repeat' (first|refine JU ?_|refine am ?_|refine JG a5 JA ?_)
    refine aP [1,3,4] (α:=Nat×Nat×List aI) (fun s=>[(13,aF s.1),(9,.imm 6 (s.2.2.map aY))]) (fun s=>s.2.2.length≤1000000∧s.1≤1000001∧s.2.2.length - s.1≤s.2.1∧rH (bb f) f.Lookups l forms s.2.1 s.1 s.2.2=rH (bb f) f.Lookups l forms run0.length 0 run0) (fun _=>[]) (fun s=>s.2.1) (0,run0.length,run0) rfl ⟨rfl,rfl,trivial⟩ ⟨hr0,by dsimp only;omega,by dsimp only;omega,rfl⟩ (fun _ _ h=>h) ?_
    rintro ⟨i,k,cur⟩ ⟨hcu,hi1,hk,hv⟩
    dsimp only at hcu hi1 hk hv ⊢
    have hcl:(cur.map aY).length=cur.length:=Jv ..
    try dsimp only [Jt,Js,Jr,Kz]
    repeat' (first|refine JU ?_|refine JG a5 JA ?_)
    refine ar rfl (fun h=>?_) (fun h=>?_)
    ·have hi:i < cur.length:=by have:=Jz h;omega
     obtain ⟨k,rfl⟩:∃j,k=j+1:=⟨k - 1,by omega⟩
     rw [rH,if_pos hi] at hv
     have hma:=ld f z l hl (hf.looks hlm) cur hcu i hi forms
     clear h
     repeat' (first|refine JU ?_|refine am ?_|refine JG a5 JA ?_)
     refine b9 [] _ hma rfl rfl (Jp _) rfl fun c L1 hc=>?_
     subst hc
     refine aJ (bA (L':=[]) (List.nil_sublist _)) ?_
     unfold qK
     cases hmn:kj (bb f) l cur i forms with
     | none=>
      rw [lg hmn] at hv
      dsimp only at hv ⊢
      repeat' (first|refine JU ?_|refine JG a5 JA ?_|(apply aS;refine aQ ?_)|refine bD rfl ?_)
      exact aC (i+1,k,cur) rfl ⟨by rw [Jw];rfl,rfl,trivial⟩ ⟨hcu,by dsimp only;omega,by dsimp only;omega,hv⟩ (by dsimp only;omega) (fun _ _ h=>h)
     | some m=>
      obtain ⟨r,hm,hmv⟩:=lh hmn
      rw [hmv] at hv
      dsimp only at hv ⊢
      rw [hm]
      simp only [Option.map_some,Option.getD_some]
      rw [show (cI (bb f) l.Ignore cur i).take r.In.length=cU (bb f) l cur i r from rfl]
      obtain ⟨hps,hrm,hin,_,hhd⟩:=zW hmv
      generalize cU (bb f) l cur i r=ps at *
      obtain ⟨p,ps',rfl⟩:=List.exists_cons_of_ne_nil hps.some_
      simp only [List.head?_cons,Option.some.injEq] at hhd
      subst hhd
      obtain ⟨l1,l2,l3⟩:=gO hps
      have hdo:=xT hf 4 0 rfl z l m r cur p ps' hl hm (by omega) (by omega) (hf.ruleO hlm hrm hin) hcu hps
      have hr2:=(ie (ms:=bb f) (ls:=f.Lookups) 4 l r (p::ps') cur).big hcu
      have hnx:=EP hps hcu hr2
      generalize fT (bb f) f.Lookups 4 l r (p::ps') cur=R at *
      generalize jA l p ((p::ps').getLastD p) cur R=nx at *
      repeat' (first|refine JU ?_|refine JG a5 JA ?_|refine bC rfl ?_)
      refine b9 [] _ hdo rfl rfl (Jp _) rfl fun c L1 hc=>?_
      subst hc
      refine aJ (bA (L':=[]) (List.nil_sublist _)) ?_
      unfold iS
      repeat' (first|refine JU ?_|refine JG a5 JA ?_)
      exact aC (nx,k,R) rfl ⟨rfl,rfl,trivial⟩ ⟨hr2,hnx.1,by have:=hnx.2;dsimp only;omega,hv⟩ (by dsimp only;omega) (fun _ _ h=>h)
    ·have hi:cur.length≤i:=by have:=Jy h;omega
     have hrun:cur=rH (bb f) f.Lookups l forms run0.length 0 run0:=by
      rw [←hv]
      cases k with
      | zero=>rw [rH]
      | succ k=>rw [rH,if_neg (by omega)]
     repeat' (first|refine JU ?_|refine JG a5 JA ?_)
     exact JM JA (by rw [hav,←hrun])
 ·have hav:cV (bb f) f.Lookups n run0 forms=run0:=w7 (by omega)
  rw [hav]
  repeat' (first|fail)
  refine bX [1,3,4,9] True rfl (fun Q' K=>?_) (fun hC=>?_) (fun hC=>(hC trivial).elim)
  ·repeat' (first|refine JU ?_|refine JG a5 JA ?_|refine JO JA ?_|refine JP JC ?_|refine JS JB (fun _=>?_) (fun _=>?_))
   all_goals first | exact K _ _ rfl rfl (by simp_all <;> omega) | (exfalso;simp_all <;> omega)
  ·repeat' (first|refine JU ?_|refine JG a5 JA ?_)
   exact JN JB
theorem wS (l:List Int):bJ Tryz.prog 14 [.imm 1 (aW l)] (bZ (kB (l.take 300))):=by
 refine aN Tryz.func14 rfl Tryz.ntmps14 rfl fun B=>?_
 refine cB 0 rfl rfl fun hl=>?_
 have hil:=aZ l
 repeat' (first|refine JU ?_|refine JG a5 JA ?_|refine bj a5 fun _=>?_|fail)
 refine tA a5 (min l.length 300) rfl rfl rfl rfl rfl (by omega) (by omega) rfl ?_
 have ht:l.take (min l.length 300)=l.take 300:=by
  rcases Nat.le_total l.length 300 with h | h
  ·rw [Nat.min_eq_left h,List.take_length,List.take_of_length_le h]
  ·rw [Nat.min_eq_right h]
 rw [show (aW l).take (min l.length 300)=aW (l.take 300) from by rw [←ht];unfold aW;rw [List.map_take]]
 refine bn (hc:=⟨Ct (l.take 300) (by rw [List.length_take];omega)⟩) ?_
 repeat' (first|refine JU ?_|(apply aM;first|refine JH a5 0 JE ?_|refine JH a5 1 JE ?_|refine JH a5 2 JE ?_|refine JH a5 3 JE ?_|fail))
 exact xN a5 0 rfl rfl rfl rfl rfl rfl
theorem zB (g:Int) (l:List Int):(uT g l).length≤60:=by
 unfold uT
 rw [o9,List.length_take]
 omega
def vt (l:List (List Int)):List (List Int):=(l.take 12).map fun q=>q.take 12
theorem r8 (l:List (List Int)) (q:List Int):b6 l++[[.imm 1 (aW q)]]=b6 (l++[q]):=by simp [b6]
theorem xb (l:List (List Int)):bJ Tryz.prog 21 [.imm 1 (b6 l)] (.imm 1 (b6 (vt l))):=by
 refine aN Tryz.func21 rfl Tryz.ntmps21 rfl fun B=>?_
 refine cB 0 rfl rfl fun hlen=>?_
 have hrl:=c6 l
 repeat' (first|refine JU ?_|refine am ?_|refine JG a5 JA ?_|refine iL (n:=0) a5 fun _=>?_|fail)
 refine aP [0] (α:=Nat×Option (Nat×Nat)) (fun s=>[(4,aF s.1),(3,.vec s.2 1 (b6 ((l.take s.1).map fun q=>q.take 12)))]) (fun s=>s.1≤l.length∧s.1≤12) (fun s=>tok s.2 22 1 s.1) (fun s=>l.length - s.1) (0,some (_,0)) rfl ⟨rfl,rfl,trivial⟩ ⟨Nat.zero_le _,Nat.zero_le _⟩ (fun _ _ h=>h) ?_
 rintro ⟨k,s⟩ ⟨hk,hk2⟩
 dsimp only at hk hk2 ⊢
 have hml:(b6 ((l.take k).map fun q=>q.take 12)).length=k:=by rw [c6,Jv,List.length_take];omega
 try dsimp only [Jt,Js,Jr,Kz]
 repeat' (first|refine JU ?_|refine JG a5 JA ?_)
 refine bX [0,3,4] (k < l.length∧k < 12) rfl (fun Q' K=>?_) (fun hC=>?_) (fun hC=>?_)
 ·repeat' (first|refine JU ?_|refine JG a5 JA ?_|refine JO JA ?_|refine JP JC ?_|refine JS JB (fun _=>?_) (fun _=>?_))
  all_goals exact K _ _ rfl rfl (by simp_all <;> omega)
 ·obtain ⟨q,hq⟩:∃q,l[k]?=some q:=⟨_,Hb hC.1⟩
  have hqg:=eR hq
  have hst:b6 ((l.take k).map fun q=>q.take 12)++[[.imm 1 (aW (q.take 12))]]=b6 ((l.take (k+1)).map fun q=>q.take 12):=by
   rw [r8,List.take_add_one (l:=l),hq,Option.toList_some,List.map_append]
   rfl
  generalize b6 ((l.take k).map fun q=>q.take 12)=A at *
  repeat' (first|refine JU ?_|refine am ?_|refine JG a5 JA ?_|(apply aL;first|refine aK a5 ?_|refine aG a5 ?_)|fail)
  refine bn (hc:=⟨Ex q⟩) ?_
  repeat' (first|refine bN a5 ?_|fail)
  refine bI a5 [] rfl rfl rfl rfl (by rw [hml,List.append_nil]) (by rw [hml];simp only [List.length_cons,List.length_nil];omega) (by rw [hml];simp only [List.length_cons,List.length_nil];omega) rfl fun s'=>?_
  repeat' (first|refine JU ?_|refine JG a5 JA ?_|(apply aS;refine aQ ?_)|fail)
  refine aC (k+1,s') rfl ⟨by rw [Jw];rfl,by dsimp only;rw [←hst];rfl,trivial⟩ ⟨hC.1,hC.2⟩ (by dsimp only;omega) (fun _ _ h=>?_)
  rw [List.length_append,hml,List.append_nil] at h
  exact h
 ·have hw:l.take k=l.take 12:=by
   rcases Nat.lt_or_ge k 12 with h | h
   ·have:k=l.length:=by omega
    rw [List.take_of_length_le (by omega),List.take_of_length_le (by omega)]
   ·rw [show k=12 by omega]
  repeat' (first|refine JU ?_|refine JG a5 JA ?_)
  rw [hw]
  refine dI (L':=[]) (List.nil_sublist _) ?_
  refine bk (bL (t:=2) (c':= .imm 1 (b6 (vt l))) rfl fun σ v h=>VR.im h) ?_
  exact JN JB
set_option maxHeartbeats 4000000 in
theorem Ad {f:b7} (hf:iu f) (ns:List Int) (fs:List (List Int)) (run:List aI) (hr:run.length≤1000000):bJ Tryz.prog 23 [bZ f,.imm 1 (aW ns),.imm 1 (b6 fs),.imm 6 (run.map aY)] (.imm 6 ((my (cV (bb f) f.Lookups) ns fs run).map aY)):=by
 refine aN Tryz.func23 rfl Tryz.ntmps23 rfl fun B=>?_
 refine cB 1 rfl rfl fun hlen=>?_
 have hnl:=aZ ns
 rw [hnl] at hlen
 have hfl:=c6 fs
 have hrl:(run.map aY).length=run.length:=Jv ..
 repeat' (first|refine JU ?_|refine JG a5 JA ?_|refine bf ?_|refine iL (n:=0) a5 fun _=>?_|fail)
 refine bI a5 [] rfl rfl rfl rfl (Jp _) (by simp;omega) (by simp;omega) rfl fun q1=>?_
 rw [Js]
 repeat' (first|refine JU ?_|refine am ?_|refine JG a5 JA ?_)
 refine bS (bL (t:=9) (c':= .imm 6 (run.map aY)) rfl fun σ v h=>VR.im h) ?_
 refine bS (bA (L':=[]) (List.nil_sublist _)) ?_
 refine aP [1,2,4] (α:=Nat×List aI) (fun s=>[(10,aF s.1),(9,.imm 6 (s.2.map aY))]) (fun s=>s.1≤ns.length∧s.2.length≤1000000∧my (cV (bb f) f.Lookups) (ns.drop s.1) (fs.drop s.1) s.2=my (cV (bb f) f.Lookups) ns fs run) (fun _=>[]) (fun s=>ns.length - s.1) (0,run) rfl ⟨rfl,rfl,trivial⟩ ⟨Nat.zero_le _,hr,rfl⟩ (fun _ _ h=>h) ?_
 rintro ⟨k,run1⟩ ⟨hk,hr1,hv⟩
 dsimp only at hk hr1 hv ⊢
 try dsimp only [Jt,Js,Jr,Kz]
 repeat' (first|refine JU ?_|refine JG a5 JA ?_)
 refine ar rfl (fun h0=>?_) (fun h0=>?_)
 ·have hk2:k < ns.length:=by have:=Jz h0;omega
  obtain ⟨n,hn⟩:∃n,ns[k]?=some n:=⟨_,Hb hk2⟩
  have hng:=bO hn
  rw [List.drop_eq_getElem_cons hk2,(Jq hn).2,my,List.drop_drop] at hv
  clear h0
  repeat' (first|refine JU ?_|refine am ?_|refine JG a5 JA ?_|refine iL (n:=0) a5 fun _=>?_|fail)
  refine bS (bL (t:=11) (c':= .imm 1 (aW [])) rfl fun σ v h=>VR.im h) ?_
  refine bS (bA (L':=[]) (List.nil_sublist _)) ?_
  refine ar rfl (fun h1=>?_) (fun h1=>?_)
  ·have hf2:k < fs.length:=by have:=Jz h1;omega
   obtain ⟨q,hq⟩:∃q,fs[k]?=some q:=⟨_,Hb hf2⟩
   have hqg:=eR hq
   have hh:(fs.drop k).headD []=q:=by rw [List.drop_eq_getElem_cons hf2,(Jq hq).2];rfl
   rw [hh] at hv
   haveI:AD Tryz.prog 20 [bZ f,aF n,.imm 6 (run1.map aY),.imm 1 (aW q)] (.imm 6 ((cV (bb f) f.Lookups n run1 q).map aY)):=⟨oE hf n run1 hr1 q⟩
   have hl2:=(md (ms:=bb f) (ls:=f.Lookups) (n:=n) (run:=run1) (forms:=q)).big hr1
   clear h1
   repeat' (first|refine JU ?_|refine JG a5 JA ?_|(apply aL;first|refine aK a5 ?_|refine aG a5 ?_)|fail)
   refine br 7 [(0,.v),(1,.v),(2,.v),(3,.v),(4,.v),(5,.v),(6,.v)] none ?_ trivial rfl (by kernel_rfl) (by kernel_rfl) (by kernel_rfl) bQ (by kernel_rfl) rfl
   repeat' (first|refine aD ?_|refine b8 a5 ?_|(apply bW;refine ci a5 ?_)|fail)
   refine JQ [1,2,4,10,30,34,35,36] JA ?_
   repeat' (first|refine JU ?_|refine a7 ?_|refine JG a5 JA ?_|(apply aS;refine aQ ?_)|(apply bw;refine bn ?_)|fail)
   exact aC (k+1,_) rfl ⟨by rw [Jw];rfl,rfl,trivial⟩ ⟨hk2,hl2,hv⟩ (by dsimp only;omega) (fun _ _ h=>h)
  ·have hf2:fs.length≤k:=by have:=Jy h1;omega
   have hh:(fs.drop k).headD []=[]:=by rw [List.drop_eq_nil_of_le hf2];rfl
   rw [hh] at hv
   haveI:AD Tryz.prog 20 [bZ f,aF n,.imm 6 (run1.map aY),.imm 1 (aW [])] (.imm 6 ((cV (bb f) f.Lookups n run1 []).map aY)):=⟨oE hf n run1 hr1 []⟩
   have hl2:=(md (ms:=bb f) (ls:=f.Lookups) (n:=n) (run:=run1) (forms:=[])).big hr1
   clear h1
   repeat' (first|refine JU ?_|fail)
   refine br 7 [(0,.v),(1,.v),(2,.v),(3,.v),(4,.v),(5,.v),(6,.v)] none ?_ trivial rfl (by kernel_rfl) (by kernel_rfl) (by kernel_rfl) bQ (by kernel_rfl) rfl
   repeat' (first|refine aD ?_|refine b8 a5 ?_|(apply bW;refine ci a5 ?_)|fail)
   refine JQ [1,2,4,10,30,34,35,36] JA ?_
   repeat' (first|refine JU ?_|refine a7 ?_|refine JG a5 JA ?_|(apply aS;refine aQ ?_)|(apply bw;refine bn ?_)|fail)
   exact aC (k+1,_) rfl ⟨by rw [Jw];rfl,rfl,trivial⟩ ⟨hk2,hl2,hv⟩ (by dsimp only;omega) (fun _ _ h=>h)
 ·have hk2:k=ns.length:=by have:=Jy h0;omega
  subst hk2
  rw [List.drop_length,my] at hv
  repeat' (first|refine JU ?_|refine JG a5 JA ?_)
  exact JM JA (by rw [←hv])
theorem vu {ap:Int→List aI→List Int→List aI} (h:∀n run forms,run.length≤1000000→(ap n run forms).length≤1000000):∀(ns:List Int) (fs:List (List Int)) (run:List aI),run.length≤1000000→(my ap ns fs run).length≤1000000
 | [],_,run,hr=>hr
 | n::ns,fs,run,hr=>vu h ns _ _ (h n run _ hr)
def wO (h:List (List Int)) (k:Nat):List Int:=if k=0 then [] else h.headD []
set_option maxHeartbeats 8000000 in
theorem Da (l run:List Int) (how:List (List Int)):AC Tryz.prog 4 [.imm 1 (aW l),.imm 1 (aW run),.imm 1 (b6 how)] [dP] fun c L=>c=dY true∧L=[dP]:=by
 refine aN Tryz.func4 rfl Tryz.ntmps4 rfl fun B=>?_
 repeat' (first|refine JU ?_|refine JG a5 JA ?_)
 refine b9 [dP] [] Dg rfl rfl (Jp _) rfl fun c L1 ⟨hc,hL⟩=>?_
 subst hc;subst hL
 repeat' (first|refine JU ?_|refine JG a5 JA ?_)
 refine bn (hc:=⟨wS l⟩) ?_
 have hM:=pA (l.take 300)
 have hE:=Cu (l.take 300)
 generalize kB (l.take 300)=f at hM hE ⊢
 have hgn:=hM.glyN
 have hgm:(f.Glyphs.map bR).length=f.Glyphs.length:=Jv ..
 repeat' (first|refine JU ?_|refine JG a5 JA ?_|(apply aM;first|refine JI 8 a5 0 JF ?_|refine JI 8 a5 1 JF ?_|refine JI 8 a5 2 JF ?_|refine JH a5 0 JE ?_|refine JH a5 1 JE ?_|refine JH a5 2 JE ?_|refine JH a5 3 JE ?_|fail)|refine bj a5 fun _=>?_|fail)
 refine b9 [] _ hE rfl rfl (Jp _) rfl fun c L1 hc=>?_
 obtain ⟨E,hE,hA,rfl⟩:=hc
 refine aJ (bA (L':=[dP]) (List.sublist_append_right ..)) ?_
 repeat' (first|refine JU ?_|refine JG a5 JA ?_|refine JO JA ?_)
 refine bX [1,2,8,9] False rfl (fun Q' K=>?_) (fun hC=>hC.elim) (fun _=>?_)
 ·repeat' (first|fail)
  refine qP Tryz.underlying34 rfl rfl rfl rfl ?_
  repeat' (first|refine JU ?_|refine JG a5 JA ?_)
  exact K _ _ rfl rfl (by simp)
 repeat' (first|refine JU ?_|refine JG a5 JA ?_)
 refine bn (hc:=⟨Cf run ((f.Glyphs.map bR).length:Int) (by omega)⟩) ?_
 have hw:=zB ((f.Glyphs.map bR).length:Int) run
 generalize uT ((f.Glyphs.map bR).length:Int) run=w at hw ⊢
 repeat' (first|refine JU ?_|refine JG a5 JA ?_)
 refine bn (hc:=⟨xb how⟩) ?_
 have hh12:(vt how).length≤12:=by unfold vt;rw [Jv,List.length_take];omega
 generalize vt how=h at hh12 ⊢
 have hhl:=c6 h
 repeat' (first|refine JU ?_|refine am ?_|refine JG a5 JA ?_|refine iL (n:=0) a5 fun _=>?_|fail)
 refine bS (bL (t:=13) (c':= .imm 1 (aW (wO h 0))) rfl fun σ v h=>VR.im h) ?_
 refine bS (bA (L':=tok (some (_,0)) 22 1 0++[dP]) (List.Sublist.cons_cons _ (List.sublist_cons_self ..))) ?_
 refine aP [8,9,11,12] (α:=Nat×Option (Nat×Nat)) (fun s=>[(15,aF s.1),(13,.imm 1 (aW (wO h s.1))),(14,.vec s.2 1 (b6 ((h.take s.1).drop 1)))]) (fun s=>s.1≤h.length) (fun s=>tok s.2 22 1 (b6 ((h.take s.1).drop 1)).length++[dP]) (fun s=>h.length - s.1) (0,some (_,0)) rfl ⟨rfl,rfl,rfl,trivial⟩ (Nat.zero_le _) (fun _ _ h=>h) ?_
 rintro ⟨k,s⟩ hk
 dsimp only at hk ⊢
 try dsimp only [Jt,Js,Jr,Kz]
 repeat' (first|refine JU ?_|refine JG a5 JA ?_)
 refine ar rfl (fun h0=>?_) (fun h0=>?_)
 ·have hk2:k < h.length:=by have:=Jz h0;omega
  obtain ⟨q,hq⟩:∃q,h[k]?=some q:=⟨_,Hb hk2⟩
  have hqg:=eR hq
  clear h0
  repeat' (first|refine JU ?_|refine am ?_|refine JG a5 JA ?_)
  refine ar rfl (fun h1=>?_) (fun h1=>?_)
  ·have hk0:k=0:=by have:=Jz h1;omega
   subst hk0
   have hlk:wO h 1=q:=by
    cases h with
    | nil=>simp at hq
    | cons a b=>simp at hq;subst hq;rfl
   have hdr:(h.take 1).drop 1=[]:=by rw [List.drop_eq_nil_of_le];rw [List.length_take];omega
   repeat' (first|refine JU ?_|refine JG a5 JA ?_|(apply aS;refine aQ ?_)|(apply aL;first|refine aK a5 ?_|refine aG a5 ?_)|fail)
   refine aC (1,s) rfl ⟨rfl,by dsimp only;rw [hlk];rfl,by dsimp only;rw [hdr];rfl,trivial⟩ hk2 (by dsimp only;omega) (fun _ _ h=>?_)
   dsimp only
   rw [hdr]
   exact h
  ·have hk0:k≠0:=by have:=Jy h1;omega
   have hlk:wO h (k+1)=wO h k:=by
    unfold wO
    rw [if_neg (by omega),if_neg hk0]
   have hdr:b6 ((h.take k).drop 1)++[[.imm 1 (aW q)]]=b6 ((h.take (k+1)).drop 1):=by
    rw [r8,List.take_add_one,hq,Option.toList_some,List.drop_append_of_le_length (by rw [List.length_take];omega)]
   have hml:(b6 ((h.take k).drop 1)).length≤12:=by rw [c6,List.length_drop,List.length_take];omega
   repeat' (first|refine JU ?_|refine JG a5 JA ?_|(apply aL;first|refine aK a5 ?_|refine aG a5 ?_)|refine bN a5 ?_|fail)
   refine bI a5 [dP] rfl rfl rfl rfl (Jp _) (by simp only [List.length_cons,List.length_nil];omega) (by simp only [List.length_cons,List.length_nil];omega) rfl fun s'=>?_
   rw [hdr]
   repeat' (first|refine JU ?_|refine JG a5 JA ?_|(apply aS;refine aQ ?_)|fail)
   exact aC (k+1,s') rfl ⟨by rw [Jw];rfl,by dsimp only;rw [hlk];rfl,rfl,trivial⟩ hk2 (by dsimp only;omega) (fun _ _ h=>h)
 ·have hk2:k=h.length:=by have:=Jy h0;omega
  subst hk2
  generalize wO h h.length=lk
  rw [List.take_length]
  generalize h.drop 1=fs
  have hR:=yp (ei E) hA lk fs w (by omega)
  haveI i1:AD Tryz.prog 23 [bZ f,.imm 1 (aW lk),.imm 1 (b6 fs),.imm 6 (w.map aY)] (.imm 6 ((my (cV (bb f) f.Lookups) lk fs w).map aY)):=⟨Ad hM.fontN lk fs w (by omega)⟩
  have b1:=vu hA.len lk fs w (by omega)
  generalize my (cV (bb f) f.Lookups) lk fs w=r1 at *
  haveI i4:AD Tryz.prog 17 [.imm 6 (r1.map aY),.imm 6 (r1.map aY)] (dY (decide (r1=r1))):=⟨Db r1 r1 b1⟩
  repeat' (first|refine JU ?_|fail)
  refine bS (bA (L':=[dP]) (List.sublist_append_right ..)) ?_
  refine bS (bL (t:=14) (c':= .imm 1 (b6 fs)) rfl fun σ v h=>VR.im h) ?_
  refine br 9 [(0,.v),(1,.v),(2,.v),(3,.v),(5,.v),(6,.v),(7,.v),(8,.v),(4,.e)] none ?_ trivial rfl (by kernel_rfl) (by kernel_rfl) (by kernel_rfl) bQ (by kernel_rfl) rfl
  repeat' (first|refine aD ?_|refine b8 a5 ?_|fail)
  refine j4 [dP] [] hR rfl rfl (Jp _) trivial fun c L1 ⟨hc,hL⟩=>?_
  subst hc;subst hL
  repeat' (first|fail)
  refine JQ [65,66,67,68,69] JA ?_
  repeat' (first|refine JU ?_|refine a7 ?_|refine JG a5 JA ?_|(apply bw;refine bn ?_)|fail)
  rw [decide_eq_true (rfl:r1=r1)]
  repeat' (first|fail)
  exact JM JA ⟨rfl,rfl⟩
end Go.Proofs.YtpmdfoaadejmkaaGreatDoor
namespace Go.Proofs.YtpmdfoaadejmkaaGreatDoor
open Go.ChangeShapes Go.WideShapes Go.ChangeAt Go.RowKit Go.Deep Go.Joins
section
variable {H:Type} {enc:TypeId×Value→H} {P:Program} {W:World}
def G0 (enc:TypeId×Value→H) (P:Program) (W:World) (t:TypeId) {α:Type} (c:α→List AV):Prop:=
 ∀fuel cs x,DataW.trod enc P W 0 (fun _=>true) true fuel t cs=some x→∃a,dh (pg W) (c a) cs∧(∀u∈cs,u.oneCell'=true)∧∀u k,cs[0]?=some u→u≠ .int .u8 k
theorem vf {t:TypeId} (ht:P.underlying t=some (.int .i64)):G0 enc P W t (fun z:Int=>[aF z]):=fun fuel cs x h=>by
 obtain ⟨z,rfl,-,-⟩:=DataW.trod_int ht h
 exact ⟨z,dh.cons (.sc _) dh.nil,by intro u hu;rw [Jn hu];rfl,fun u k hu=>by simp at hu;subst hu;simp⟩
theorem mr {t e:TypeId} {sz:Nat} {α:Type} [Inhabited α] {c:α→List AV} (hT:∀off u,W.cell? ⟨0,off,none⟩=some u→∃k,u= .int .u8 k) (ht:P.underlying t=some (.slice e)) (hs:P.cellsOf e=sz) (h0:0 < sz) (he:G0 enc P W e c) (hc:∀a,(c a).length=sz):
  G0 enc P W t (fun l:List α=>[.imm sz (l.map c)]):=fun fuel cs x h=>by
 rcases open_slice ht h with ⟨rfl,rfl⟩ | ⟨a,len,cap,m,n,D,Pl,rfl,_,hlc,hm,hmm,rfl,hx⟩
 ·exact ⟨[],dh.cons (io sz (.sc _)) dh.nil,by intro u hu;rw [Jn hu];rfl,fun u k hu=>by simp at hu;subst hu;simp⟩
 have hmle:len≤m:=by rw [hmm];split <;> omega
 have each:∀i,i < len→∃q:α×List Value,W.cells? 0 (a.add (i * sz)) sz=some q.2∧dh (pg W) (c q.1) q.2∧(∀u∈q.2,u.oneCell'=true)∧∀u k,q.2[0]?=some u→u≠ .int .u8 k:=by
  intro i hi
  obtain ⟨cs',h1,h2⟩:=hx i (by omega)
  rw [hs] at h1
  obtain ⟨a',k1,k2,k3⟩:=he n cs' _ h2
  exact ⟨(a',cs'),h1,k1,k2,k3⟩
 obtain ⟨f,hf⟩:=choose_lt each
 refine ⟨(List.range len).map fun i=>(f i).1,dh.cons ?_ dh.nil,by intro u hu;rw [Jn hu];rfl,fun u k hu=>by simp at hu;subst hu;simp⟩
 have hll:(((List.range len).map fun i=>(f i).1).map c).length=len:=by simp
 have hcell:∀i,i < len→∀j,j < sz→W.cell? (a.add (i * sz+j))=(f i).2[j]?:=by
  intro i hi j hj
  have:=(World.cells?_some (hf i hi).1).2.2 j hj
  rw [add_add] at this
  exact this
 have hcl:∀i,i < len→(f i).2.length=sz:=fun i hi=>(World.cells?_some (hf i hi).1).2.1
 have hnone:0 < len→∃b off,a=⟨b,off,none⟩∧b≠0:=by
  intro hp
  have h1:=hcell 0 hp 0 h0
  have h2:=(hf 0 hp).2.2.2
  rw [Nat.zero_mul,Nat.zero_add,Hb (by rw [hcl 0 hp];exact h0)] at h1
  obtain ⟨b,off,sp⟩:=a
  have e:(⟨b,off,sp⟩:Addr).add 0=⟨b,off,sp⟩:=by simp [Addr.add]
  rw [e] at h1
  cases sp with
  | some s=>
   simp only [World.cell?] at h1
   split at h1
   ·simp at h1
   ·cases h1
  | none=>
   refine ⟨b,off,rfl,fun e=>?_⟩
   subst e
   obtain ⟨k,hk⟩:=hT off _ h1
   exact h2 _ k (Hb (by rw [hcl 0 hp];exact h0)) hk
 have hmem:∀b off,a=⟨b,off,none⟩→∀i,i < len→∀j,j < sz→pg W b (off+i * sz+j)=(f i).2[j]?:=by
  intro b off ha i hi j hj
  have:=hcell i hi j hj
  obtain ⟨b',off',ha',hb⟩:=hnone (by omega)
  rw [ha] at this
  have hb0:b≠0:=by
   rw [ha] at ha'
   injection ha' with e1 e2 e3
   rw [e1]
   exact hb
  unfold pg
  rw [if_neg hb0,←this]
  have e:(⟨b,off,none⟩:Addr).add (i * sz+j)=⟨b,off+(i * sz+j),none⟩:=by
   unfold Addr.add
   by_cases h:i * sz+j=0
   ·rw [if_pos h,h,Nat.add_zero]
   ·rw [if_neg h]
  rw [e,Nat.add_assoc]
 have hgo:=VR.imm (σ:=pg W) sz (((List.range len).map fun i=>(f i).1).map c) (some a) cap (by rw [hll];exact hlc) hm (fun e he=>by
   obtain ⟨y,_,rfl⟩:=List.mem_map.1 he
   exact hc y) (fun hne=>by
   have:0 < len:=by
    rcases Nat.eq_zero_or_pos len with h | h
    ·subst h;exact absurd rfl hne
    ·exact h
   obtain ⟨b,off,rfl,_⟩:=hnone this
   exact ⟨b,off,rfl⟩) (fun i b off j hA hi hj=>by
   rw [hll] at hi
   injection hA with hA
   have h1:=hmem b off hA i hi j hj
   have h2:j < (f i).2.length:=by rw [hcl i hi];exact hj
   rw [Hb h2] at h1
   exact ⟨_,h1,(hf i hi).2.2.1 _ (List.getElem_mem h2)⟩) (fun i e b off j c' u hi hA hj hu=>by
   injection hA with hA
   have hil:i < len:=by have:=(Jq hi).1;simpa using this
   rw [List.getElem?_map,List.getElem?_map,List.getElem?_range hil] at hi
   simp only [Option.map_some,Option.some.injEq] at hi
   subst hi
   have hjs:j < sz:=by rw [←hc (f i).1];exact (Jq hj).1
   rw [hmem b off hA i hil j hjs] at hu
   exact (hf i hil).2.1.2 j c' u hj hu)
 rw [hll] at hgo
 exact hgo
theorem ot (h:W.heap[0]?=some (.cells (jL.map (Value.int .u8)).toArray 364 (0,0))):∀off u,W.cell? ⟨0,off,none⟩=some u→∃k,u= .int .u8 k:=fun off u hu=>by
 rw [cT h,List.getElem?_toArray,List.getElem?_map] at hu
 cases hk:jL[off]? with
 | none=>rw [hk] at hu;cases hu
 | some k=>rw [hk] at hu;exact ⟨k,(Option.some.inj hu).symm⟩
set_option maxRecDepth 100000 in
theorem qW (hT:W.heap[0]?=some (.cells (jL.map (Value.int .u8)).toArray 364 (0,0))) {base:Nat} {v:Value} {d:DataW H} {p:List MemPlace} (hok:Value.okWide Tryz.prog W .any base 22 v) (h:DataW.Trod enc Tryz.prog W 0 (fun _=>true) true 22 v d p):∃l,VR (pg W) (.imm 1 (aW l)) v:=by
 obtain ⟨a0,len,cap,rfl⟩:=okWide_slice Tryz.underlying22 hok
 obtain ⟨fuel,hf⟩:=h
 obtain ⟨l,h1,_⟩:=mr (enc:=enc) (ot hT) Tryz.underlying22 (by kernel_rfl) Nat.one_pos (vf Tryz.underlying3) (fun _=>rfl) fuel [.slice a0 len cap] _ (by simpa [Value.cells] using hf)
 exact ⟨l,h1.2 0 _ _ rfl rfl⟩
set_option maxRecDepth 100000 in
theorem x5 (hT:W.heap[0]?=some (.cells (jL.map (Value.int .u8)).toArray 364 (0,0))) {base:Nat} {v:Value} {d:DataW H} {p:List MemPlace} (hok:Value.okWide Tryz.prog W .any base 45 v) (h:DataW.Trod enc Tryz.prog W 0 (fun _=>true) true 45 v d p):∃l,VR (pg W) (.imm 1 (b6 l)) v:=by
 obtain ⟨a0,len,cap,rfl⟩:=okWide_slice Tryz.underlying45 hok
 obtain ⟨fuel,hf⟩:=h
 obtain ⟨l,h1,_⟩:=mr (enc:=enc) (c:=fun l:List Int=>[.imm 1 (aW l)]) (ot hT) Tryz.underlying45 (by kernel_rfl) Nat.one_pos (mr (ot hT) Tryz.underlying22 (by kernel_rfl) Nat.one_pos (vf Tryz.underlying3) (fun _=>rfl)) (fun _=>rfl) fuel [.slice a0 len cap] _ (by simpa [Value.cells] using hf)
 exact ⟨l,h1.2 0 _ _ rfl rfl⟩
end
end Go.Proofs.YtpmdfoaadejmkaaGreatDoor
