/-
  The document's rules: chains, calls, and what a lookup does with a run.
-/
import Derived.Test.YtpmdfoaadejmkaaGreatDoorM33
import Derived.Test.YtpmdfoaadejmkaaGreatDoorM13
import Derived.ShutString
import Derived.Below
import Derived.Deep.Slices
import Derived.Deep.SlicePairs
import Derived.Lib.SmallJoins
namespace Go.Proofs.YtpmdfoaadejmkaaGreatDoor
open Go.RowKit
attribute [local irreducible] AT bI AX AO Av Kt bi dx DA cK
section
variable {f:b6} {n:Nat} {l:aL} (hl:f.Lookups[n]?=some l) {m:Nat} {r:bc} (hm:l.Rules[m]?=some r) (hro:jQ r) {run:List aJ} (hr:run.length≤1000000) {p:Nat} {q:List Nat} (hps:mK run (p::q)) (deep:Nat)
abbrev Fm:=Int→Nat→List aJ→List aJ
def gE (ms:List Bool) (ig:Bool) (p:Nat) (D:Fm) (run:List aJ) (c:gR):List aJ:=match kJ ms ig run p c.At with
 | none=>run
 | some j=>D c.Lookup j run
include hl hm hro hr hps
set_option maxHeartbeats 8000000 in
theorem FF (hk:l.Kind=4) (hdp:deep≤4) (D:Fm) (hD:∀(n:Int) (j:Nat) (run:List aJ),j < run.length→run.length≤1000000→bJ Tryz.prog 110 [bZ f,aF n,.imm 6 (run.map aY),aF j,aF ((deep:Int)+1)] (.imm 6 ((D n j run).map aY))) (hDl:∀n j run,fM run.length (D n j run).length):
  bJ Tryz.prog 40 (iD f n run m (p::q) deep) (iU (r.Calls.foldl (gE (bb f) l.Ignore p D) run) (jB l p ((p::q).getLastD p) run (r.Calls.foldl (gE (bb f) l.Ignore p D) run))):=by
 obtain ⟨kd,ig,rs⟩:=l
 dsimp only at hk hm ⊢
 subst hk
 have hlg:=bG (c:=bh) hl
 have hmg:=bG (c:=bB) hm
 have hpl:=hps.lt p (by simp)
 have hp0:(bW (p::q))[(0:Int).toNat]?=some [aF p]:=rfl
 have hla:=fW (p:=p) (q:=q)
 obtain ⟨l1,l2,l3⟩:=gP hps
 have hnl:(bW (p::q)).length=q.length+1:=dp (p::q)
 have hrl:(run.map aY).length=run.length:=Ju ..
 have hcl:(r.Calls.map eM).length=r.Calls.length:=Ju ..
 have hcn:=hro.calls
 have hnv:∀R:List aJ,jB ⟨4,ig,rs⟩ p ((p::q).getLastD p) run R=max (R.length - (run.length - 1 - (p::q).getLastD p)) (p+1):=fun R=>rfl
 rw [hnv]
 generalize (p::q).getLastD p=last at *
 refine aM Tryz.func40 rfl Tryz.ntmps40 rfl fun B=>?_
 repeat' (first|refine Ji ?_|refine am ?_|refine JF a5 H6 ?_|(apply aS;refine aR ?_)|(apply aO;first|refine aN a5 ?_|refine aG a5 ?_)|(apply aK;first|refine JH 14 a5 0 JE ?_|refine JH 14 a5 1 JE ?_|refine JH 14 a5 2 JE ?_|refine JH 15 a5 0 JE ?_|refine JH 15 a5 1 JE ?_|refine JH 15 a5 2 JE ?_|refine JG a5 0 JD ?_|refine JG a5 1 JD ?_|refine JG a5 2 JD ?_|refine JG a5 3 JD ?_|fail)|refine bf ?_|refine bj a5 fun _=>?_|refine bC rfl ?_|refine bA rfl ?_)
 refine aP [5,6,14,15,16,18] (α:=Nat×List aJ) (fun s=>[(25,aF s.1),(2,.imm 6 (s.2.map aY))]) (fun s=>s.1≤r.Calls.length∧s.2.length≤1000000∧s.2=(r.Calls.take s.1).foldl (gE (bb f) ig p D) run) (fun _=>[]) (fun s=>r.Calls.length - s.1) (0,run) rfl ⟨rfl,rfl,trivial⟩ ⟨Nat.zero_le _,hr,rfl⟩ (fun _ _ h=>h) ?_
 rintro ⟨k,cur⟩ ⟨hk,hcu,hv⟩
 dsimp only at hk hcu hv ⊢
 have hcm:(cur.map aY).length=cur.length:=Ju ..
 try dsimp only [Js,Jr,Jq,Jl]
 repeat' (first|refine Ji ?_|refine JF a5 H6 ?_)
 refine ar rfl (fun h=>?_) (fun h=>?_)
 ·have hk2:k < r.Calls.length:=by have:=Jy h;omega
  obtain ⟨c,hc⟩:∃c,r.Calls[k]?=some c:=⟨_,Jz hk2⟩
  have hcg:=bG (c:=eM) hc
  have hca:=hro.at_ c (Jw hc)
  have hnx:(r.Calls.take (k+1)).foldl (gE (bb f) ig p D) run=gE (bb f) ig p D cur c:=by
   rw [List.take_add_one,hc,Option.toList_some,List.foldl_append,←hv]
   rfl
  haveI:AD Tryz.prog 109 [bZ f,.agg (bh ⟨4,ig,rs⟩),.imm 6 (cur.map aY),aF p,aF c.At] (aF (match kJ (bb f) ig cur p c.At with | some j=>(j:Int) | none=> -1)):=⟨zJ f ⟨4,ig,rs⟩ cur hcu p (by omega) c.At hca.2⟩
  clear h
  repeat' (first|refine Ji ?_|refine am ?_)
  refine bw 10 [(0,.v),(1,.v),(2,.v),(3,.v),(4,.v),(5,.v),(6,.v),(7,.v),(8,.v),(9,.v)] none ?_ trivial rfl (by kernel_rfl) (by kernel_rfl) (by kernel_rfl) bR (by kernel_rfl) rfl
  repeat' (first|refine aD ?_|refine b7 a5 ?_|(apply bV;refine cn a5 ?_)|fail)
  refine JQ [2,5,6,14,15,16,18,25,144,145,146,147,153] H6 ?_
  repeat' (first|refine Ji ?_|refine a7 ?_|refine JF a5 H6 ?_|(apply bz;refine bo ?_)|fail)
  cases hno:kJ (bb f) ig cur p c.At with
  | none=>
   have hch:gE (bb f) ig p D cur c=cur:=by
    unfold gE
    rw [hno]
   rw [hch] at hnx
   repeat' (first|refine Ji ?_|refine JF a5 H6 ?_|(apply aS;refine aR ?_)|refine bA rfl ?_)
   exact aC (k+1,cur) rfl ⟨by rw [Jv];rfl,rfl,trivial⟩ ⟨hk2,hcu,hnx.symm⟩ (by dsimp only;omega) (fun _ _ h=>h)
  | some j=>
   have hch:gE (bb f) ig p D cur c=D c.Lookup j cur:=by
    unfold gE
    rw [hno]
   rw [hch] at hnx
   haveI:AD Tryz.prog 110 [bZ f,aF c.Lookup,.imm 6 (cur.map aY),aF j,aF ((deep:Int)+1)] (.imm 6 ((D c.Lookup j cur).map aY)):=⟨hD c.Lookup j cur (EK hno) hcu⟩
   have hln:=(hDl c.Lookup j cur).big hcu
   dsimp only
   repeat' (first|refine bC rfl ?_)
   refine bw 11 [(0,.v),(1,.v),(2,.v),(3,.v),(4,.v),(5,.v),(6,.v),(7,.v),(8,.v),(9,.v),(10,.v)] none ?_ trivial rfl (by kernel_rfl) (by kernel_rfl) (by kernel_rfl) bR (by kernel_rfl) rfl
   repeat' (first|refine aD ?_|refine b7 a5 ?_|(apply ea;refine fz ?_)|(apply bV;refine cn a5 ?_)|fail)
   refine JQ [5,6,14,15,16,18,25,157,163,164,165,167] H6 ?_
   repeat' (first|refine Ji ?_|refine a7 ?_|refine JF a5 H6 ?_|(apply aS;refine aR ?_)|(apply bz;refine bo ?_)|fail)
   exact aC (k+1,D c.Lookup j cur) rfl ⟨by rw [Jv];rfl,rfl,trivial⟩ ⟨hk2,hln,hnx.symm⟩ (by dsimp only;omega) (fun _ _ h=>h)
 ·have hk2:k=r.Calls.length:=by have:=Jx h;omega
  subst hk2
  rw [List.take_length] at hv
  rw [←hv]
  clear h
  repeat' (first|refine Ji ?_|refine JF a5 H6 ?_|(apply aS;refine aR ?_)|fail)
  refine ar rfl (fun h=>?_) (fun h=>?_)
  ·have hle:=Jy h
   repeat' (first|refine Ji ?_|refine JF a5 H6 ?_|(apply aS;refine aR ?_)|fail)
   refine JP JA ?_
   unfold iU
   rw [show max (cur.length - (run.length - 1 - last)) (p+1)=p+1 by omega,Jv]
   rfl
  ·have hle:=Jx h
   repeat' (first|refine Ji ?_|refine JF a5 H6 ?_|(apply aS;refine aR ?_)|fail)
   refine JP JA ?_
   unfold iU
   rw [hcm,hrl,show ((cur.length:Int) - ((run.length:Int) - (last:Int) - 1))=((max (cur.length - (run.length - 1 - last)) (p+1):Nat):Int) by omega]
end
def Ay (f:b6) (deep k:Nat):Prop:=∀(n:Nat) (l:aL) (m:Nat) (r:bc) (run:List aJ) (p:Nat) (q:List Nat),f.Lookups[n]?=some l→l.Rules[m]?=some r→1≤l.Kind→l.Kind≤6→jQ r→run.length≤1000000→mK run (p::q)→
 bJ Tryz.prog 40 (iD f n run m (p::q) deep) (iU (fS (bb f) f.Lookups k l r (p::q) run) (jB l p ((p::q).getLastD p) run (fS (bb f) f.Lookups k l r (p::q) run)))
theorem we (f:b6) (n:Int) (run:List aJ) (j:Nat):bJ Tryz.prog 110 [bZ f,aF n,.imm 6 (run.map aY),aF j,aF 5] (.imm 6 (run.map aY)):=by
 refine aM Tryz.func110 rfl Tryz.ntmps110 rfl fun B=>?_
 repeat' (first|refine Ji ?_|refine JF a5 H6 ?_|refine JO JB ?_|refine bf ?_|refine bC rfl ?_)
 exact JM JA
set_option maxHeartbeats 4000000 in
theorem yV {f:b6} (hf:iZ f) {deep k:Nat} (hdp:deep≤4) (hd:Ay f deep k) (n:Int) (j:Nat) (run:List aJ) (hj:j < run.length) (hr:run.length≤1000000):
  bJ Tryz.prog 110 [bZ f,aF n,.imm 6 (run.map aY),aF j,aF deep] (.imm 6 ((i7 (bb f) f.Lookups (fS (bb f) f.Lookups k) n j run).map aY)):=by
 refine aM Tryz.func110 rfl Tryz.ntmps110 rfl fun B=>?_
 have hll:(f.Lookups.map bh).length=f.Lookups.length:=Ju ..
 by_cases hn:0≤n∧n < f.Lookups.length
 ·obtain ⟨z,rfl⟩:∃z:Nat,n=z:=⟨n.toNat,by omega⟩
  have hz:z < f.Lookups.length:=by omega
  obtain ⟨l,hl⟩:∃l,f.Lookups[z]?=some l:=⟨_,Jz hz⟩
  have hlg:=bG (c:=bh) hl
  have hcv:i7 (bb f) f.Lookups (fS (bb f) f.Lookups k) (z:Int) j run=if l.Kind < 1∨4 < l.Kind then run else match dQ (bb f) l run j [] with
   | none=>run
   | some r=>fS (bb f) f.Lookups k l r (cW (bb f) l run j r) run:=by
   unfold i7
   rw [if_neg (by omega),Int.toNat_natCast,hl]
   rfl
  repeat' (first|refine Ji ?_|refine JF a5 H6 ?_|refine bf ?_|fail)
  refine bX [1,2,3,4,5] (l.Kind < 1∨4 < l.Kind) rfl (fun Q' K=>?_) (fun hC=>?_) (fun hC=>?_)
  ·repeat' (first|refine Ji ?_|refine JF a5 H6 ?_|refine JN H6 ?_|refine JO JB ?_|(apply aO;first|refine aN a5 ?_|refine aG a5 ?_)|refine JR JA (fun _=>?_) (fun _=>?_))
   all_goals first | exact K _ _ rfl rfl (by simp_all <;> omega) | (exfalso;simp_all <;> omega)
  ·rw [if_pos hC] at hcv
   rw [hcv]
   repeat' (first|refine Ji ?_|refine JF a5 H6 ?_)
   exact JM JA
  ·rw [if_neg hC] at hcv
   have hma:=lf f z l hl (hf.looks (Jw hl)) run hr j hj []
   repeat' (first|refine Ji ?_|refine JF a5 H6 ?_)
   refine b8 [] _ (AC.args hma (a:=[bZ f,aF z,.imm 6 (run.map aY),aF j,.sc (.slice none 0 0)]) ⟨cU.refl _,cU.refl _,cU.refl _,cU.refl _,cU.nil 1,trivial⟩) rfl rfl (Jo _) rfl fun c L1 hc=>?_
   subst hc
   refine aI (bH (L':=[]) (List.nil_sublist _)) ?_
   unfold qN
   cases hmn:kj (bb f) l run j [] with
   | none=>
    rw [lh hmn] at hcv
    dsimp only at hcv ⊢
    rw [hcv]
    repeat' (first|refine Ji ?_|refine JF a5 H6 ?_|refine bC rfl ?_)
    exact JM JA
   | some m=>
    obtain ⟨r,hm,hmv⟩:=li hmn
    rw [hmv] at hcv
    dsimp only at hcv ⊢
    rw [hm]
    simp only [Option.map_some,Option.getD_some]
    rw [show (cH (bb f) l.Ignore run j).take r.In.length=cW (bb f) l run j r from rfl]
    obtain ⟨hps,hrm,hin,_,hhd⟩:=zR hmv
    generalize cW (bb f) l run j r=ps at *
    obtain ⟨p,ps',rfl⟩:=List.exists_cons_of_ne_nil hps.some_
    have hdo:=hd z l m r run p ps' hl hm (by omega) (by omega) (hf.ruleO (Jw hl) hrm hin) hr hps
    rw [hcv]
    repeat' (first|refine Ji ?_|refine JF a5 H6 ?_|refine bA rfl ?_)
    refine b8 [] _ hdo rfl rfl (Jo _) rfl fun c L1 hc=>?_
    subst hc
    refine aI (bH (L':=[]) (List.nil_sublist _)) ?_
    unfold iU
    repeat' (first|refine Ji ?_|refine JF a5 H6 ?_)
    exact JM JA
 ·have hcv:i7 (bb f) f.Lookups (fS (bb f) f.Lookups k) n j run=run:=by
   unfold i7
   split
   ·rfl
   ·rw [List.getElem?_eq_none (by omega)]
  rw [hcv]
  repeat' (first|refine Ji ?_|refine JF a5 H6 ?_|refine bf ?_|fail)
  refine bX [1,2,3,4,5] True rfl (fun Q' K=>?_) (fun hC=>?_) (fun hC=>(hC trivial).elim)
  ·repeat' (first|refine Ji ?_|refine JF a5 H6 ?_|refine JN H6 ?_|refine JO JB ?_|refine JR JA (fun _=>?_) (fun _=>?_))
   all_goals first | exact K _ _ rfl rfl (by simp_all <;> omega) | (exfalso;simp_all <;> omega)
  ·repeat' (first|refine Ji ?_|refine JF a5 H6 ?_)
   exact JM JA
theorem lF {ms:List Bool} {ls:List aL} {k:Nat} {l:aL} (h:l.Kind≠4) {r:bc} {ps:List Nat} {run:List aJ}:fS ms ls k l r ps run=dX l r ps run:=by
 cases k with
 | zero=>rfl
 | succ k=>rw [fS];dsimp only;rw [if_neg h]
theorem rY {ms:List Bool} {ig:Bool} {p:Nat}:∀(cs:List gR) (run:List aJ),cs.foldl (gE ms ig p fun _ _ run=>run) run=run
 | [],_=>rfl
 | c::cs,run=>by
  rw [List.foldl_cons]
  have:gE ms ig p (fun _ _ run=>run) run c=run:=by unfold gE;split <;> rfl
  rw [this,rY cs]
theorem xP {f:b6} (hf:iZ f):∀(k deep:Nat),deep+k=4→Ay f deep k:=by
 intro k
 induction k with
 | zero=>
  intro deep hdk n l m r run p q hl hm h1 h6 hro hr hps
  by_cases h4:l.Kind=4
  ·have n2:deep=4:=by omega
   subst n2
   have:=FF hl hm hro hr hps 4 h4 (Nat.le_refl _) (fun _ _ run=>run) (fun n j run _ _=>we f n run j) (fun _ _ _=>by unfold fM;omega)
   rw [rY] at this
   have hs:fS (bb f) f.Lookups 0 l r (p::q) run=run:=by
    show dX l r (p::q) run=run
    unfold dX
    rw [if_neg (by omega),if_neg (by omega),if_neg (by omega),if_neg (by omega)]
   rw [hs]
   exact this
  ·rw [lF h4]
   rcases (by omega:l.Kind=1∨l.Kind=5∨l.Kind=2∨l.Kind=3∨l.Kind=6) with h | h | h | h | h
   ·exact FC hl hm hro hr hps deep h
   ·exact FG hl hm hro hr hps deep h
   ·exact FD hl hm hro hr hps deep h
   ·exact FE hl hm hro hr hps deep h
   ·exact FH hl hm hro hr hps deep h
 | succ k ih=>
  intro deep hdk n l m r run p q hl hm h1 h6 hro hr hps
  by_cases h4:l.Kind=4
  ·have hca:=yV hf (deep:=deep+1) (k:=k) (by omega) (ih (deep+1) (by omega))
   have:=FF hl hm hro hr hps deep h4 (by omega) (i7 (bb f) f.Lookups (fS (bb f) f.Lookups k)) (fun n j run hj hr=>by have:=hca n j run hj hr;rw [Jv] at this;exact this) (fun n j run=>nY (fun l r ps run=>io k l r ps run))
   have hs:fS (bb f) f.Lookups (k+1) l r (p::q) run=r.Calls.foldl (gE (bb f) l.Ignore p (i7 (bb f) f.Lookups (fS (bb f) f.Lookups k))) run:=by
    rw [fS]
    dsimp only
    rw [if_pos h4]
    rfl
   rw [hs]
   exact this
  ·rw [lF h4]
   rcases (by omega:l.Kind=1∨l.Kind=5∨l.Kind=2∨l.Kind=3∨l.Kind=6) with h | h | h | h | h
   ·exact FC hl hm hro hr hps deep h
   ·exact FG hl hm hro hr hps deep h
   ·exact FD hl hm hro hr hps deep h
   ·exact FE hl hm hro hr hps deep h
   ·exact FH hl hm hro hr hps deep h
end Go.Proofs.YtpmdfoaadejmkaaGreatDoor
namespace Go.Proofs.YtpmdfoaadejmkaaGreatDoor
open Go.RowKit
attribute [local irreducible] AT bI AX AO Av Kt bi dx DA cK
theorem yL {ms:List Bool} {ls:List aL} {z:Nat} {l:aL} (hl:ls[z]?=some l) (run:List aJ) (forms:List Int):d7 ms ls (z:Int) run forms=if l.Kind < 1∨6 < l.Kind then run else if l.Kind=5 then gU ms ls l forms run.length run else rI ms ls l forms run.length 0 run:=by
 unfold d7
 rw [if_neg (by omega),Int.toNat_natCast,hl]
theorem vx {r:bc} {i:Nat} {run:List aJ}:(du r i run).length=run.length:=by
 unfold du
 split
 ·rfl
 ·split
  ·rfl
  ·split
   ·rw [List.length_set]
   ·rfl
theorem BG {ms:List Bool} {ls:List aL} {k:Nat} {l:aL} (h:l.Kind=5) {r:bc} {ps:List Nat} {run:List aJ}:(fS ms ls k l r ps run).length=run.length:=by
 rw [lF (by omega)]
 unfold dX
 rw [if_pos (.inr h),vx]
theorem EJ {ms:List Bool} {ls:List aL} {k:Nat} {l:aL} {r:bc} {run:List aJ} {p:Nat} {q:List Nat} (hps:mK run (p::q)) (hr:run.length≤1000000) (hr2:(fS ms ls k l r (p::q) run).length≤1000000):
  jB l p ((p::q).getLastD p) run (fS ms ls k l r (p::q) run)≤1000001∧(fS ms ls k l r (p::q) run).length - jB l p ((p::q).getLastD p) run (fS ms ls k l r (p::q) run)≤run.length - p - 1:=by
 obtain ⟨l1,l2,l3⟩:=gP hps
 have hpair:l.Kind=6→(fS ms ls k l r (p::q) run).length=run.length:=fun h6=>by
  rw [lF (by omega)]
  unfold dX
  rw [if_neg (by omega),if_neg (by omega),if_neg (by omega),if_pos h6]
  unfold kE
  split
  ·rw [List.length_set]
  ·rfl
 generalize fS ms ls k l r (p::q) run=R at *
 generalize (p::q).getLastD p=last at *
 unfold jB
 split
 ·omega
 ·split
  ·rename_i h
   have:=hpair h.1
   omega
  ·omega
set_option maxHeartbeats 8000000 in
theorem oH {f:b6} (hf:iZ f) (n:Int) (run0:List aJ) (hr0:run0.length≤1000000) (forms:List Int):bJ Tryz.prog 20 [bZ f,aF n,.imm 6 (run0.map aY),.imm 1 (aX forms)] (.imm 6 ((d7 (bb f) f.Lookups n run0 forms).map aY)):=by
 refine aM Tryz.func20 rfl Tryz.ntmps20 rfl fun B=>?_
 have hll:(f.Lookups.map bh).length=f.Lookups.length:=Ju ..
 have hrl0:(run0.map aY).length=run0.length:=Ju ..
 repeat' (first|refine Ji ?_|refine JF a5 H6 ?_|refine bf ?_|refine lj (n:=0) a5 fun _=>?_|fail)
 refine bK a5 [] rfl rfl rfl rfl (Jo _) (by simp;omega) (by simp;omega) rfl fun q1=>?_
 rw [Jr]
 repeat' (first|refine Ji ?_|refine JF a5 H6 ?_)
 refine aI (bH (L':=[]) (List.nil_sublist _)) ?_
 refine aI (bQ (t:=9) (c':= .imm 6 (run0.map aY)) rfl fun σ v h=>VR.im h) ?_
 by_cases hn:0≤n∧n < f.Lookups.length
 ·obtain ⟨z,rfl⟩:∃z:Nat,n=z:=⟨n.toNat,by omega⟩
  have hz:z < f.Lookups.length:=by omega
  obtain ⟨l,hl⟩:∃l,f.Lookups[z]?=some l:=⟨_,Jz hz⟩
  have hlg:=bG (c:=bh) hl
  have hlm:=Jw hl
  have hav:=yL (ms:=bb f) hl run0 forms
  repeat' (first|refine JF a5 H6 ?_|refine JN H6 ?_)
  refine bX [1,3,4,9] (l.Kind < 1∨6 < l.Kind) rfl (fun Q' K=>?_) (fun hC=>?_) (fun hC=>?_)
  ·repeat' (first|refine Ji ?_|refine JF a5 H6 ?_|refine JN H6 ?_|refine JO JB ?_|(apply aO;first|refine aN a5 ?_|refine aG a5 ?_)|refine JR JA (fun _=>?_) (fun _=>?_))
   all_goals first | exact K _ _ rfl rfl (by simp_all <;> omega) | (exfalso;simp_all <;> omega)
  ·rw [if_pos hC] at hav
   rw [hav]
   repeat' (first|refine Ji ?_|refine JF a5 H6 ?_)
   exact JM JA
  ·rw [if_neg hC] at hav
   repeat' (first|refine Ji ?_|refine JF a5 H6 ?_|(apply aO;first|refine aN a5 ?_|refine aG a5 ?_)|fail)
   refine ar rfl (fun h5=>?_) (fun h5=>?_)
   ·have h5:l.Kind=5:=Jy h5
    rw [if_pos h5] at hav
    repeat' (first|refine Ji ?_|refine am ?_|refine JF a5 H6 ?_|(apply aS;refine aR ?_)|fail)
    refine aP [1,3,4] (α:=Nat×List aJ) (fun s=>[(10,aF ((s.1:Int) - 1)),(9,.imm 6 (s.2.map aY))]) (fun s=>s.2.length≤1000000∧s.1≤s.2.length∧gU (bb f) f.Lookups l forms s.1 s.2=gU (bb f) f.Lookups l forms run0.length run0) (fun _=>[]) (fun s=>s.1) (run0.length,run0) rfl ⟨by rw [hrl0];rfl,rfl,trivial⟩ ⟨hr0,Nat.le_refl _,rfl⟩ (fun _ _ h=>h) ?_
    rintro ⟨k,cur⟩ ⟨hcu,hk,hv⟩
    dsimp only at hcu hk hv ⊢
    try dsimp only [Js,Jr,Jq,Jl]
    repeat' (first|refine Ji ?_|refine JF a5 H6 ?_)
    refine ar rfl (fun h=>?_) (fun h=>?_)
    ·obtain ⟨i,rfl⟩:∃j,k=j+1:=⟨k - 1,by have:=Jy h;omega⟩
     rw [show ((i+1:Nat):Int) - 1=(i:Int) by omega]
     rw [gU] at hv
     clear h
     have hi:i < cur.length:=hk
     ·have hma:=lf f z l hl (hf.looks hlm) cur hcu i hi forms
      repeat' (first|refine Ji ?_|refine am ?_|refine JF a5 H6 ?_)
      refine b8 [] _ hma rfl rfl (Jo _) rfl fun c L1 hc=>?_
      subst hc
      refine aI (bH (L':=[]) (List.nil_sublist _)) ?_
      unfold qN
      cases hmn:kj (bb f) l cur i forms with
      | none=>
       rw [lh hmn] at hv
       dsimp only at hv ⊢
       repeat' (first|refine Ji ?_|refine JF a5 H6 ?_|(apply aS;refine aR ?_)|refine bA rfl ?_)
       exact aC (i,cur) rfl ⟨rfl,rfl,trivial⟩ ⟨hcu,by dsimp only;omega,hv⟩ (by dsimp only;omega) (fun _ _ h=>h)
      | some m=>
       obtain ⟨r,hm,hmv⟩:=li hmn
       rw [hmv] at hv
       dsimp only at hv ⊢
       rw [hm]
       simp only [Option.map_some,Option.getD_some]
       rw [show (cH (bb f) l.Ignore cur i).take r.In.length=cW (bb f) l cur i r from rfl]
       obtain ⟨hps,hrm,hin,_,hhd⟩:=zR hmv
       generalize cW (bb f) l cur i r=ps at *
       obtain ⟨p,ps',rfl⟩:=List.exists_cons_of_ne_nil hps.some_
       have hdo:=xP hf 4 0 rfl z l m r cur p ps' hl hm (by omega) (by omega) (hf.ruleO hlm hrm hin) hcu hps
       have hr2:=(io (ms:=bb f) (ls:=f.Lookups) 4 l r (p::ps') cur).big hcu
       have hl5:=BG (ms:=bb f) (ls:=f.Lookups) (k:=4) h5 (r:=r) (ps:=p::ps') (run:=cur)
       generalize fS (bb f) f.Lookups 4 l r (p::ps') cur=R at *
       repeat' (first|refine Ji ?_|refine JF a5 H6 ?_|refine bC rfl ?_)
       refine b8 [] _ hdo rfl rfl (Jo _) rfl fun c L1 hc=>?_
       subst hc
       refine aI (bH (L':=[]) (List.nil_sublist _)) ?_
       unfold iU
       repeat' (first|refine Ji ?_|refine JF a5 H6 ?_|(apply aS;refine aR ?_)|fail)
       exact aC (i,R) rfl ⟨rfl,rfl,trivial⟩ ⟨hr2,by dsimp only;omega,hv⟩ (by dsimp only;omega) (fun _ _ h=>h)
    ·have hk0:k=0:=by have:=Jx h;omega
     subst hk0
     rw [gU] at hv
     repeat' (first|refine Ji ?_|refine JF a5 H6 ?_)
     exact JL H6 (by rw [hv,hav])
   ·have h5:l.Kind≠5:=Jx h5
    rw [if_neg h5] at hav
    repeat' (first|refine Ji ?_|refine am ?_|refine JF a5 H6 ?_)
    refine aP [1,3,4] (α:=Nat×Nat×List aJ) (fun s=>[(13,aF s.1),(9,.imm 6 (s.2.2.map aY))]) (fun s=>s.2.2.length≤1000000∧s.1≤1000001∧s.2.2.length - s.1≤s.2.1∧rI (bb f) f.Lookups l forms s.2.1 s.1 s.2.2=rI (bb f) f.Lookups l forms run0.length 0 run0) (fun _=>[]) (fun s=>s.2.1) (0,run0.length,run0) rfl ⟨rfl,rfl,trivial⟩ ⟨hr0,by dsimp only;omega,by dsimp only;omega,rfl⟩ (fun _ _ h=>h) ?_
    rintro ⟨i,k,cur⟩ ⟨hcu,hi1,hk,hv⟩
    dsimp only at hcu hi1 hk hv ⊢
    have hcl:(cur.map aY).length=cur.length:=Ju ..
    try dsimp only [Js,Jr,Jq,Jl]
    repeat' (first|refine Ji ?_|refine JF a5 H6 ?_)
    refine ar rfl (fun h=>?_) (fun h=>?_)
    ·have hi:i < cur.length:=by have:=Jy h;omega
     obtain ⟨k,rfl⟩:∃j,k=j+1:=⟨k - 1,by omega⟩
     rw [rI,if_pos hi] at hv
     have hma:=lf f z l hl (hf.looks hlm) cur hcu i hi forms
     clear h
     repeat' (first|refine Ji ?_|refine am ?_|refine JF a5 H6 ?_)
     refine b8 [] _ hma rfl rfl (Jo _) rfl fun c L1 hc=>?_
     subst hc
     refine aI (bH (L':=[]) (List.nil_sublist _)) ?_
     unfold qN
     cases hmn:kj (bb f) l cur i forms with
     | none=>
      rw [lh hmn] at hv
      dsimp only at hv ⊢
      repeat' (first|refine Ji ?_|refine JF a5 H6 ?_|(apply aS;refine aR ?_)|refine bC rfl ?_)
      exact aC (i+1,k,cur) rfl ⟨by rw [Jv];rfl,rfl,trivial⟩ ⟨hcu,by dsimp only;omega,by dsimp only;omega,hv⟩ (by dsimp only;omega) (fun _ _ h=>h)
     | some m=>
      obtain ⟨r,hm,hmv⟩:=li hmn
      rw [hmv] at hv
      dsimp only at hv ⊢
      rw [hm]
      simp only [Option.map_some,Option.getD_some]
      rw [show (cH (bb f) l.Ignore cur i).take r.In.length=cW (bb f) l cur i r from rfl]
      obtain ⟨hps,hrm,hin,_,hhd⟩:=zR hmv
      generalize cW (bb f) l cur i r=ps at *
      obtain ⟨p,ps',rfl⟩:=List.exists_cons_of_ne_nil hps.some_
      simp only [List.head?_cons,Option.some.injEq] at hhd
      subst hhd
      obtain ⟨l1,l2,l3⟩:=gP hps
      have hdo:=xP hf 4 0 rfl z l m r cur p ps' hl hm (by omega) (by omega) (hf.ruleO hlm hrm hin) hcu hps
      have hr2:=(io (ms:=bb f) (ls:=f.Lookups) 4 l r (p::ps') cur).big hcu
      have hnx:=EJ hps hcu hr2
      generalize fS (bb f) f.Lookups 4 l r (p::ps') cur=R at *
      generalize jB l p ((p::ps').getLastD p) cur R=nx at *
      repeat' (first|refine Ji ?_|refine JF a5 H6 ?_|refine bA rfl ?_)
      refine b8 [] _ hdo rfl rfl (Jo _) rfl fun c L1 hc=>?_
      subst hc
      refine aI (bH (L':=[]) (List.nil_sublist _)) ?_
      unfold iU
      repeat' (first|refine Ji ?_|refine JF a5 H6 ?_)
      exact aC (nx,k,R) rfl ⟨rfl,rfl,trivial⟩ ⟨hr2,hnx.1,by have:=hnx.2;dsimp only;omega,hv⟩ (by dsimp only;omega) (fun _ _ h=>h)
    ·have hi:cur.length≤i:=by have:=Jx h;omega
     have hrun:cur=rI (bb f) f.Lookups l forms run0.length 0 run0:=by
      rw [←hv]
      cases k with
      | zero=>rw [rI]
      | succ k=>rw [rI,if_neg (by omega)]
     repeat' (first|refine Ji ?_|refine JF a5 H6 ?_)
     exact JL H6 (by rw [hav,←hrun])
 ·have hav:d7 (bb f) f.Lookups n run0 forms=run0:=w6 (by omega)
  rw [hav]
  repeat' (first|fail)
  refine bX [1,3,4,9] True rfl (fun Q' K=>?_) (fun hC=>?_) (fun hC=>(hC trivial).elim)
  ·repeat' (first|refine Ji ?_|refine JF a5 H6 ?_|refine JN H6 ?_|refine JO JB ?_|refine JR JA (fun _=>?_) (fun _=>?_))
   all_goals first | exact K _ _ rfl rfl (by simp_all <;> omega) | (exfalso;simp_all <;> omega)
  ·repeat' (first|refine Ji ?_|refine JF a5 H6 ?_)
   exact JM JA
theorem wR (l:List Int):bJ Tryz.prog 14 [.imm 1 (aX l)] (bZ (kD (l.take 300))):=by
 refine aM Tryz.func14 rfl Tryz.ntmps14 rfl fun B=>?_
 refine cI 0 rfl rfl fun hl=>?_
 have hil:=aZ l
 repeat' (first|refine Ji ?_|refine JF a5 H6 ?_|refine bj a5 fun _=>?_|fail)
 refine tD a5 (min l.length 300) rfl rfl rfl rfl rfl (by omega) (by omega) rfl ?_
 have ht:l.take (min l.length 300)=l.take 300:=by
  rcases Nat.le_total l.length 300 with h | h
  ·rw [Nat.min_eq_left h,List.take_length,List.take_of_length_le h]
  ·rw [Nat.min_eq_right h]
 rw [show (aX l).take (min l.length 300)=aX (l.take 300) from by rw [←ht];unfold aX;rw [List.map_take]]
 refine bo (hc:=⟨Co (l.take 300) (by rw [List.length_take];omega)⟩) ?_
 repeat' (first|refine Ji ?_|(apply aK;first|refine JG a5 0 JD ?_|refine JG a5 1 JD ?_|refine JG a5 2 JD ?_|refine JG a5 3 JD ?_|fail))
 exact xJ a5 0 rfl rfl rfl rfl rfl rfl
theorem zu (g:Int) (l:List Int):(uV g l).length≤60:=by
 unfold uV
 rw [oe,List.length_take]
 omega
set_option maxHeartbeats 8000000 in
theorem un (l run forms:List Int):AC Tryz.prog 3 [.imm 1 (aX l),.imm 1 (aX run),.imm 1 (aX forms)] [dU] fun c L=>c=dV true∧L=[dU]:=by
 refine aM Tryz.func3 rfl Tryz.ntmps3 rfl fun B=>?_
 repeat' (first|refine Ji ?_|refine JF a5 H6 ?_)
 refine b8 [dU] [] Da rfl rfl (Jo _) rfl fun c L1 ⟨hc,hL⟩=>?_
 subst hc;subst hL
 repeat' (first|refine Ji ?_|refine JF a5 H6 ?_)
 refine bo (hc:=⟨wR l⟩) ?_
 have hM:=pD (l.take 300)
 have hE:=Cp (l.take 300)
 generalize kD (l.take 300)=f at hM hE ⊢
 have hgn:=hM.glyN
 have hln:=hM.looks.len
 have hgm:(f.Glyphs.map bO).length=f.Glyphs.length:=Ju ..
 have hlm:(f.Lookups.map bh).length=f.Lookups.length:=Ju ..
 repeat' (first|refine Ji ?_|refine JF a5 H6 ?_|(apply aK;first|refine JH 8 a5 0 JE ?_|refine JH 8 a5 1 JE ?_|refine JH 8 a5 2 JE ?_|refine JG a5 0 JD ?_|refine JG a5 1 JD ?_|refine JG a5 2 JD ?_|refine JG a5 3 JD ?_|fail)|refine bj a5 fun _=>?_|fail)
 refine b8 [] _ hE rfl rfl (Jo _) rfl fun c L1 hc=>?_
 obtain ⟨E,hE,hA,rfl⟩:=hc
 refine aI (bH (L':=[dU]) (List.sublist_append_right ..)) ?_
 repeat' (first|refine Ji ?_|refine JF a5 H6 ?_|refine JN H6 ?_)
 refine bX [1,2,8,9] False rfl (fun Q' K=>?_) (fun hC=>hC.elim) (fun _=>?_)
 ·repeat' (first|fail)
  refine qT Tryz.underlying34 rfl rfl rfl rfl ?_
  repeat' (first|refine Ji ?_|refine JF a5 H6 ?_)
  exact K _ _ rfl rfl (by simp)
 repeat' (first|refine Ji ?_|refine JF a5 H6 ?_)
 refine bo (hc:=⟨Ca run ((f.Glyphs.map bO).length:Int) (by omega)⟩) ?_
 have hw:=zu ((f.Glyphs.map bO).length:Int) run
 generalize uV ((f.Glyphs.map bO).length:Int) run=w at hw ⊢
 repeat' (first|refine Ji ?_|refine am ?_|refine JF a5 H6 ?_)
 refine aP [2,8,9,11] (α:=Nat) (fun k=>[(12,aF ((k:Int) - 1))]) (fun k=>k≤f.Lookups.length+2) (fun _=>[dU]) (fun k=>f.Lookups.length+2 - k) 0 rfl ⟨rfl,trivial⟩ (Nat.zero_le _) (fun _ _ h=>h) fun k hk=>?_
 try dsimp only [Js,Jr,Jq,Jl]
 repeat' (first|refine Ji ?_|refine JF a5 H6 ?_)
 refine ar rfl (fun h=>?_) (fun h=>?_)
 ·have hk2:k < f.Lookups.length+2:=by have:=Jy h;omega
  have hA1:=hA.ac ((k:Int) - 1) w (forms.take 12) (by omega)
  have hA2:=AC.args (hA.ac ((k:Int) - 1) w [] (by omega)) (a:=[.iptr (ei E),aF ((k:Int) - 1),.imm 6 (w.map aY),.sc (.slice none 0 0)]) ⟨cU.refl _,cU.refl _,cU.refl _,cU.nil 1,trivial⟩
  haveI i1:AD Tryz.prog 20 [bZ f,aF ((k:Int) - 1),.imm 6 (w.map aY),.imm 1 (aX (forms.take 12))] (.imm 6 ((d7 (bb f) f.Lookups ((k:Int) - 1) w (forms.take 12)).map aY)):=⟨oH hM.fontN _ w (by omega) _⟩
  haveI i2:AD Tryz.prog 20 [bZ f,aF ((k:Int) - 1),.imm 6 (w.map aY),.sc (.slice none 0 0)] (.imm 6 ((d7 (bb f) f.Lookups ((k:Int) - 1) w []).map aY)):=⟨AC.args (oH hM.fontN ((k:Int) - 1) w (by omega) []) (a:=[bZ f,aF ((k:Int) - 1),.imm 6 (w.map aY),.sc (.slice none 0 0)]) ⟨cU.refl _,cU.refl _,cU.refl _,cU.nil 1,trivial⟩⟩
  haveI i3:AD Tryz.prog 19 [.imm 1 (aX forms)] (.imm 1 (aX (forms.take 12))):=⟨Er forms⟩
  have b1:=hA.len ((k:Int) - 1) w (forms.take 12) (by omega)
  have b2:=hA.len ((k:Int) - 1) w [] (by omega)
  generalize d7 (bb f) f.Lookups ((k:Int) - 1) w (forms.take 12)=r1 at *
  generalize d7 (bb f) f.Lookups ((k:Int) - 1) w []=r2 at *
  haveI i4:AD Tryz.prog 17 [.imm 6 (r1.map aY),.imm 6 (r1.map aY)] (dV (decide (r1=r1))):=⟨vw r1 r1 b1⟩
  haveI i5:AD Tryz.prog 17 [.imm 6 (r2.map aY),.imm 6 (r2.map aY)] (dV (decide (r2=r2))):=⟨vw r2 r2 b2⟩
  clear h
  repeat' (first|refine Ji ?_|refine am ?_)
  refine bw 22 [(0,.v),(1,.v),(2,.v),(3,.v),(4,.v),(6,.v),(7,.v),(8,.v),(9,.v),(5,.e),(10,.v),(11,.v),(12,.v),(13,.v),(14,.v),(15,.v),(16,.v),(17,.v),(19,.v),(20,.v),(21,.v),(18,.e)] none ?_ trivial rfl (by kernel_rfl) (by kernel_rfl) (by kernel_rfl) bR (by kernel_rfl) rfl
  repeat' (first|refine aD ?_|refine b7 a5 ?_|(apply cQ;refine dg ?_)|fail)
  refine il [dU] [] hA1 rfl rfl (Jo _) trivial fun c L1 ⟨hc,hL⟩=>?_
  subst hc;subst hL
  repeat' (first|refine aD ?_|refine b7 a5 ?_|(apply cQ;refine dg ?_)|fail)
  rw [decide_eq_true (rfl:r1=r1)]
  repeat' (first|refine aD ?_|refine b7 a5 ?_|fail)
  refine il [dU] [] hA2 rfl rfl (Jo _) rfl fun c L1 ⟨hc,hL⟩=>?_
  subst hc;subst hL
  repeat' (first|fail)
  refine JQ [2,8,9,11,12,57,61,62,63,64] H6 ?_
  repeat' (first|refine Ji ?_|refine a7 ?_|refine JF a5 H6 ?_|refine JN H6 ?_|(apply bz;refine bo ?_)|fail)
  rw [decide_eq_true (rfl:r2=r2)]
  repeat' (first|refine Ji ?_|refine JF a5 H6 ?_|(apply aS;refine aR ?_)|refine bA rfl ?_)
  exact aC (k+1) rfl ⟨by rw [show ((k+1:Nat):Int) - 1=(k:Int) - 1+1 by omega];rfl,trivial⟩ hk2 (by omega) (fun _ _ h=>h)
 ·repeat' (first|refine Ji ?_|refine JF a5 H6 ?_)
  exact JL H6 ⟨rfl,rfl⟩
end Go.Proofs.YtpmdfoaadejmkaaGreatDoor
namespace Go.Proofs.YtpmdfoaadejmkaaGreatDoor
open Go.ChangeShapes Go.WideShapes Go.ChangeAt Go.RowKit Go.Deep Go.Joins
section
variable {H:Type} {enc:TypeId×Value→H} {P:Program} {W:World}
def FV (enc:TypeId×Value→H) (P:Program) (W:World) (t:TypeId) {α:Type} (c:α→List AV):Prop:=
 ∀fuel cs x,DataW.trod enc P W 0 (fun _=>true) true fuel t cs=some x→∃a,di (qP W) (c a) cs∧(∀u∈cs,u.oneCell'=true)∧∀u k,cs[0]?=some u→u≠ .int .u8 k
theorem CJ {t:TypeId} (ht:P.underlying t=some (.int .i64)):FV enc P W t (fun z:Int=>[aF z]):=fun fuel cs x h=>by
 obtain ⟨z,rfl,-,-⟩:=DataW.trod_int ht h
 exact ⟨z,di.cons (.sc _) di.nil,by intro u hu;rw [Jm hu];rfl,fun u k hu=>by simp at hu;subst hu;simp⟩
theorem x4 {t e:TypeId} {sz:Nat} {α:Type} [Inhabited α] {c:α→List AV} (hT:∀off u,W.cell? ⟨0,off,none⟩=some u→∃k,u= .int .u8 k) (ht:P.underlying t=some (.slice e)) (hs:P.cellsOf e=sz) (h0:0 < sz) (he:FV enc P W e c) (hc:∀a,(c a).length=sz):
  FV enc P W t (fun l:List α=>[.imm sz (l.map c)]):=fun fuel cs x h=>by
 rcases open_slice ht h with ⟨rfl,rfl⟩ | ⟨a,len,cap,m,n,D,Pl,rfl,_,hlc,hm,hmm,rfl,hx⟩
 ·exact ⟨[],di.cons (it sz (.sc _)) di.nil,by intro u hu;rw [Jm hu];rfl,fun u k hu=>by simp at hu;subst hu;simp⟩
 have hmle:len≤m:=by rw [hmm];split <;> omega
 have each:∀i,i < len→∃q:α×List Value,W.cells? 0 (a.add (i * sz)) sz=some q.2∧di (qP W) (c q.1) q.2∧(∀u∈q.2,u.oneCell'=true)∧∀u k,q.2[0]?=some u→u≠ .int .u8 k:=by
  intro i hi
  obtain ⟨cs',h1,h2⟩:=hx i (by omega)
  rw [hs] at h1
  obtain ⟨a',k1,k2,k3⟩:=he n cs' _ h2
  exact ⟨(a',cs'),h1,k1,k2,k3⟩
 obtain ⟨f,hf⟩:=choose_lt each
 refine ⟨(List.range len).map fun i=>(f i).1,di.cons ?_ di.nil,by intro u hu;rw [Jm hu];rfl,fun u k hu=>by simp at hu;subst hu;simp⟩
 have hll:(((List.range len).map fun i=>(f i).1).map c).length=len:=by simp
 have hcell:∀i,i < len→∀j,j < sz→W.cell? (a.add (i * sz+j))=(f i).2[j]?:=by
  intro i hi j hj
  have:=(World.cells?_some (hf i hi).1).2.2 j hj
  rw [add_add] at this
  exact this
 have hcl:∀i,i < len→(f i).2.length=sz:=fun i hi=>(World.cells?_some (hf i hi).1).2.1
 have hnone:0 < len→∃b off,a=⟨b,off,none⟩∧b≠0:=by
  intro hp
  have h1:=hcell 0 hp 0 h0
  have h2:=(hf 0 hp).2.2.2
  rw [Nat.zero_mul,Nat.zero_add,Jz (by rw [hcl 0 hp];exact h0)] at h1
  obtain ⟨b,off,sp⟩:=a
  have e:(⟨b,off,sp⟩:Addr).add 0=⟨b,off,sp⟩:=by simp [Addr.add]
  rw [e] at h1
  cases sp with
  | some s=>
   simp only [World.cell?] at h1
   split at h1
   ·simp at h1
   ·cases h1
  | none=>
   refine ⟨b,off,rfl,fun e=>?_⟩
   subst e
   obtain ⟨k,hk⟩:=hT off _ h1
   exact h2 _ k (Jz (by rw [hcl 0 hp];exact h0)) hk
 have hmem:∀b off,a=⟨b,off,none⟩→∀i,i < len→∀j,j < sz→qP W b (off+i * sz+j)=(f i).2[j]?:=by
  intro b off ha i hi j hj
  have:=hcell i hi j hj
  obtain ⟨b',off',ha',hb⟩:=hnone (by omega)
  rw [ha] at this
  have hb0:b≠0:=by
   rw [ha] at ha'
   injection ha' with e1 e2 e3
   rw [e1]
   exact hb
  unfold qP
  rw [if_neg hb0,←this]
  have e:(⟨b,off,none⟩:Addr).add (i * sz+j)=⟨b,off+(i * sz+j),none⟩:=by
   unfold Addr.add
   by_cases h:i * sz+j=0
   ·rw [if_pos h,h,Nat.add_zero]
   ·rw [if_neg h]
  rw [e,Nat.add_assoc]
 have hgo:=VR.imm (σ:=qP W) sz (((List.range len).map fun i=>(f i).1).map c) (some a) cap (by rw [hll];exact hlc) hm (fun e he=>by
   obtain ⟨y,_,rfl⟩:=List.mem_map.1 he
   exact hc y) (fun hne=>by
   have:0 < len:=by
    rcases Nat.eq_zero_or_pos len with h | h
    ·subst h;exact absurd rfl hne
    ·exact h
   obtain ⟨b,off,rfl,_⟩:=hnone this
   exact ⟨b,off,rfl⟩) (fun i b off j hA hi hj=>by
   rw [hll] at hi
   injection hA with hA
   have h1:=hmem b off hA i hi j hj
   have h2:j < (f i).2.length:=by rw [hcl i hi];exact hj
   rw [Jz h2] at h1
   exact ⟨_,h1,(hf i hi).2.2.1 _ (List.getElem_mem h2)⟩) (fun i e b off j c' u hi hA hj hu=>by
   injection hA with hA
   have hil:i < len:=by have:=(Jp hi).1;simpa using this
   rw [List.getElem?_map,List.getElem?_map,List.getElem?_range hil] at hi
   simp only [Option.map_some,Option.some.injEq] at hi
   subst hi
   have hjs:j < sz:=by rw [←hc (f i).1];exact (Jp hj).1
   rw [hmem b off hA i hil j hjs] at hu
   exact (hf i hil).2.1.2 j c' u hj hu)
 rw [hll] at hgo
 exact hgo
theorem Aj (h:W.heap[0]?=some (.cells (kq.map (Value.int .u8)).toArray 364 (0,0))):∀off u,W.cell? ⟨0,off,none⟩=some u→∃k,u= .int .u8 k:=fun off u hu=>by
 rw [cV h,List.getElem?_toArray,List.getElem?_map] at hu
 cases hk:kq[off]? with
 | none=>rw [hk] at hu;cases hu
 | some k=>rw [hk] at hu;exact ⟨k,(Option.some.inj hu).symm⟩
set_option maxRecDepth 100000 in
theorem mw (hT:W.heap[0]?=some (.cells (kq.map (Value.int .u8)).toArray 364 (0,0))) {base:Nat} {v:Value} {d:DataW H} {p:List MemPlace} (hok:Value.okWide Tryz.prog W .any base 22 v) (h:DataW.Trod enc Tryz.prog W 0 (fun _=>true) true 22 v d p):∃l,VR (qP W) (.imm 1 (aX l)) v:=by
 obtain ⟨a0,len,cap,rfl⟩:=okWide_slice Tryz.underlying22 hok
 obtain ⟨fuel,hf⟩:=h
 obtain ⟨l,h1,_⟩:=x4 (enc:=enc) (Aj hT) Tryz.underlying22 (by kernel_rfl) Nat.one_pos (CJ Tryz.underlying3) (fun _=>rfl) fuel [.slice a0 len cap] _ (by simpa [Value.cells] using hf)
 exact ⟨l,h1.2 0 _ _ rfl rfl⟩
end
end Go.Proofs.YtpmdfoaadejmkaaGreatDoor
