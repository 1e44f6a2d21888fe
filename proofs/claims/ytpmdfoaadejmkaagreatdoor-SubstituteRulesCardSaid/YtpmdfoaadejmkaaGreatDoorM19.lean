/-
  What an engine's rules do with a run: all but chains.
-/
import Derived.Test.YtpmdfoaadejmkaaGreatDoorM18
import Derived.Test.YtpmdfoaadejmkaaGreatDoorM14
import Derived.Test.YtpmdfoaadejmkaaGreatDoorM15
namespace Go.Proofs.YtpmdfoaadejmkaaGreatDoor
open Go.RowKit
attribute [local irreducible] AT bJ AX AO Av Kt bi dq DA cG
section
variable {P:Program} {tt:TT} {l:List Oper} {fr:cf} {fin:iH} {sk:lp} {acc:cf} {L:AL} {k:Nat} {dd:Option Tmp} {ty t t':TypeId} {pos:String} {af:Array Edge} {g:Option (Nat×Bool)} {x y:Operand} {u:AV}
theorem Cu {q:IntKind} {a b:Int} (hx:br (cE l.toArray acc fr af.toList) x=some (.sc (.int q a))) (hy:br (cE l.toArray acc fr af.toList) y=some (.sc (.int q b))) (hg:iO ⟨dd,.binOp .add t x y t',ty,pos,af,g⟩ acc) (h:DA P l fr fin sk ((k,.sc (.int q (q.wrap (a+b))))::acc) L):cG P l fr fin k .v ⟨dd,.binOp .add t x y t',ty,pos,af,g⟩ sk acc L:=ff hg (z2 (Gr hx hy)) h
end
structure lw (run:List aJ) (ps:List Nat):Prop where
  some_:ps≠[]
  lt:∀j∈ps,j < run.length
  inc:ps.Pairwise (· < ·)
structure ip (r:bh):Prop where
 some_:r.In≠[]
 out:r.Out.length≤1000000
 calls:r.Calls.length≤1000000
 at_:∀c∈r.Calls,0≤c.At∧c.At≤1000000
abbrev kH (wb:Nat) (e:pY) (r:bh) (ps:List Nat) (deep:Nat):List AV:=[dA wb,.iptr (fM e),.iptr (bC (fj r)),.imm 1 (bQ ps),aF deep]
def gU (wb:Nat) (E:pZ) (run':List aJ):AV→AL→Prop:=fun _ L=>∃q',cu q' run'∧L=jQ wb E q' run'
section
variable {E:pZ} {wb:Nat} {m:dD} {run:List aJ} (hq:cu (some m) run) (hr:run.length≤1000000) {e:pY} {r:bh} (hro:ip r) {ps:List Nat} (hps:lw run ps) (deep:Nat)
include hq hr hro hps
set_option maxHeartbeats 4000000 in
theorem Kb (hk:e.l.Kind=2):AC Tryz.prog 103 (kH wb e r ps deep) (jQ wb E (some m) run) (gU wb E (dE e.l r ps run)):=by
 obtain ⟨⟨kd,ig,rs⟩,cls,fo,ba,fe,be⟩:=e
 dsimp only at hk
 subst hk
 obtain ⟨p,q,rfl⟩:=List.exists_cons_of_ne_nil hps.some_
 have hpl:=hps.lt p (by simp)
 obtain ⟨x,hx⟩:∃x,run[p]?=some x:=⟨_,Kz hpl⟩
 have hp0:(bQ (p::q))[(0:Int).toNat]?=some [aF p]:=rfl
 have hm:=Du E wb m run hq hr p x hx r hro.out
 refine aN Tryz.func103 rfl Tryz.ntmps103 rfl fun B=>?_
 repeat' (first|refine L3 ?_|refine ak ?_|refine KG a4 HY ?_|(apply aQ;first|refine aO a4 ?_|refine aG a4 ?_)|refine bH rfl ?_|refine bE rfl ?_)
 refine b6 (jQ wb E (some m) run) [] hm rfl rfl (by rw [List.append_nil]) rfl fun c L1 ⟨q',h1,h2⟩=>?_
 subst h2
 repeat' (first|refine L3 ?_|fail)
 exact ca rfl ⟨q',h1,by rw [List.append_nil];rfl⟩
set_option maxHeartbeats 4000000 in
theorem Ka (hk:e.l.Kind=1):AC Tryz.prog 103 (kH wb e r ps deep) (jQ wb E (some m) run) (gU wb E (dE e.l r ps run)):=by
 have _:=hr
 obtain ⟨⟨kd,ig,rs⟩,cls,fo,ba,fe,be⟩:=e
 dsimp only at hk
 subst hk
 obtain ⟨p,q,rfl⟩:=List.exists_cons_of_ne_nil hps.some_
 have hpl:=hps.lt p (by simp)
 obtain ⟨x,hx⟩:∃x,run[p]?=some x:=⟨_,Kz hpl⟩
 have hp0:(bQ (p::q))[(0:Int).toNat]?=some [aF p]:=rfl
 obtain ⟨i0,is,hin⟩:=List.exists_cons_of_ne_nil hro.some_
 have hin0:(bc (fj r).In)[(0:Int).toNat]?=some [.imm 1 (aW i0)]:=by
  show (bc r.In)[0]?=_
  rw [hin]
  rfl
 have hsv:dE ⟨1,ig,rs⟩ r (p::q) run=dI r p run:=rfl
 rw [hsv]
 have hsg:dI r p run=match r.Out[i0.idxOf x.Glyph]? with
   | none=>run
   | some g=>if i0.idxOf x.Glyph < i0.length then run.set p { x with Glyph:=g } else run:=by
  unfold dI
  rw [hx,hin]
  rfl
 have hol:=bb r.Out
 have h0:=ic (j:=0) m.junk hx rfl
 obtain ⟨g1,g2,g3⟩:=hq.fit m rfl
 have hfl:=co run
 refine aN Tryz.func103 rfl Tryz.ntmps103 rfl fun B=>?_
 repeat' (first|refine L3 ?_|refine ak ?_|refine KG a4 HY ?_|(apply aQ;first|refine aO a4 ?_|refine aG a4 ?_)|refine bH rfl ?_)
 refine bn 15 [(0,.v),(1,.v),(2,.v),(3,.v),(4,.v),(5,.v),(6,.v),(7,.v),(8,.v),(9,.l),(10,.v),(11,.v),(12,.v),(13,.l),(14,.v)] none ?_ trivial rfl (by kernel_rfl) (by kernel_rfl) (by kernel_rfl) bI (by kernel_rfl) rfl
 repeat' (first|refine aB ?_|refine aX a4 ?_|(apply cm;refine cA a4 ?_)|refine KY a4 0 KB (by first|trivial|rfl) ?_)
 refine cR a4 rfl rfl rfl ⟨by omega,by omega⟩ trivial ?_
 repeat' (first|refine aB ?_|refine aX a4 ?_|fail)
 refine bN a4 1 rfl rfl rfl h0 trivial ?_
 repeat' (first|refine aB ?_|(apply dh;refine dK ?_)|fail)
 refine KU [0,2,10,37] HY ?_
 repeat' (first|refine L3 ?_|refine a7 ?_|refine KG a4 HY ?_)
 have hst:(fj r).Out=r.Out:=rfl
 generalize hn:(if x.Glyph∈i0 then ((i0.idxOf x.Glyph:Nat):Int) else -1)=n
 refine ce [0,2,10,11] (0≤n∧n < r.Out.length) rfl (fun Q' K=>?_) (fun hC=>?_) (fun hC=>?_)
 ·repeat' (first|refine L3 ?_|refine KG a4 HY ?_|refine KR HY ?_|refine KV KB ?_|refine KW KA (fun _=>?_) (fun _=>?_))
  all_goals exact K _ _ rfl rfl (by rw [hst,hol] at *;simp_all <;> omega)
 ·have hm:x.Glyph∈i0:=Classical.byContradiction fun hm=>by rw [if_neg hm] at hn;omega
  rw [if_pos hm] at hn
  subst hn
  have hlt:i0.idxOf x.Glyph < r.Out.length:=by omega
  obtain ⟨g,hg⟩:∃g,r.Out[i0.idxOf x.Glyph]?=some g:=⟨_,Kz hlt⟩
  have hgg:(aW (fj r).Out)[((i0.idxOf x.Glyph:Nat):Int).toNat]?=some [aF g]:=by rw [Int.toNat_natCast];exact bP hg
  rw [hg] at hsg
  dsimp only at hsg
  rw [if_pos (List.idxOf_lt_length_of_mem hm)] at hsg
  rw [hsg]
  have hst:=fQ (j:=0) { x with Glyph:=g } (aF g) m.junk hx (by omega) rfl
  repeat' (first|fail)
  refine bn 12 [(0,.v),(1,.v),(2,.v),(3,.l),(4,.v),(5,.v),(6,.v),(7,.v),(8,.v),(9,.v),(10,.v),(11,.v)] none ?_ trivial rfl (by kernel_rfl) (by kernel_rfl) (by kernel_rfl) bI (by kernel_rfl) rfl
  repeat' (first|refine aB ?_|refine aX a4 ?_|(apply cm;refine cA a4 ?_)|refine KY a4 0 KB (by first|trivial|rfl) ?_)
  refine KU [52,53,60] HY ?_
  repeat' (first|refine KG a4 HY ?_|(apply aQ;first|refine aO a4 ?_|refine aG a4 ?_)|fail)
  refine KZ a4 1 KD (Nat.ble_eq_true_of_le (by rw [Int.toNat_natCast];simp;omega)) ?_
  rw [hst]
  repeat' (first|refine L3 ?_|fail)
  exact ca rfl ⟨some m,hq.set p _,qm⟩
 ·have hsg2:dI r p run=run:=by
   rw [hsg]
   split
   ·rfl
   ·rename_i g hg
    rw [if_neg]
    intro h
    rw [if_pos (List.idxOf_lt_length_iff.1 h)] at hn
    have:=(Ko hg).1
    omega
  rw [hsg2]
  repeat' (first|refine L3 ?_|fail)
  exact ca rfl ⟨some m,hq,rfl⟩
set_option maxHeartbeats 4000000 in
theorem Kd (hk:e.l.Kind=5):AC Tryz.prog 103 (kH wb e r ps deep) (jQ wb E (some m) run) (gU wb E (dE e.l r ps run)):=by
 have _:=hr
 obtain ⟨⟨kd,ig,rs⟩,cls,fo,ba,fe,be⟩:=e
 dsimp only at hk
 subst hk
 obtain ⟨p,q,rfl⟩:=List.exists_cons_of_ne_nil hps.some_
 have hpl:=hps.lt p (by simp)
 obtain ⟨x,hx⟩:∃x,run[p]?=some x:=⟨_,Kz hpl⟩
 have hp0:(bQ (p::q))[(0:Int).toNat]?=some [aF p]:=rfl
 obtain ⟨i0,is,hin⟩:=List.exists_cons_of_ne_nil hro.some_
 have hin0:(bc (fj r).In)[(0:Int).toNat]?=some [.imm 1 (aW i0)]:=by
  show (bc r.In)[0]?=_
  rw [hin]
  rfl
 have hsv:dE ⟨5,ig,rs⟩ r (p::q) run=dI r p run:=rfl
 rw [hsv]
 have hsg:dI r p run=match r.Out[i0.idxOf x.Glyph]? with
   | none=>run
   | some g=>if i0.idxOf x.Glyph < i0.length then run.set p { x with Glyph:=g } else run:=by
  unfold dI
  rw [hx,hin]
  rfl
 have hol:=bb r.Out
 have h0:=ic (j:=0) m.junk hx rfl
 obtain ⟨g1,g2,g3⟩:=hq.fit m rfl
 have hfl:=co run
 refine aN Tryz.func103 rfl Tryz.ntmps103 rfl fun B=>?_
 repeat' (first|refine L3 ?_|refine ak ?_|refine KG a4 HY ?_|(apply aQ;first|refine aO a4 ?_|refine aG a4 ?_)|refine bH rfl ?_|refine bE rfl ?_)
 refine bn 15 [(0,.v),(1,.v),(2,.v),(3,.v),(4,.v),(5,.v),(6,.v),(7,.v),(8,.v),(9,.l),(10,.v),(11,.v),(12,.v),(13,.l),(14,.v)] none ?_ trivial rfl (by kernel_rfl) (by kernel_rfl) (by kernel_rfl) bI (by kernel_rfl) rfl
 repeat' (first|refine aB ?_|refine aX a4 ?_|(apply cm;refine cA a4 ?_)|refine KY a4 0 KB (by first|trivial|rfl) ?_)
 refine cR a4 rfl rfl rfl ⟨by omega,by omega⟩ trivial ?_
 repeat' (first|refine aB ?_|refine aX a4 ?_|fail)
 refine bN a4 1 rfl rfl rfl h0 trivial ?_
 repeat' (first|refine aB ?_|(apply dh;refine dK ?_)|fail)
 refine KU [0,2,10,37] HY ?_
 repeat' (first|refine L3 ?_|refine a7 ?_|refine KG a4 HY ?_)
 have hst:(fj r).Out=r.Out:=rfl
 generalize hn:(if x.Glyph∈i0 then ((i0.idxOf x.Glyph:Nat):Int) else -1)=n
 refine ce [0,2,10,11] (0≤n∧n < r.Out.length) rfl (fun Q' K=>?_) (fun hC=>?_) (fun hC=>?_)
 ·repeat' (first|refine L3 ?_|refine KG a4 HY ?_|refine KR HY ?_|refine KV KB ?_|refine KW KA (fun _=>?_) (fun _=>?_))
  all_goals exact K _ _ rfl rfl (by rw [hst,hol] at *;simp_all <;> omega)
 ·have hm:x.Glyph∈i0:=Classical.byContradiction fun hm=>by rw [if_neg hm] at hn;omega
  rw [if_pos hm] at hn
  subst hn
  have hlt:i0.idxOf x.Glyph < r.Out.length:=by omega
  obtain ⟨g,hg⟩:∃g,r.Out[i0.idxOf x.Glyph]?=some g:=⟨_,Kz hlt⟩
  have hgg:(aW (fj r).Out)[((i0.idxOf x.Glyph:Nat):Int).toNat]?=some [aF g]:=by rw [Int.toNat_natCast];exact bP hg
  rw [hg] at hsg
  dsimp only at hsg
  rw [if_pos (List.idxOf_lt_length_of_mem hm)] at hsg
  rw [hsg]
  have hst:=fQ (j:=0) { x with Glyph:=g } (aF g) m.junk hx (by omega) rfl
  repeat' (first|fail)
  refine bn 12 [(0,.v),(1,.v),(2,.v),(3,.l),(4,.v),(5,.v),(6,.v),(7,.v),(8,.v),(9,.v),(10,.v),(11,.v)] none ?_ trivial rfl (by kernel_rfl) (by kernel_rfl) (by kernel_rfl) bI (by kernel_rfl) rfl
  repeat' (first|refine aB ?_|refine aX a4 ?_|(apply cm;refine cA a4 ?_)|refine KY a4 0 KB (by first|trivial|rfl) ?_)
  refine KU [52,53,60] HY ?_
  repeat' (first|refine KG a4 HY ?_|(apply aQ;first|refine aO a4 ?_|refine aG a4 ?_)|fail)
  refine KZ a4 1 KD (Nat.ble_eq_true_of_le (by rw [Int.toNat_natCast];simp;omega)) ?_
  rw [hst]
  repeat' (first|refine L3 ?_|fail)
  exact ca rfl ⟨some m,hq.set p _,qm⟩
 ·have hsg2:dI r p run=run:=by
   rw [hsg]
   split
   ·rfl
   ·rename_i g hg
    rw [if_neg]
    intro h
    rw [if_pos (List.idxOf_lt_length_iff.1 h)] at hn
    have:=(Ko hg).1
    omega
  rw [hsg2]
  repeat' (first|refine L3 ?_|fail)
  exact ca rfl ⟨some m,hq,rfl⟩
set_option maxHeartbeats 4000000 in
theorem Kc (hk:e.l.Kind=3):AC Tryz.prog 103 (kH wb e r ps deep) (jQ wb E (some m) run) (gU wb E (dE e.l r ps run)):=by
 have _:=hro
 obtain ⟨⟨kd,ig,rs⟩,cls,fo,ba,fe,be⟩:=e
 dsimp only at hk
 subst hk
 obtain ⟨p,q,rfl⟩:=List.exists_cons_of_ne_nil hps.some_
 have hpl:=hps.lt p (by simp)
 obtain ⟨x,hx⟩:∃x,run[p]?=some x:=⟨_,Kz hpl⟩
 have hp0:(bQ (p::q))[(0:Int).toNat]?=some [aF p]:=rfl
 have hol:=bb (fj r).Out
 have hst:(fj r).Out=r.Out:=rfl
 rw [hst] at hol
 refine aN Tryz.func103 rfl Tryz.ntmps103 rfl fun B=>?_
 repeat' (first|refine L3 ?_|refine ak ?_|refine KG a4 HY ?_|(apply aQ;first|refine aO a4 ?_|refine aG a4 ?_)|refine bH rfl ?_|refine bE rfl ?_)
 refine aw rfl (fun h=>?_) (fun h=>?_)
 ·have hne:r.Out≠[]:=fun e=>by rw [hst,e] at h;cases h
  obtain ⟨g,gs,hg⟩:=List.exists_cons_of_ne_nil hne
  have hj:=FA E wb m run hq hr p q hps.lt hps.inc x hx r g gs hg
  have hg0:(aW (fj r).Out)[(0:Int).toNat]?=some [aF g]:=by rw [hst,hg];rfl
  clear h
  repeat' (first|refine L3 ?_|refine KG a4 HY ?_|(apply aQ;first|refine aO a4 ?_|refine aG a4 ?_)|fail)
  refine b6 (jQ wb E (some m) run) [] hj rfl rfl (by rw [List.append_nil]) rfl fun c L1 ⟨q',h1,h2⟩=>?_
  subst h2
  repeat' (first|refine L3 ?_|fail)
  exact ca rfl ⟨q',h1,by rw [List.append_nil];rfl⟩
 ·have hz:r.Out=[]:=List.eq_nil_of_length_eq_zero (by have:=Kx h;rw [hst] at this;omega)
  have hsv:dE ⟨3,ig,rs⟩ r (p::q) run=run:=by
   show j5 r (p::q) run=run
   unfold j5
   rw [hz]
  rw [hsv]
  repeat' (first|refine L3 ?_|fail)
  exact ca rfl ⟨some m,hq,rfl⟩
set_option maxHeartbeats 4000000 in
theorem Ke (hk:e.l.Kind=6):AC Tryz.prog 103 (kH wb e r ps deep) (jQ wb E (some m) run) (gU wb E (dE e.l r ps run)):=by
 have _:=hr
 have _:=hro
 obtain ⟨⟨kd,ig,rs⟩,cls,fo,ba,fe,be⟩:=e
 dsimp only at hk
 subst hk
 obtain ⟨p,q,rfl⟩:=List.exists_cons_of_ne_nil hps.some_
 have hpl:=hps.lt p (by simp)
 obtain ⟨x,hx⟩:∃x,run[p]?=some x:=⟨_,Kz hpl⟩
 have hp0:(bQ (p::q))[(0:Int).toNat]?=some [aF p]:=rfl
 have hsv:dE ⟨6,ig,rs⟩ r (p::q) run=run.set p { x with Advance:=IntKind.i64.wrap (x.Advance+r.X) }:=by
  show nX r p run=_
  unfold nX
  rw [hx]
 rw [hsv]
 have h3:=ic (j:=3) m.junk hx rfl
 have hst:=fQ (j:=3) { x with Advance:=IntKind.i64.wrap (x.Advance+r.X) } (aF (IntKind.i64.wrap (x.Advance+r.X))) m.junk hx (by omega) rfl
 obtain ⟨g1,g2,g3⟩:=hq.fit m rfl
 have hfl:=co run
 refine aN Tryz.func103 rfl Tryz.ntmps103 rfl fun B=>?_
 repeat' (first|refine L3 ?_|refine ak ?_|refine KG a4 HY ?_|(apply aQ;first|refine aO a4 ?_|refine aG a4 ?_)|refine bH rfl ?_|refine bE rfl ?_)
 refine bn 13 [(0,.v),(1,.v),(2,.v),(3,.l),(4,.v),(5,.v),(6,.v),(7,.l),(8,.v),(9,.v),(10,.v),(11,.v),(12,.v)] none ?_ trivial rfl (by kernel_rfl) (by kernel_rfl) (by kernel_rfl) bI (by kernel_rfl) rfl
 repeat' (first|refine aB ?_|refine aX a4 ?_|refine KY a4 0 KB (by first|trivial|rfl) ?_)
 refine cR a4 rfl rfl rfl ⟨by omega,by omega⟩ trivial ?_
 repeat' (first|refine aB ?_|refine aX a4 ?_|fail)
 refine bN a4 1 rfl rfl rfl h3 trivial ?_
 repeat' (first|refine aB ?_|refine aX a4 ?_|fail)
 refine Cu rfl rfl trivial ?_
 repeat' (first|fail)
 refine KU [107,108,116] HY ?_
 repeat' (first|refine KG a4 HY ?_|(apply aQ;first|refine aO a4 ?_|refine aG a4 ?_)|fail)
 refine KZ a4 1 KD (Nat.ble_eq_true_of_le (by rw [Int.toNat_natCast];simp;omega)) ?_
 have hsx:(fj r).X=r.X:=rfl
 rw [hsx,hst]
 repeat' (first|refine L3 ?_|fail)
 exact ca rfl ⟨some m,hq.set p _,qm⟩
end
end Go.Proofs.YtpmdfoaadejmkaaGreatDoor
namespace Go.Proofs.YtpmdfoaadejmkaaGreatDoor
open Go.RowKit
attribute [local irreducible] AT bJ AX AO Av Kt bi dq DA cG
structure mD (E:pZ):Prop where
 auto:∀e∈E.lks,1≤e.l.Kind→e.l.Kind≤6→lu e
 rule:∀e∈E.lks,∀r∈e.l.Rules,r.In≠[]→ip r
abbrev pZ.ls (E:pZ):List aL:=E.lks.map (·.l)
theorem AM {ms:List Bool} {ig:Bool} {run:List aJ} {i:Nat} (hi:i < run.length) {n:Int} (h0:0≤n):mC ms ig run i n=if jK ms ig run i=true then (if n=0 then some i else mC ms ig run (i+1) (n - 1)) else mC ms ig run (i+1) n:=by
 unfold mC
 rw [if_pos h0,n3 hi]
 split
 ·split
  ·rename_i hn
   subst hn
   rfl
  ·rw [if_pos (by omega),show n.toNat=(n - 1).toNat+1 by omega,List.getElem?_cons_succ]
 ·rfl
theorem DJ {ms:List Bool} {ig:Bool} {run:List aJ} {i:Nat} (hi:run.length≤i) (n:Int):mC ms ig run i n=none:=by
 unfold mC
 rw [t2 hi]
 split <;> simp
theorem FL {ms:List Bool} {ig:Bool} {run:List aJ} {i:Nat} {n:Int} {j:Nat} (h:mC ms ig run i n=some j):j < run.length:=by
 unfold mC at h
 split at h
 ·exact (rc j (Kw h)).2.1
 ·cases h
theorem Ai {ms:List Bool} {ig:Bool} {run:List aJ} {i:Nat}:(dk ms ig run i).Pairwise (· < ·):=by
  unfold dk
  exact List.Pairwise.filter _ (List.pairwise_lt_range' ..)
theorem AW {ms:List Bool} {l:aL} {run:List aJ} {i:Nat} {forms:List Int} {r:bh} (h:ek ms l run i forms=some r):lw run (d8 ms l run i r)∧r∈l.Rules∧r.In≠[]∧i < run.length∧(d8 ms l run i r).head?=some i:=by
 unfold ek at h
 split at h
 ·rename_i hb
  have hm:=List.mem_of_find?_eq_some h
  obtain ⟨h1,h2⟩:=lZ (List.find?_some h)
  unfold iq at hb
  split at hb
  ·rename_i x hx
   have hil:=(Ko hx).1
   rw [Bool.and_eq_true] at hb
   have hs:jK ms l.Ignore run i=true:=by rw [mz hx];exact hb.1
   have hf:dk ms l.Ignore run i=i::dk ms l.Ignore run (i+1):=by rw [n3 hil,if_pos hs]
   obtain ⟨n,hn⟩:∃n,r.In.length=n+1:=⟨r.In.length - 1,by omega⟩
   have hp:d8 ms l run i r=i::(dk ms l.Ignore run (i+1)).take n:=by unfold d8;rw [hf,hn,List.take_succ_cons]
   refine ⟨⟨by rw [hp];simp,fun j hj=>(rc j (List.mem_of_mem_take hj)).2.1,?_⟩,hm,fun e=>by rw [e] at h1;simp at h1,hil,by rw [hp];rfl⟩
   exact Ai.sublist (List.take_sublist ..)
  ·cases hb
 ·cases h
def gC (a b:Nat):Prop:=b≤max a 500
theorem tA {l:aL} {r:bh} {ps:List Nat} {run:List aJ}:gC run.length (dE l r ps run).length:=by
 unfold dE gC
 split
 ·unfold dI;split <;> (try split) <;> (try split) <;> (try rw [List.length_set]) <;> omega
 split
 ·unfold fC
  split
  ·omega
  ·split
   ·omega
   ·rename_i x hx hh
    have:=(Ko hx).1
    simp only [List.length_append,List.length_take,List.length_drop,Ku]
    omega
 split
 ·unfold j5
  split
  ·split
   ·refine Nat.le_trans iQ.length_le ?_
    rw [List.length_set];omega
   ·omega
  ·omega
 split
 ·unfold nX;split <;> (try rw [List.length_set]) <;> omega
 ·omega
theorem gC.trans {a b c:Nat} (h:gC a b) (k:gC b c):gC a c:=by unfold gC at *;omega
theorem sQ {ms:List Bool} {ls:List aL} {d:J6} (hd:∀l r ps run,gC run.length (d l r ps run).length) {n:Int} {i:Nat} {run:List aJ}:gC run.length (iA ms ls d n i run).length:=by
 unfold iA
 split
 ·unfold gC;omega
 ·split
  ·unfold gC;omega
  ·split
   ·unfold gC;omega
   ·split
    ·unfold gC;omega
    ·exact hd ..
theorem iK {ms:List Bool} {ls:List aL}:∀(k:Nat) (l:aL) (r:bh) (ps:List Nat) (run:List aJ),gC run.length (fq ms ls k l r ps run).length
 | 0,_,_,_,_=>tA
 | k+1,l,r,ps,run=>by
  unfold fq
  split
  ·have key:∀(cs:List gK) (run:List aJ),gC run.length (cs.foldl (dX ms ls (fq ms ls k) l.Ignore (ps.headD 0)) run).length:=by
    intro cs
    induction cs with
    | nil=>intro run;unfold gC;simp;omega
    | cons c cs ih=>
     intro run
     rw [List.foldl_cons]
     refine gC.trans ?_ (ih _)
     unfold dX
     split
     ·unfold gC;omega
     ·exact sQ (iK k)
   exact key _ _
  ·exact tA
theorem gC.big {a b:Nat} (h:gC a b) (ha:a≤1000000):b≤1000000:=by unfold gC at h;omega
section
variable {E:pZ} (hE:mD E) (wb:Nat)
def I3 (E:pZ) (wb deep k:Nat):Prop:=∀(e:pY) (r:bh) (ps:List Nat) (q:Option dD) (run:List aJ),e∈E.lks→1≤e.l.Kind→e.l.Kind≤6→ip r→lw run ps→cu q run→run.length≤1000000→
 AC Tryz.prog 103 (kH wb e r ps deep) (jQ wb E q run) (gU wb E (fq E.ms E.ls k e.l r ps run))
def wB (E:pZ) (wb deep k:Nat):Prop:=∀(n:Int) (i:Nat) (q:Option dD) (run:List aJ),i < run.length→cu q run→run.length≤1000000→
 AC Tryz.prog 261 [dA wb,aF n,aF i,aF deep] (jQ wb E q run) (gU wb E (iA E.ms E.ls (fq E.ms E.ls k) n i run))
theorem sP (E:pZ):(E.lks.map fM).length=E.lks.length:=by simp
include hE in
set_option maxHeartbeats 4000000 in
theorem EV {deep k:Nat} (hd:deep≤4) (hdo:I3 E wb deep k):wB E wb deep k:=by
 intro n i q run hi hq hr
 refine aN Tryz.func261 rfl Tryz.ntmps261 rfl fun B=>?_
 have hll:=sP E
 repeat' (first|refine L3 ?_|refine KG a4 HY ?_)
 refine ce [0,1,2,3] (n < 0∨(E.lks.length:Int)≤n) rfl (fun Q' K=>?_) (fun hC=>?_) (fun hC=>?_)
 ·repeat' (first|refine L3 ?_|refine KG a4 HY ?_|refine KR HY ?_|refine KV KB ?_|(apply bo;first|refine KM a4 0 KC ?_|refine KM a4 1 KC ?_|refine KM a4 2 KC ?_|refine KM a4 3 KC ?_|refine KN a4 0 KC ?_|refine KN a4 1 KC ?_|refine KN a4 2 KC ?_|refine KO a4 1 KA (by assumption) rfl ?_|refine KO a4 0 KA (by assumption) rfl ?_|fail)|refine KW KA (fun _=>?_) (fun _=>?_))
  all_goals exact K _ _ rfl rfl (by simp_all <;> omega)
 ·have hv:iA E.ms E.ls (fq E.ms E.ls k) n i run=run:=by
   unfold iA
   by_cases h0:n < 0
   ·rw [if_pos h0]
   ·rw [if_neg h0,List.getElem?_eq_none (by rw [Ku];omega)]
  rw [hv]
  repeat' (first|refine L3 ?_|fail)
  exact jt rfl ⟨q,hq,rfl⟩
 obtain ⟨e,he⟩:∃e,E.lks[n.toNat]?=some e:=⟨_,Kz (by omega)⟩
 have heg:(E.lks.map fM)[n.toNat]?=some (fM e):=by simp [he]
 have hem:=Kw he
 have hcv:iA E.ms E.ls (fq E.ms E.ls k) n i run=if e.l.Kind < 1∨4 < e.l.Kind then run else match ek E.ms e.l run i [] with
   | none=>run
   | some r=>fq E.ms E.ls k e.l r (d8 E.ms e.l run i r) run:=by
  unfold iA
  rw [if_neg (by omega),List.getElem?_map,he]
  rfl
 repeat' (first|refine L3 ?_|refine KG a4 HY ?_|(apply bo;first|refine KM a4 0 KC ?_|refine KM a4 1 KC ?_|refine KM a4 2 KC ?_|refine KM a4 3 KC ?_|refine KN a4 0 KC ?_|refine KN a4 1 KC ?_|refine KN a4 2 KC ?_|refine KO a4 1 KA (by assumption) rfl ?_|refine KO a4 0 KA (by assumption) rfl ?_|fail)|(apply aQ;first|refine aO a4 ?_|refine aG a4 ?_)|fail)
 refine ce [0,2,3,8] (e.l.Kind < 1∨4 < e.l.Kind) rfl (fun Q' K=>?_) (fun hC2=>?_) (fun hC2=>?_)
 ·repeat' (first|refine L3 ?_|refine KG a4 HY ?_|refine KR HY ?_|refine KV KB ?_|refine KW KA (fun _=>?_) (fun _=>?_))
  all_goals exact K _ _ rfl rfl (by simp_all <;> omega)
 ·rw [if_pos hC2] at hcv
  rw [hcv]
  repeat' (first|refine L3 ?_|fail)
  exact jt rfl ⟨q,hq,rfl⟩
 rw [if_neg hC2] at hcv
 rw [hcv]
 have hau:=hE.auto e hem (by omega) (by omega)
 have hma:=AC.args (a:=[dA wb,.iptr (fM e),aF i,.sc (.slice none 0 0)]) (rt E e hau wb q run hq hr i (by omega) []) ⟨da.refl _,da.refl _,da.refl _,da.nil 1,trivial⟩
 repeat' (first|refine L3 ?_|refine KG a4 HY ?_)
 refine b6 (jQ wb E q run) [] hma rfl rfl (by rw [List.append_nil]) rfl fun c L1 ⟨hc,hL⟩=>?_
 subst hc;subst hL
 unfold lS
 cases hmv:ek E.ms e.l run i [] with
 | none=>
  dsimp only
  repeat' (first|refine L3 ?_|refine KG a4 HY ?_)
  refine ug Tryz.underlying190 rfl rfl rfl rfl ?_
  repeat' (first|refine L3 ?_|refine bE rfl ?_)
  exact ca rfl ⟨q,hq,by rw [List.append_nil]⟩
 | some r=>
  dsimp only
  obtain ⟨hps,hrm,hin,_,_⟩:=AW hmv
  have hdc:=hdo e r (d8 E.ms e.l run i r) q run hem (by omega) (by omega) (hE.rule e hem r hrm hin) hps hq hr
  repeat' (first|refine L3 ?_|refine KG a4 HY ?_)
  refine ug Tryz.underlying190 rfl rfl rfl rfl ?_
  repeat' (first|refine L3 ?_|refine KG a4 HY ?_|refine bH rfl ?_)
  refine b6 (jQ wb E q run) [] hdc rfl rfl (by rw [List.append_nil]) rfl fun c L1 ⟨q',h1,h2⟩=>?_
  subst h2
  repeat' (first|refine L3 ?_|fail)
  exact ca rfl ⟨q',h1,by rw [List.append_nil]⟩
set_option maxHeartbeats 4000000 in
theorem Co {deep k:Nat} (hd:deep < 4) (hca:wB E wb (deep+1) k) (e:pY) (cs:List gK) (hcs:cs.length≤1000000) (hca0:∀c∈cs,0≤c.At∧c.At≤1000000) (p:Nat) (hp:p≤1000000) (q:Option dD) (run:List aJ) (hq:cu q run) (hr:run.length≤1000000):
  AC Tryz.prog 193 [dA wb,.iptr (fM e),.imm 2 (cs.map eK),aF p,aF deep] (jQ wb E q run) (gU wb E (cs.foldl (dX E.ms E.ls (fq E.ms E.ls k) e.l.Ignore p) run)):=by
 refine aN Tryz.func193 rfl Tryz.ntmps193 rfl fun B=>?_
 have hcl:(cs.map eK).length=cs.length:=by simp
 repeat' (first|fail)
 refine C9 ?_
 repeat' (first|refine L3 ?_|refine ak ?_|refine C7 ?_|refine KG a4 HY ?_)
 refine aR [0,1,3,4,14,15] (α:=Nat×Option dD×List aJ) (fun s=>[(16,aF s.1)]) (fun s=>s.1≤cs.length∧cu s.2.1 s.2.2∧s.2.2.length≤1000000∧(cs.drop s.1).foldl (dX E.ms E.ls (fq E.ms E.ls k) e.l.Ignore p) s.2.2=cs.foldl (dX E.ms E.ls (fq E.ms E.ls k) e.l.Ignore p) run) (fun s=>jQ wb E s.2.1 s.2.2) (fun s=>cs.length - s.1) (0,q,run) rfl ⟨rfl,trivial⟩ ⟨Nat.zero_le _,hq,hr,rfl⟩ (fun _ _ h=>h) ?_
 rintro ⟨n,q1,run1⟩ ⟨hn,hq1,hr1,hf⟩
 dsimp only at hn hq1 hr1 hf ⊢
 try dsimp only [Kr,Kq,Kp,Lv]
 repeat' (first|refine L3 ?_|refine KG a4 HY ?_)
 refine aw rfl (fun h=>?_) (fun h=>?_)
 ·have hn2:n < cs.length:=by have:=Ky h;omega
  obtain ⟨c,hc⟩:∃c,cs[n]?=some c:=⟨_,Kz hn2⟩
  have hcg:(cs.map eK)[n]?=some (eK c):=by simp [hc]
  obtain ⟨ha0,ha1⟩:=hca0 c (Kw hc)
  have hfd:(cs.drop (n+1)).foldl (dX E.ms E.ls (fq E.ms E.ls k) e.l.Ignore p) (dX E.ms E.ls (fq E.ms E.ls k) e.l.Ignore p run1 c)=cs.foldl (dX E.ms E.ls (fq E.ms E.ls k) e.l.Ignore p) run:=by
   rw [←hf,List.drop_eq_getElem_cons hn2,List.foldl_cons,(Ko hc).2]
  clear h
  repeat' (first|refine L3 ?_|refine ak ?_|refine KG a4 HY ?_|(apply aQ;first|refine aO a4 ?_|refine aG a4 ?_)|(apply aM;first|refine KL 11 a4 0 KF ?_|refine KL 11 a4 1 KF ?_|refine KL 11 a4 2 KF ?_|refine KH a4 0 KE ?_|refine KH a4 1 KE ?_|refine KH a4 2 KE ?_|refine KH a4 3 KE ?_|fail)|refine bq a4 fun _=>?_|fail)
  refine aR [0,1,3,4,11,14,15,16] (α:=Nat×Int) (fun s=>[(13,aF s.1),(12,aF s.2)]) (fun s=>0≤s.2∧s.2≤1000000∧s.1≤1000000∧mC E.ms e.l.Ignore run1 p c.At=mC E.ms e.l.Ignore run1 s.1 s.2) (fun s=>jQ wb E q1 run1) (fun s=>run1.length - s.1) (p,c.At) rfl ⟨rfl,rfl,trivial⟩ ⟨ha0,ha1,hp,rfl⟩ (fun _ _ h=>h) ?_
  rintro ⟨i,left⟩ ⟨hl0,hl1,hi1,hnth⟩
  dsimp only at hl0 hl1 hi1 hnth ⊢
  try dsimp only [Kr,Kq,Kp,Lv]
  repeat' (first|refine L3 ?_|refine KG a4 HY ?_|(apply bo;first|refine KM a4 0 KC ?_|refine KM a4 1 KC ?_|refine KM a4 2 KC ?_|refine KM a4 3 KC ?_|refine KN a4 0 KC ?_|refine KN a4 1 KC ?_|refine KN a4 2 KC ?_|refine KO a4 1 KA (by assumption) rfl ?_|refine KO a4 0 KA (by assumption) rfl ?_|fail)|fail)
  refine iw a4 rfl hq1 rfl rfl ?_
  repeat' (first|refine L3 ?_|refine KG a4 HY ?_)
  refine aw rfl (fun h=>?_) (fun h=>?_)
  ·have hi2:i < run1.length:=by have:=Ky h;omega
   obtain ⟨m,rfl⟩:=hq1.lt hi2
   obtain ⟨x,hx⟩:∃x,run1[i]?=some x:=⟨_,Kz hi2⟩
   have hse:=uy E e wb m run1 i x hx
   have hst:=AM (ms:=E.ms) (ig:=e.l.Ignore) hi2 hl0
   rw [mz hx] at hst
   clear h
   repeat' (first|refine L3 ?_|refine ak ?_|refine KG a4 HY ?_)
   refine b6 (wx wb (.iptr (eC E)) (some m) run1) [dN] hse rfl rfl (Lz _) rfl fun c1 L1 ⟨hc1,hL⟩=>?_
   subst hc1;subst hL
   repeat' (first|refine L3 ?_|refine KG a4 HY ?_)
   refine aw rfl (fun hb=>?_) (fun hb=>?_)
   ·rw [if_neg (by simpa using hb)] at hst
    repeat' (first|refine L3 ?_|refine KG a4 HY ?_|(apply aU;refine aT ?_)|fail)
    exact aD (i+1,left) rfl ⟨by rw [Kv];rfl,rfl,trivial⟩ ⟨hl0,hl1,by dsimp only;omega,by rw [hnth,hst]⟩ (by dsimp only;omega) (fun _ _ h=>h)
   ·rw [if_pos (by simpa using hb)] at hst
    repeat' (first|refine L3 ?_|refine KG a4 HY ?_)
    refine aw rfl (fun h0=>?_) (fun h0=>?_)
    ·have hz:=Ky h0
     subst hz
     rw [if_pos rfl] at hst
     have hcc:=hca c.Lookup i (some m) run1 hi2 hq1 hr1
     have hch:dX E.ms E.ls (fq E.ms E.ls k) e.l.Ignore p run1 c=iA E.ms E.ls (fq E.ms E.ls k) c.Lookup i run1:=by
      unfold dX
      rw [hnth,hst]
     rw [hch] at hfd
     clear h0
     repeat' (first|refine L3 ?_|refine KG a4 HY ?_|(apply aU;refine aT ?_)|fail)
     refine b6 (jQ wb E (some m) run1) [] hcc rfl (by rw [Kv];rfl) (by rw [List.append_nil]) rfl fun c2 L2 ⟨q',h1,h2⟩=>?_
     subst h2
     repeat' (first|refine L3 ?_|refine c9 rfl ?_|refine KG a4 HY ?_|(apply aU;refine aT ?_)|fail)
     exact aD (n+1,q',_) rfl ⟨by rw [Kv];rfl,trivial⟩ ⟨hn2,h1,(sQ (iK k)).big hr1,hfd⟩ (by dsimp only;omega) (fun _ _ h=>by rw [List.append_nil] at h;exact h)
    ·have hz:=Kx h0
     rw [if_neg hz] at hst
     repeat' (first|refine L3 ?_|refine KG a4 HY ?_|(apply aU;refine aT ?_)|fail)
     exact aD (i+1,left - 1) rfl ⟨by rw [Kv];rfl,rfl,trivial⟩ ⟨by dsimp only;omega,by dsimp only;omega,by dsimp only;omega,by rw [hnth,hst]⟩ (by dsimp only;omega) (fun _ _ h=>h)
  ·have hi2:run1.length≤i:=by have:=Kx h;omega
   have hch:dX E.ms E.ls (fq E.ms E.ls k) e.l.Ignore p run1 c=run1:=by
    unfold dX
    rw [hnth,DJ hi2]
   rw [hch] at hfd
   clear h
   repeat' (first|refine L3 ?_|refine KG a4 HY ?_|(apply aU;refine aT ?_)|fail)
   exact aD (n+1,q1,run1) rfl ⟨by rw [Kv];rfl,trivial⟩ ⟨hn2,hq1,hr1,hfd⟩ (by dsimp only;omega) (fun _ _ h=>h)
 ·have hn2:n=cs.length:=by have:=Kx h;omega
  subst hn2
  rw [List.drop_length] at hf
  have hf2:run1=cs.foldl (dX E.ms E.ls (fq E.ms E.ls k) e.l.Ignore p) run:=hf
  repeat' (first|refine L3 ?_|fail)
  refine Hi ?_
  exact ca rfl ⟨q1,by rw [←hf2];exact hq1,by rw [←hf2];rfl⟩
set_option maxHeartbeats 4000000 in
theorem Hp {deep k:Nat} (hd:deep < 4) (hca:wB E wb (deep+1) k) (e:pY) (hk:e.l.Kind=4) (r:bh) (hro:ip r) (ps:List Nat) (q:Option dD) (run:List aJ) (hps:lw run ps) (hq:cu q run) (hr:run.length≤1000000):
  AC Tryz.prog 103 (kH wb e r ps deep) (jQ wb E q run) (gU wb E (fq E.ms E.ls (k+1) e.l r ps run)):=by
 obtain ⟨p,ps',rfl⟩:=List.exists_cons_of_ne_nil hps.some_
 have hpl:=hps.lt p (by simp)
 have hch:=Co wb hd hca e r.Calls hro.calls hro.at_ p (by omega) q run hq hr
 have hdv:fq E.ms E.ls (k+1) e.l r (p::ps') run=r.Calls.foldl (dX E.ms E.ls (fq E.ms E.ls k) e.l.Ignore p) run:=by
  rw [fq]
  exact if_pos hk
 rw [hdv]
 obtain ⟨⟨kd,ig,rs⟩,cls,fo,ba,fe,be⟩:=e
 dsimp only at hk
 subst hk
 have hp0:(bQ (p::ps'))[(0:Int).toNat]?=some [aF p]:=rfl
 refine aN Tryz.func103 rfl Tryz.ntmps103 rfl fun B=>?_
 repeat' (first|refine L3 ?_|refine ak ?_|refine KG a4 HY ?_|(apply aQ;first|refine aO a4 ?_|refine aG a4 ?_)|refine bH rfl ?_|refine bE rfl ?_)
 refine aw rfl (fun h=>?_) (fun h=>?_)
 ·clear h
  repeat' (first|refine L3 ?_|refine KG a4 HY ?_)
  refine b6 (jQ wb E q run) [] hch rfl rfl (by rw [List.append_nil]) rfl fun c L1 ⟨q',h1,h2⟩=>?_
  subst h2
  repeat' (first|refine L3 ?_|fail)
  exact ca rfl ⟨q',h1,by rw [List.append_nil]⟩
 ·have:=Kx h
  omega
set_option maxHeartbeats 4000000 in
theorem F3 (e:pY) (hk:e.l.Kind=4) (r:bh) (ps:List Nat) (q:Option dD) (run:List aJ) (hps:lw run ps) (hq:cu q run):
  AC Tryz.prog 103 (kH wb e r ps 4) (jQ wb E q run) (gU wb E (fq E.ms E.ls 0 e.l r ps run)):=by
 obtain ⟨p,ps',rfl⟩:=List.exists_cons_of_ne_nil hps.some_
 have hdv:fq E.ms E.ls 0 e.l r (p::ps') run=run:=by
  rw [fq]
  dsimp only
  unfold dE
  rw [hk]
  rfl
 rw [hdv]
 obtain ⟨⟨kd,ig,rs⟩,cls,fo,ba,fe,be⟩:=e
 dsimp only at hk
 subst hk
 have hp0:(bQ (p::ps'))[(0:Int).toNat]?=some [aF p]:=rfl
 refine aN Tryz.func103 rfl Tryz.ntmps103 rfl fun B=>?_
 repeat' (first|refine L3 ?_|refine ak ?_|refine KG a4 HY ?_|(apply aQ;first|refine aO a4 ?_|refine aG a4 ?_)|refine bH rfl ?_|refine bE rfl ?_)
 exact ca rfl ⟨q,hq,rfl⟩
theorem vn (deep k:Nat) (e:pY) (h1:1≤e.l.Kind) (h6:e.l.Kind≤6) (h4:e.l.Kind≠4) (r:bh) (hro:ip r) (ps:List Nat) (q:Option dD) (run:List aJ) (hps:lw run ps) (hq:cu q run) (hr:run.length≤1000000):
  AC Tryz.prog 103 (kH wb e r ps deep) (jQ wb E q run) (gU wb E (fq E.ms E.ls k e.l r ps run)):=by
 obtain ⟨p,ps',rfl⟩:=List.exists_cons_of_ne_nil hps.some_
 obtain ⟨m,rfl⟩:=hq.lt (hps.lt p (by simp))
 have hdv:fq E.ms E.ls k e.l r (p::ps') run=dE e.l r (p::ps') run:=by
  cases k with
  | zero=>rw [fq]
  | succ k=>rw [fq];exact if_neg h4
 rw [hdv]
 have hc:e.l.Kind=1∨e.l.Kind=2∨e.l.Kind=3∨e.l.Kind=5∨e.l.Kind=6:=by omega
 rcases hc with hk | hk | hk | hk | hk
 ·exact Ka hq hr hro hps deep hk
 ·exact Kb hq hr hro hps deep hk
 ·exact Kc hq hr hro hps deep hk
 ·exact Kd hq hr hro hps deep hk
 ·exact Ke hq hr hro hps deep hk
include hE in
theorem CC:∀(k deep:Nat),deep+k=4→I3 E wb deep k
 | 0,deep,hd=>by
  intro e r ps q run _ h1 h6 hro hps hq hr
  have nE:deep=4:=by omega
  subst nE
  by_cases h4:e.l.Kind=4
  ·exact F3 wb e h4 r ps q run hps hq
  ·exact vn wb 4 0 e h1 h6 h4 r hro ps q run hps hq hr
 | k+1,deep,hd=>by
  intro e r ps q run _ h1 h6 hro hps hq hr
  by_cases h4:e.l.Kind=4
  ·exact Hp wb (by omega) (EV hE wb (by omega) (CC k (deep+1) (by omega))) e h4 r hro ps q run hps hq hr
  ·exact vn wb deep (k+1) e h1 h6 h4 r hro ps q run hps hq hr
end
end Go.Proofs.YtpmdfoaadejmkaaGreatDoor
namespace Go.Proofs.YtpmdfoaadejmkaaGreatDoor
open Go.RowKit
attribute [local irreducible] AT bJ AX AO Av Kt bi dq DA cG
theorem x8 (run:List aJ) (hr:run.length≤1000000):AC Tryz.prog 36 [.imm 6 (run.map bO)] [] fun c L=>∃q,cu q run∧c=cM q run∧L=fP q run:=by
 refine aN Tryz.func36 rfl Tryz.ntmps36 rfl fun B=>?_
 have hml:(run.map bO).length=run.length:=Ku ..
 repeat' (first|refine L3 ?_|refine KG a4 HY ?_)
 refine ue a4 rfl rfl rfl rfl rfl fun b hb=>?_
 repeat' (first|refine L3 ?_|fail)
 cases b with
 | true=>
  have hn:run=[]:=by simpa using hb rfl
  subst hn
  repeat' (first|refine L3 ?_|refine KG a4 HY ?_|refine bH rfl ?_)
  refine bj (bS (t:=2) (c':= .imm 6 []) rfl fun σ v h=>i9 6 h) ?_
  exact KP HY ⟨none,⟨fun _=>rfl,fun m h=>by cases h⟩,rfl,rfl⟩
 | false=>
  repeat' (first|refine L3 ?_|refine KG a4 HY ?_|refine HF (d:=5) a4 rfl rfl fun _=>?_|refine bE rfl ?_)
  rename_i b5
  refine k9 a4 0 rfl rfl rfl rfl (wl rfl rfl) rfl (Nat.zero_le _) (Nat.le_refl _) (Nat.zero_le _) (by rw [hml];unfold maxLen;omega) (by rw [hml];omega) rfl fun b' cs' cap' e1 e2 e3 e4 e5=>?_
  repeat' (first|refine L3 ?_|refine KG a4 HY ?_)
  have hcs:cs'=bB run++cs'.drop (run.length * 6):=by
   conv=>lhs;rw [←List.take_append_drop (run.length * 6) cs']
   rw [Nat.zero_add,hml] at e2
   rw [e2]
   rfl
  refine KP HY ⟨some ⟨b',cap',cs'.drop (run.length * 6)⟩,⟨fun h=>(by cases h),fun m hm=>?_⟩,?_,?_⟩
  ·cases hm
   dsimp only
   rw [←hcs]
   exact ⟨by omega,e4,e1⟩
  ·unfold cM
   dsimp only
   rw [Nat.zero_add,hml]
  ·unfold fP
   dsimp only
   rw [←hcs]
   rfl
theorem qX {R:List aJ}:∀{l:List Nat},R.length≤(ee l R).length+l.length
 | []=>by simp [ee]
 | z::l=>by
  have:=qX (R:=R) (l:=l)
  have h2:(ee l R).length≤((ee l R).eraseIdx z).length+1:=by rw [List.length_eraseIdx];split <;> omega
  rw [ee,List.length_cons]
  omega
theorem qj {run:List aJ} {p:Nat} {q:List Nat} (h:lw run (p::q)):p+q.length≤(p::q).getLastD p∧(p::q).getLastD p < run.length∧(q≠[]↔p < (p::q).getLastD p):=by
  have key:∀(q:List Nat) (p:Nat),(p::q).Pairwise (· < ·)→p+q.length≤(p::q).getLast (by simp):=by
    intro q
    induction q with
    | nil=>intro p _;simp
    | cons a q ih=>
      intro p hp
      obtain ⟨h1,h2⟩:=List.pairwise_cons.1 hp
      have:=ih a h2
      have:=h1 a (by simp)
      rw [List.getLast_cons (by simp),List.length_cons]
      omega
  have hk:=key q p h.inc
  have he:(p::q).getLastD p=(p::q).getLast (by simp):=by rw [List.getLastD_eq_getLast?,List.getLast?_eq_some_getLast (by simp)];rfl
  rw [he]
  refine ⟨hk,h.lt _ (List.getLast_mem _),fun hq=>?_,fun hq e=>?_⟩
  · have:0 < q.length:=List.length_pos_iff.2 hq
    omega
  · subst e
    simp at hq
theorem sa {l:aL} {r:bh} {run:List aJ} {p:Nat} {q:List Nat} (h:lw run (p::q)):run.length - 1 - (p::q).getLastD p≤(dE l r (p::q) run).length:=by
 obtain ⟨h1,h2,_⟩:=qj h
 unfold dE
 split
 ·unfold dI;split <;> (try split) <;> (try split) <;> (try rw [List.length_set]) <;> omega
 split
 ·unfold fC
  split
  ·omega
  ·split
   ·omega
   ·simp only [List.length_append,List.length_take,List.length_drop,Ku,List.headD_cons]
    omega
 split
 ·unfold j5
  split
  ·rename_i heq _
   cases heq
   split
   ·rename_i x hx
    have key:∀y:aJ,run.length - 1 - (p::q).getLastD p≤(ee q (run.set p y)).length:=fun y=>by
     have:=qX (R:=run.set p y) (l:=q)
     rw [List.length_set] at this
     omega
    exact key _
   ·omega
  ·omega
 split
 ·unfold nX;split <;> (try rw [List.length_set]) <;> omega
 ·omega
theorem vm {ms:List Bool} {ls:List aL} {k:Nat} {l:aL} (hk:l.Kind≠4) {r:bh} {run:List aJ} {p:Nat} {q:List Nat} (h:lw run (p::q)):run.length - 1 - (p::q).getLastD p≤(fq ms ls k l r (p::q) run).length:=by
 cases k with
 | zero=>rw [fq];exact sa h
 | succ k=>rw [fq];dsimp only;rw [if_neg hk];exact sa h
end Go.Proofs.YtpmdfoaadejmkaaGreatDoor
