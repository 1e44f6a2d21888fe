/-
  What an engine's rules do with a run: all but chains.
-/
import Derived.Test.YtpmdfoaadejmkaaGreatDoorM18
import Derived.Test.YtpmdfoaadejmkaaGreatDoorM14
import Derived.Test.YtpmdfoaadejmkaaGreatDoorM15
namespace Go.Proofs.YtpmdfoaadejmkaaGreatDoor
open Go.RowKit
attribute [local irreducible] AT bv AX AO Av Kt b9 dh DA cE
section
variable {P:Program} {tt:TT} {l:List Oper} {fr:bW} {fin:jo} {sk:lU} {acc:bW} {L:AL} {k:Nat} {dd:Option Tmp} {ty t t':TypeId} {pos:String} {af:Array Edge} {g:Option (Nat×Bool)} {x y:Operand} {u:AV}
theorem Fx {q:IntKind} {a b:Int} (hx:bc (ct l.toArray acc fr af.toList) x=some (.sc (.int q a))) (hy:bc (ct l.toArray acc fr af.toList) y=some (.sc (.int q b))) (hg:iD ⟨dd,.binOp .add t x y t',ty,pos,af,g⟩ acc) (h:DA P l fr fin sk ((k,.sc (.int q (q.wrap (a+b))))::acc) L):cE P l fr fin k .v ⟨dd,.binOp .add t x y t',ty,pos,af,g⟩ sk acc L:=eW hg (yK (Ex hx hy)) h
end
structure oA (run:List aM) (ps:List Nat):Prop where
  some_:ps≠[]
  lt:∀j∈ps,j < run.length
  inc:ps.Pairwise (· < ·)
structure kj (r:bb):Prop where
 some_:r.In≠[]
 out:r.Out.length≤1000000
 calls:r.Calls.length≤1000000
 at_:∀c∈r.Calls,0≤c.At∧c.At≤1000000
abbrev jA (wb:Nat) (e:oH) (r:bb) (ps:List Nat) (deep:Nat):List AV:=[fQ wb,.iptr (fk e),.iptr (bB (eN r)),.imm 1 (d3 ps),aF deep]
def gp (wb:Nat) (E:oz) (run':List aM):AV→AL→Prop:=fun _ L=>∃q',dJ q' run'∧L=iU wb E q' run'
section
variable {E:oz} {wb:Nat} {m:fT} {run:List aM} (hq:dJ (some m) run) (hr:run.length≤1000000) {e:oH} {r:bb} (hro:kj r) {ps:List Nat} (hps:oA run ps) (deep:Nat)
include hq hr hro hps
set_option maxHeartbeats 4000000 in
theorem Ih (hk:e.l.Kind=2):AC Tryz.prog 103 (jA wb e r ps deep) (iU wb E (some m) run) (gp wb E (fN e.l r ps run)):=by
 obtain ⟨⟨kd,ig,rs⟩,cls,fo,ba,fe,be⟩:=e
 dsimp only at hk
 subst hk
 obtain ⟨p,q,rfl⟩:=List.exists_cons_of_ne_nil hps.some_
 have hpl:=hps.lt p (by simp)
 obtain ⟨x,hx⟩:∃x,run[p]?=some x:=⟨_,Iz hpl⟩
 have hp0:(d3 (p::q))[(0:Int).toNat]?=some [aF p]:=rfl
 have hm:=BF E wb m run hq hr p x hx r hro.out
 refine aL Tryz.func103 rfl Tryz.ntmps103 rfl fun B=>?_
 repeat' (first|refine IT ?_|refine am ?_|refine IF a5 G9 ?_|(apply aS;first|refine aQ a5 ?_|refine aG a5 ?_)|refine bQ rfl ?_|refine bK rfl ?_)
 refine aX (iU wb E (some m) run) [] hm rfl rfl (by rw [List.append_nil]) rfl fun c L1 ⟨q',h1,h2⟩=>?_
 subst h2
 repeat' (first|refine IT ?_|fail)
 exact cA rfl ⟨q',h1,by rw [List.append_nil];rfl⟩
set_option maxHeartbeats 4000000 in
theorem Ig (hk:e.l.Kind=1):AC Tryz.prog 103 (jA wb e r ps deep) (iU wb E (some m) run) (gp wb E (fN e.l r ps run)):=by
 have _:=hr
 obtain ⟨⟨kd,ig,rs⟩,cls,fo,ba,fe,be⟩:=e
 dsimp only at hk
 subst hk
 obtain ⟨p,q,rfl⟩:=List.exists_cons_of_ne_nil hps.some_
 have hpl:=hps.lt p (by simp)
 obtain ⟨x,hx⟩:∃x,run[p]?=some x:=⟨_,Iz hpl⟩
 have hp0:(d3 (p::q))[(0:Int).toNat]?=some [aF p]:=rfl
 obtain ⟨i0,is,hin⟩:=List.exists_cons_of_ne_nil hro.some_
 have hin0:(b7 (eN r).In)[(0:Int).toNat]?=some [.imm 1 (aT i0)]:=by
  show (b7 r.In)[0]?=_
  rw [hin]
  rfl
 have hsv:fN ⟨1,ig,rs⟩ r (p::q) run=ge r p run:=rfl
 rw [hsv]
 have hsg:ge r p run=match r.Out[i0.idxOf x.Glyph]? with
   | none=>run
   | some g=>if i0.idxOf x.Glyph < i0.length then run.set p { x with Glyph:=g } else run:=by
  unfold ge
  rw [hx,hin]
  rfl
 have hol:=b6 r.Out
 have h0:=o0 (j:=0) m.junk hx rfl
 obtain ⟨g1,g2,g3⟩:=hq.fit m rfl
 have hfl:=dc run
 refine aL Tryz.func103 rfl Tryz.ntmps103 rfl fun B=>?_
 repeat' (first|refine IT ?_|refine am ?_|refine IF a5 G9 ?_|(apply aS;first|refine aQ a5 ?_|refine aG a5 ?_)|refine bQ rfl ?_)
 refine bA 15 [(0,.v),(1,.v),(2,.v),(3,.v),(4,.v),(5,.v),(6,.v),(7,.v),(8,.v),(9,.l),(10,.v),(11,.v),(12,.v),(13,.l),(14,.v)] none ?_ trivial rfl (by kernel_rfl) (by kernel_rfl) (by kernel_rfl) bU (by kernel_rfl) rfl
 repeat' (first|refine aD ?_|refine b8 a5 ?_|(apply cB;refine cT a5 ?_)|refine bZ a5 0 rfl rfl rfl rfl (by first|trivial|rfl) ?_)
 refine d9 a5 rfl rfl rfl ⟨by omega,by omega⟩ trivial ?_
 repeat' (first|refine aD ?_|refine b8 a5 ?_|fail)
 refine bZ a5 1 rfl rfl rfl h0 trivial ?_
 repeat' (first|refine aD ?_|(apply dy;refine ej ?_)|fail)
 refine IQ [0,2,10,37] G9 ?_
 repeat' (first|refine IT ?_|refine a7 ?_|refine IF a5 G9 ?_)
 have hst:(eN r).Out=r.Out:=rfl
 generalize hn:(if x.Glyph∈i0 then ((i0.idxOf x.Glyph:Nat):Int) else -1)=n
 refine c7 [0,2,10,11] (0≤n∧n < r.Out.length) rfl (fun Q' K=>?_) (fun hC=>?_) (fun hC=>?_)
 ·repeat' (first|refine IT ?_|refine IF a5 G9 ?_|refine IM G9 ?_|refine IP IB ?_|refine IR IA (fun _=>?_) (fun _=>?_))
  all_goals exact K _ _ rfl rfl (by rw [hst,hol] at *;simp_all <;> omega)
 ·have hm:x.Glyph∈i0:=Classical.byContradiction fun hm=>by rw [if_neg hm] at hn;omega
  rw [if_pos hm] at hn
  subst hn
  have hlt:i0.idxOf x.Glyph < r.Out.length:=by omega
  obtain ⟨g,hg⟩:∃g,r.Out[i0.idxOf x.Glyph]?=some g:=⟨_,Iz hlt⟩
  have hgg:(aT (eN r).Out)[((i0.idxOf x.Glyph:Nat):Int).toNat]?=some [aF g]:=by rw [Int.toNat_natCast];exact bR hg
  rw [hg] at hsg
  dsimp only at hsg
  rw [if_pos (List.idxOf_lt_length_of_mem hm)] at hsg
  rw [hsg]
  have hst:=kz (j:=0) { x with Glyph:=g } (aF g) m.junk hx (by omega) rfl
  repeat' (first|fail)
  refine bA 12 [(0,.v),(1,.v),(2,.v),(3,.l),(4,.v),(5,.v),(6,.v),(7,.v),(8,.v),(9,.v),(10,.v),(11,.v)] none ?_ trivial rfl (by kernel_rfl) (by kernel_rfl) (by kernel_rfl) bU (by kernel_rfl) rfl
  repeat' (first|refine aD ?_|refine b8 a5 ?_|(apply cB;refine cT a5 ?_)|refine bZ a5 0 rfl rfl rfl rfl (by first|trivial|rfl) ?_)
  refine IQ [52,53,60] G9 ?_
  repeat' (first|refine IF a5 G9 ?_|(apply aS;first|refine aQ a5 ?_|refine aG a5 ?_)|fail)
  refine aa a5 1 rfl rfl rfl rfl rfl rfl (Nat.ble_eq_true_of_le (by rw [Int.toNat_natCast];simp;omega)) ?_
  rw [hst]
  repeat' (first|refine IT ?_|fail)
  exact cA rfl ⟨some m,hq.set p _,oV⟩
 ·have hsg2:ge r p run=run:=by
   rw [hsg]
   split
   ·rfl
   ·rename_i g hg
    rw [if_neg]
    intro h
    rw [if_pos (List.idxOf_lt_length_iff.1 h)] at hn
    have:=(Ju hg).1
    omega
  rw [hsg2]
  repeat' (first|refine IT ?_|fail)
  exact cA rfl ⟨some m,hq,rfl⟩
set_option maxHeartbeats 4000000 in
theorem Ij (hk:e.l.Kind=5):AC Tryz.prog 103 (jA wb e r ps deep) (iU wb E (some m) run) (gp wb E (fN e.l r ps run)):=by
 have _:=hr
 obtain ⟨⟨kd,ig,rs⟩,cls,fo,ba,fe,be⟩:=e
 dsimp only at hk
 subst hk
 obtain ⟨p,q,rfl⟩:=List.exists_cons_of_ne_nil hps.some_
 have hpl:=hps.lt p (by simp)
 obtain ⟨x,hx⟩:∃x,run[p]?=some x:=⟨_,Iz hpl⟩
 have hp0:(d3 (p::q))[(0:Int).toNat]?=some [aF p]:=rfl
 obtain ⟨i0,is,hin⟩:=List.exists_cons_of_ne_nil hro.some_
 have hin0:(b7 (eN r).In)[(0:Int).toNat]?=some [.imm 1 (aT i0)]:=by
  show (b7 r.In)[0]?=_
  rw [hin]
  rfl
 have hsv:fN ⟨5,ig,rs⟩ r (p::q) run=ge r p run:=rfl
 rw [hsv]
 have hsg:ge r p run=match r.Out[i0.idxOf x.Glyph]? with
   | none=>run
   | some g=>if i0.idxOf x.Glyph < i0.length then run.set p { x with Glyph:=g } else run:=by
  unfold ge
  rw [hx,hin]
  rfl
 have hol:=b6 r.Out
 have h0:=o0 (j:=0) m.junk hx rfl
 obtain ⟨g1,g2,g3⟩:=hq.fit m rfl
 have hfl:=dc run
 refine aL Tryz.func103 rfl Tryz.ntmps103 rfl fun B=>?_
 repeat' (first|refine IT ?_|refine am ?_|refine IF a5 G9 ?_|(apply aS;first|refine aQ a5 ?_|refine aG a5 ?_)|refine bQ rfl ?_|refine bK rfl ?_)
 refine bA 15 [(0,.v),(1,.v),(2,.v),(3,.v),(4,.v),(5,.v),(6,.v),(7,.v),(8,.v),(9,.l),(10,.v),(11,.v),(12,.v),(13,.l),(14,.v)] none ?_ trivial rfl (by kernel_rfl) (by kernel_rfl) (by kernel_rfl) bU (by kernel_rfl) rfl
 repeat' (first|refine aD ?_|refine b8 a5 ?_|(apply cB;refine cT a5 ?_)|refine bZ a5 0 rfl rfl rfl rfl (by first|trivial|rfl) ?_)
 refine d9 a5 rfl rfl rfl ⟨by omega,by omega⟩ trivial ?_
 repeat' (first|refine aD ?_|refine b8 a5 ?_|fail)
 refine bZ a5 1 rfl rfl rfl h0 trivial ?_
 repeat' (first|refine aD ?_|(apply dy;refine ej ?_)|fail)
 refine IQ [0,2,10,37] G9 ?_
 repeat' (first|refine IT ?_|refine a7 ?_|refine IF a5 G9 ?_)
 have hst:(eN r).Out=r.Out:=rfl
 generalize hn:(if x.Glyph∈i0 then ((i0.idxOf x.Glyph:Nat):Int) else -1)=n
 refine c7 [0,2,10,11] (0≤n∧n < r.Out.length) rfl (fun Q' K=>?_) (fun hC=>?_) (fun hC=>?_)
 ·repeat' (first|refine IT ?_|refine IF a5 G9 ?_|refine IM G9 ?_|refine IP IB ?_|refine IR IA (fun _=>?_) (fun _=>?_))
  all_goals exact K _ _ rfl rfl (by rw [hst,hol] at *;simp_all <;> omega)
 ·have hm:x.Glyph∈i0:=Classical.byContradiction fun hm=>by rw [if_neg hm] at hn;omega
  rw [if_pos hm] at hn
  subst hn
  have hlt:i0.idxOf x.Glyph < r.Out.length:=by omega
  obtain ⟨g,hg⟩:∃g,r.Out[i0.idxOf x.Glyph]?=some g:=⟨_,Iz hlt⟩
  have hgg:(aT (eN r).Out)[((i0.idxOf x.Glyph:Nat):Int).toNat]?=some [aF g]:=by rw [Int.toNat_natCast];exact bR hg
  rw [hg] at hsg
  dsimp only at hsg
  rw [if_pos (List.idxOf_lt_length_of_mem hm)] at hsg
  rw [hsg]
  have hst:=kz (j:=0) { x with Glyph:=g } (aF g) m.junk hx (by omega) rfl
  repeat' (first|fail)
  refine bA 12 [(0,.v),(1,.v),(2,.v),(3,.l),(4,.v),(5,.v),(6,.v),(7,.v),(8,.v),(9,.v),(10,.v),(11,.v)] none ?_ trivial rfl (by kernel_rfl) (by kernel_rfl) (by kernel_rfl) bU (by kernel_rfl) rfl
  repeat' (first|refine aD ?_|refine b8 a5 ?_|(apply cB;refine cT a5 ?_)|refine bZ a5 0 rfl rfl rfl rfl (by first|trivial|rfl) ?_)
  refine IQ [52,53,60] G9 ?_
  repeat' (first|refine IF a5 G9 ?_|(apply aS;first|refine aQ a5 ?_|refine aG a5 ?_)|fail)
  refine aa a5 1 rfl rfl rfl rfl rfl rfl (Nat.ble_eq_true_of_le (by rw [Int.toNat_natCast];simp;omega)) ?_
  rw [hst]
  repeat' (first|refine IT ?_|fail)
  exact cA rfl ⟨some m,hq.set p _,oV⟩
 ·have hsg2:ge r p run=run:=by
   rw [hsg]
   split
   ·rfl
   ·rename_i g hg
    rw [if_neg]
    intro h
    rw [if_pos (List.idxOf_lt_length_iff.1 h)] at hn
    have:=(Ju hg).1
    omega
  rw [hsg2]
  repeat' (first|refine IT ?_|fail)
  exact cA rfl ⟨some m,hq,rfl⟩
set_option maxHeartbeats 4000000 in
theorem Ii (hk:e.l.Kind=3):AC Tryz.prog 103 (jA wb e r ps deep) (iU wb E (some m) run) (gp wb E (fN e.l r ps run)):=by
 have _:=hro
 obtain ⟨⟨kd,ig,rs⟩,cls,fo,ba,fe,be⟩:=e
 dsimp only at hk
 subst hk
 obtain ⟨p,q,rfl⟩:=List.exists_cons_of_ne_nil hps.some_
 have hpl:=hps.lt p (by simp)
 obtain ⟨x,hx⟩:∃x,run[p]?=some x:=⟨_,Iz hpl⟩
 have hp0:(d3 (p::q))[(0:Int).toNat]?=some [aF p]:=rfl
 have hol:=b6 (eN r).Out
 have hst:(eN r).Out=r.Out:=rfl
 rw [hst] at hol
 refine aL Tryz.func103 rfl Tryz.ntmps103 rfl fun B=>?_
 repeat' (first|refine IT ?_|refine am ?_|refine IF a5 G9 ?_|(apply aS;first|refine aQ a5 ?_|refine aG a5 ?_)|refine bQ rfl ?_|refine bK rfl ?_)
 refine ar rfl (fun h=>?_) (fun h=>?_)
 ·have hne:r.Out≠[]:=fun e=>by rw [hst,e] at h;cases h
  obtain ⟨g,gs,hg⟩:=List.exists_cons_of_ne_nil hne
  have hj:=DI E wb m run hq hr p q hps.lt hps.inc x hx r g gs hg
  have hg0:(aT (eN r).Out)[(0:Int).toNat]?=some [aF g]:=by rw [hst,hg];rfl
  clear h
  repeat' (first|refine IT ?_|refine IF a5 G9 ?_|(apply aS;first|refine aQ a5 ?_|refine aG a5 ?_)|fail)
  refine aX (iU wb E (some m) run) [] hj rfl rfl (by rw [List.append_nil]) rfl fun c L1 ⟨q',h1,h2⟩=>?_
  subst h2
  repeat' (first|refine IT ?_|fail)
  exact cA rfl ⟨q',h1,by rw [List.append_nil];rfl⟩
 ·have hz:r.Out=[]:=List.eq_nil_of_length_eq_zero (by have:=Ix h;rw [hst] at this;omega)
  have hsv:fN ⟨3,ig,rs⟩ r (p::q) run=run:=by
   show mw r (p::q) run=run
   unfold mw
   rw [hz]
  rw [hsv]
  repeat' (first|refine IT ?_|fail)
  exact cA rfl ⟨some m,hq,rfl⟩
set_option maxHeartbeats 4000000 in
theorem Ik (hk:e.l.Kind=6):AC Tryz.prog 103 (jA wb e r ps deep) (iU wb E (some m) run) (gp wb E (fN e.l r ps run)):=by
 have _:=hr
 have _:=hro
 obtain ⟨⟨kd,ig,rs⟩,cls,fo,ba,fe,be⟩:=e
 dsimp only at hk
 subst hk
 obtain ⟨p,q,rfl⟩:=List.exists_cons_of_ne_nil hps.some_
 have hpl:=hps.lt p (by simp)
 obtain ⟨x,hx⟩:∃x,run[p]?=some x:=⟨_,Iz hpl⟩
 have hp0:(d3 (p::q))[(0:Int).toNat]?=some [aF p]:=rfl
 have hsv:fN ⟨6,ig,rs⟩ r (p::q) run=run.set p { x with Advance:=IntKind.i64.wrap (x.Advance+r.X) }:=by
  show rI r p run=_
  unfold rI
  rw [hx]
 rw [hsv]
 have h3:=o0 (j:=3) m.junk hx rfl
 have hst:=kz (j:=3) { x with Advance:=IntKind.i64.wrap (x.Advance+r.X) } (aF (IntKind.i64.wrap (x.Advance+r.X))) m.junk hx (by omega) rfl
 obtain ⟨g1,g2,g3⟩:=hq.fit m rfl
 have hfl:=dc run
 refine aL Tryz.func103 rfl Tryz.ntmps103 rfl fun B=>?_
 repeat' (first|refine IT ?_|refine am ?_|refine IF a5 G9 ?_|(apply aS;first|refine aQ a5 ?_|refine aG a5 ?_)|refine bQ rfl ?_|refine bK rfl ?_)
 refine bA 13 [(0,.v),(1,.v),(2,.v),(3,.l),(4,.v),(5,.v),(6,.v),(7,.l),(8,.v),(9,.v),(10,.v),(11,.v),(12,.v)] none ?_ trivial rfl (by kernel_rfl) (by kernel_rfl) (by kernel_rfl) bU (by kernel_rfl) rfl
 repeat' (first|refine aD ?_|refine b8 a5 ?_|refine bZ a5 0 rfl rfl rfl rfl (by first|trivial|rfl) ?_)
 refine d9 a5 rfl rfl rfl ⟨by omega,by omega⟩ trivial ?_
 repeat' (first|refine aD ?_|refine b8 a5 ?_|fail)
 refine bZ a5 1 rfl rfl rfl h3 trivial ?_
 repeat' (first|refine aD ?_|refine b8 a5 ?_|fail)
 refine Fx rfl rfl trivial ?_
 repeat' (first|fail)
 refine IQ [107,108,116] G9 ?_
 repeat' (first|refine IF a5 G9 ?_|(apply aS;first|refine aQ a5 ?_|refine aG a5 ?_)|fail)
 refine aa a5 1 rfl rfl rfl rfl rfl rfl (Nat.ble_eq_true_of_le (by rw [Int.toNat_natCast];simp;omega)) ?_
 have hsx:(eN r).X=r.X:=rfl
 rw [hsx,hst]
 repeat' (first|refine IT ?_|fail)
 exact cA rfl ⟨some m,hq.set p _,oV⟩
end
end Go.Proofs.YtpmdfoaadejmkaaGreatDoor
namespace Go.Proofs.YtpmdfoaadejmkaaGreatDoor
open Go.RowKit
attribute [local irreducible] AT bv AX AO Av Kt b9 dh DA cE
structure ki (E:oz):Prop where
 auto:∀e∈E.lks,1≤e.l.Kind→e.l.Kind≤6→kf e
 rule:∀e∈E.lks,∀r∈e.l.Rules,r.In≠[]→kj r
abbrev oz.ls (E:oz):List aN:=E.lks.map (·.l)
theorem yJ {ms:List Bool} {ig:Bool} {run:List aM} {i:Nat} (hi:i < run.length) {n:Int} (h0:0≤n):qQ ms ig run i n=if jO ms ig run i=true then (if n=0 then some i else qQ ms ig run (i+1) (n - 1)) else qQ ms ig run (i+1) n:=by
 unfold qQ
 rw [if_pos h0,lJ hi]
 split
 ·split
  ·rename_i hn
   subst hn
   rfl
  ·rw [if_pos (by omega),show n.toNat=(n - 1).toNat+1 by omega,List.getElem?_cons_succ]
 ·rfl
theorem BQ {ms:List Bool} {ig:Bool} {run:List aM} {i:Nat} (hi:run.length≤i) (n:Int):qQ ms ig run i n=none:=by
 unfold qQ
 rw [rr hi]
 split <;> simp
theorem yl {ms:List Bool} {ig:Bool} {run:List aM} {i:Nat}:(dZ ms ig run i).Pairwise (· < ·):=by
  unfold dZ
  exact List.Pairwise.filter _ (List.pairwise_lt_range' ..)
theorem G1 {ms:List Bool} {l:aN} {run:List aM} {i:Nat} {forms:List Int} {r:bb} (h:dM ms l run i forms=some r):oA run (dA ms l run i r)∧r∈l.Rules∧r.In≠[]∧i < run.length∧(dA ms l run i r).head?=some i:=by
 unfold dM at h
 split at h
 ·rename_i hb
  have hm:=List.mem_of_find?_eq_some h
  obtain ⟨h1,h2⟩:=oq (List.find?_some h)
  unfold jv at hb
  split at hb
  ·rename_i x hx
   have hil:=(Ju hx).1
   rw [Bool.and_eq_true] at hb
   have hs:jO ms l.Ignore run i=true:=by rw [nJ hx];exact hb.1
   have hf:dZ ms l.Ignore run i=i::dZ ms l.Ignore run (i+1):=by rw [lJ hil,if_pos hs]
   obtain ⟨n,hn⟩:∃n,r.In.length=n+1:=⟨r.In.length - 1,by omega⟩
   have hp:dA ms l run i r=i::(dZ ms l.Ignore run (i+1)).take n:=by unfold dA;rw [hf,hn,List.take_succ_cons]
   refine ⟨⟨by rw [hp];simp,fun j hj=>(AZ j (List.mem_of_mem_take hj)).2.1,?_⟩,hm,fun e=>by rw [e] at h1;simp at h1,hil,by rw [hp];rfl⟩
   exact yl.sublist (List.take_sublist ..)
  ·cases hb
 ·cases h
def g7 (a b:Nat):Prop:=b≤max a 500
theorem rV {l:aN} {r:bb} {ps:List Nat} {run:List aM}:g7 run.length (fN l r ps run).length:=by
 unfold fN g7
 split
 ·unfold ge;split <;> (try split) <;> (try split) <;> (try rw [List.length_set]) <;> omega
 split
 ·unfold iu
  split
  ·omega
  ·split
   ·omega
   ·rename_i x hx hh
    have:=(Ju hx).1
    simp only [List.length_append,List.length_take,List.length_drop,Jz]
    omega
 split
 ·unfold mw
  split
  ·split
   ·refine Nat.le_trans kY.length_le ?_
    rw [List.length_set];omega
   ·omega
  ·omega
 split
 ·unfold rI;split <;> (try rw [List.length_set]) <;> omega
 ·omega
theorem g7.trans {a b c:Nat} (h:g7 a b) (k:g7 b c):g7 a c:=by unfold g7 at *;omega
theorem r9 {ms:List Bool} {ls:List aN} {d:He} (hd:∀l r ps run,g7 run.length (d l r ps run).length) {n:Int} {i:Nat} {run:List aM}:g7 run.length (m8 ms ls d n i run).length:=by
 unfold m8
 split
 ·unfold g7;omega
 ·split
  ·unfold g7;omega
  ·split
   ·unfold g7;omega
   ·split
    ·unfold g7;omega
    ·exact hd ..
theorem kX {ms:List Bool} {ls:List aN}:∀(k:Nat) (l:aN) (r:bb) (ps:List Nat) (run:List aM),g7 run.length (iV ms ls k l r ps run).length
 | 0,_,_,_,_=>rV
 | k+1,l,r,ps,run=>by
  unfold iV
  split
  ·have key:∀(cs:List gO) (run:List aM),g7 run.length (cs.foldl (fA ms ls (iV ms ls k) l.Ignore (ps.headD 0)) run).length:=by
    intro cs
    induction cs with
    | nil=>intro run;unfold g7;simp;omega
    | cons c cs ih=>
     intro run
     rw [List.foldl_cons]
     refine g7.trans ?_ (ih _)
     unfold fA
     split
     ·unfold g7;omega
     ·exact r9 (kX k)
   exact key _ _
  ·exact rV
theorem g7.big {a b:Nat} (h:g7 a b) (ha:a≤1000000):b≤1000000:=by unfold g7 at h;omega
section
variable {E:oz} (hE:ki E) (wb:Nat)
def Ge (E:oz) (wb deep k:Nat):Prop:=∀(e:oH) (r:bb) (ps:List Nat) (q:Option fT) (run:List aM),e∈E.lks→1≤e.l.Kind→e.l.Kind≤6→kj r→oA run ps→dJ q run→run.length≤1000000→
 AC Tryz.prog 103 (jA wb e r ps deep) (iU wb E q run) (gp wb E (iV E.ms E.ls k e.l r ps run))
def uV (E:oz) (wb deep k:Nat):Prop:=∀(n:Int) (i:Nat) (q:Option fT) (run:List aM),i < run.length→dJ q run→run.length≤1000000→
 AC Tryz.prog 261 [fQ wb,aF n,aF i,aF deep] (iU wb E q run) (gp wb E (m8 E.ms E.ls (iV E.ms E.ls k) n i run))
theorem r8 (E:oz):(E.lks.map fk).length=E.lks.length:=by simp
include hE in
set_option maxHeartbeats 4000000 in
theorem D5 {deep k:Nat} (hd:deep≤4) (hdo:Ge E wb deep k):uV E wb deep k:=by
 intro n i q run hi hq hr
 refine aL Tryz.func261 rfl Tryz.ntmps261 rfl fun B=>?_
 have hll:=r8 E
 repeat' (first|refine IT ?_|refine IF a5 G9 ?_)
 refine c7 [0,1,2,3] (n < 0∨(E.lks.length:Int)≤n) rfl (fun Q' K=>?_) (fun hC=>?_) (fun hC=>?_)
 ·repeat' (first|refine IT ?_|refine IF a5 G9 ?_|refine IM G9 ?_|refine IP IB ?_|(apply bw;first|refine II a5 0 IC ?_|refine II a5 1 IC ?_|refine II a5 2 IC ?_|refine II a5 3 IC ?_|refine IJ a5 0 IC ?_|refine IJ a5 1 IC ?_|refine IJ a5 2 IC ?_|refine IK a5 1 IA (by assumption) rfl ?_|refine IK a5 0 IA (by assumption) rfl ?_|fail)|refine IR IA (fun _=>?_) (fun _=>?_))
  all_goals exact K _ _ rfl rfl (by simp_all <;> omega)
 ·have hv:m8 E.ms E.ls (iV E.ms E.ls k) n i run=run:=by
   unfold m8
   by_cases h0:n < 0
   ·rw [if_pos h0]
   ·rw [if_neg h0,List.getElem?_eq_none (by rw [Jz];omega)]
  rw [hv]
  repeat' (first|refine IT ?_|fail)
  exact oM rfl ⟨q,hq,rfl⟩
 obtain ⟨e,he⟩:∃e,E.lks[n.toNat]?=some e:=⟨_,Iz (by omega)⟩
 have heg:(E.lks.map fk)[n.toNat]?=some (fk e):=by simp [he]
 have hem:=Iw he
 have hcv:m8 E.ms E.ls (iV E.ms E.ls k) n i run=if e.l.Kind < 1∨4 < e.l.Kind then run else match dM E.ms e.l run i [] with
   | none=>run
   | some r=>iV E.ms E.ls k e.l r (dA E.ms e.l run i r) run:=by
  unfold m8
  rw [if_neg (by omega),List.getElem?_map,he]
  rfl
 repeat' (first|refine IT ?_|refine IF a5 G9 ?_|(apply bw;first|refine II a5 0 IC ?_|refine II a5 1 IC ?_|refine II a5 2 IC ?_|refine II a5 3 IC ?_|refine IJ a5 0 IC ?_|refine IJ a5 1 IC ?_|refine IJ a5 2 IC ?_|refine IK a5 1 IA (by assumption) rfl ?_|refine IK a5 0 IA (by assumption) rfl ?_|fail)|(apply aS;first|refine aQ a5 ?_|refine aG a5 ?_)|fail)
 refine c7 [0,2,3,8] (e.l.Kind < 1∨4 < e.l.Kind) rfl (fun Q' K=>?_) (fun hC2=>?_) (fun hC2=>?_)
 ·repeat' (first|refine IT ?_|refine IF a5 G9 ?_|refine IM G9 ?_|refine IP IB ?_|refine IR IA (fun _=>?_) (fun _=>?_))
  all_goals exact K _ _ rfl rfl (by simp_all <;> omega)
 ·rw [if_pos hC2] at hcv
  rw [hcv]
  repeat' (first|refine IT ?_|fail)
  exact oM rfl ⟨q,hq,rfl⟩
 rw [if_neg hC2] at hcv
 rw [hcv]
 have hau:=hE.auto e hem (by omega) (by omega)
 have hma:=AC.args (a:=[fQ wb,.iptr (fk e),aF i,.sc (.slice none 0 0)]) (pT E e hau wb q run hq hr i (by omega) []) ⟨cx.refl _,cx.refl _,cx.refl _,cx.nil 1,trivial⟩
 repeat' (first|refine IT ?_|refine IF a5 G9 ?_)
 refine aX (iU wb E q run) [] hma rfl rfl (by rw [List.append_nil]) rfl fun c L1 ⟨hc,hL⟩=>?_
 subst hc;subst hL
 unfold kI
 cases hmv:dM E.ms e.l run i [] with
 | none=>
  dsimp only
  repeat' (first|refine IT ?_|refine IF a5 G9 ?_)
  refine sK Tryz.underlying190 rfl rfl rfl rfl ?_
  repeat' (first|refine IT ?_|refine bK rfl ?_)
  exact cA rfl ⟨q,hq,by rw [List.append_nil]⟩
 | some r=>
  dsimp only
  obtain ⟨hps,hrm,hin,_,_⟩:=G1 hmv
  have hdc:=hdo e r (dA E.ms e.l run i r) q run hem (by omega) (by omega) (hE.rule e hem r hrm hin) hps hq hr
  repeat' (first|refine IT ?_|refine IF a5 G9 ?_)
  refine sK Tryz.underlying190 rfl rfl rfl rfl ?_
  repeat' (first|refine IT ?_|refine IF a5 G9 ?_|refine bQ rfl ?_)
  refine aX (iU wb E q run) [] hdc rfl rfl (by rw [List.append_nil]) rfl fun c L1 ⟨q',h1,h2⟩=>?_
  subst h2
  repeat' (first|refine IT ?_|fail)
  exact cA rfl ⟨q',h1,by rw [List.append_nil]⟩
set_option maxHeartbeats 4000000 in
theorem Am {deep k:Nat} (hd:deep < 4) (hca:uV E wb (deep+1) k) (e:oH) (cs:List gO) (hcs:cs.length≤1000000) (hca0:∀c∈cs,0≤c.At∧c.At≤1000000) (p:Nat) (hp:p≤1000000) (q:Option fT) (run:List aM) (hq:dJ q run) (hr:run.length≤1000000):
  AC Tryz.prog 193 [fQ wb,.iptr (fk e),.imm 2 (cs.map eT),aF p,aF deep] (iU wb E q run) (gp wb E (cs.foldl (fA E.ms E.ls (iV E.ms E.ls k) e.l.Ignore p) run)):=by
 refine aL Tryz.func193 rfl Tryz.ntmps193 rfl fun B=>?_
 have hcl:(cs.map eT).length=cs.length:=by simp
 repeat' (first|fail)
 refine A6 ?_
 repeat' (first|refine IT ?_|refine am ?_|refine A4 ?_|refine IF a5 G9 ?_)
 refine aO [0,1,3,4,14,15] (α:=Nat×Option fT×List aM) (fun s=>[(16,aF s.1)]) (fun s=>s.1≤cs.length∧dJ s.2.1 s.2.2∧s.2.2.length≤1000000∧(cs.drop s.1).foldl (fA E.ms E.ls (iV E.ms E.ls k) e.l.Ignore p) s.2.2=cs.foldl (fA E.ms E.ls (iV E.ms E.ls k) e.l.Ignore p) run) (fun s=>iU wb E s.2.1 s.2.2) (fun s=>cs.length - s.1) (0,q,run) rfl ⟨rfl,trivial⟩ ⟨Nat.zero_le _,hq,hr,rfl⟩ (fun _ _ h=>h) ?_
 rintro ⟨n,q1,run1⟩ ⟨hn,hq1,hr1,hf⟩
 dsimp only at hn hq1 hr1 hf ⊢
 try dsimp only [Jx,Jw,Jv,Jq]
 repeat' (first|refine IT ?_|refine IF a5 G9 ?_)
 refine ar rfl (fun h=>?_) (fun h=>?_)
 ·have hn2:n < cs.length:=by have:=Iy h;omega
  obtain ⟨c,hc⟩:∃c,cs[n]?=some c:=⟨_,Iz hn2⟩
  have hcg:(cs.map eT)[n]?=some (eT c):=by simp [hc]
  obtain ⟨ha0,ha1⟩:=hca0 c (Iw hc)
  have hfd:(cs.drop (n+1)).foldl (fA E.ms E.ls (iV E.ms E.ls k) e.l.Ignore p) (fA E.ms E.ls (iV E.ms E.ls k) e.l.Ignore p run1 c)=cs.foldl (fA E.ms E.ls (iV E.ms E.ls k) e.l.Ignore p) run:=by
   rw [←hf,List.drop_eq_getElem_cons hn2,List.foldl_cons,(Ju hc).2]
  clear h
  repeat' (first|refine IT ?_|refine am ?_|refine IF a5 G9 ?_|(apply aS;first|refine aQ a5 ?_|refine aG a5 ?_)|(apply aK;first|refine IH 11 a5 0 IE ?_|refine IH 11 a5 1 IE ?_|refine IH 11 a5 2 IE ?_|refine IG a5 0 ID ?_|refine IG a5 1 ID ?_|refine IG a5 2 ID ?_|refine IG a5 3 ID ?_|fail)|refine bi a5 fun _=>?_|fail)
  refine aO [0,1,3,4,11,14,15,16] (α:=Nat×Int) (fun s=>[(13,aF s.1),(12,aF s.2)]) (fun s=>0≤s.2∧s.2≤1000000∧s.1≤1000000∧qQ E.ms e.l.Ignore run1 p c.At=qQ E.ms e.l.Ignore run1 s.1 s.2) (fun s=>iU wb E q1 run1) (fun s=>run1.length - s.1) (p,c.At) rfl ⟨rfl,rfl,trivial⟩ ⟨ha0,ha1,hp,rfl⟩ (fun _ _ h=>h) ?_
  rintro ⟨i,left⟩ ⟨hl0,hl1,hi1,hnth⟩
  dsimp only at hl0 hl1 hi1 hnth ⊢
  try dsimp only [Jx,Jw,Jv,Jq]
  repeat' (first|refine IT ?_|refine IF a5 G9 ?_|(apply bw;first|refine II a5 0 IC ?_|refine II a5 1 IC ?_|refine II a5 2 IC ?_|refine II a5 3 IC ?_|refine IJ a5 0 IC ?_|refine IJ a5 1 IC ?_|refine IJ a5 2 IC ?_|refine IK a5 1 IA (by assumption) rfl ?_|refine IK a5 0 IA (by assumption) rfl ?_|fail)|fail)
  refine lM a5 rfl hq1 rfl rfl ?_
  repeat' (first|refine IT ?_|refine IF a5 G9 ?_)
  refine ar rfl (fun h=>?_) (fun h=>?_)
  ·have hi2:i < run1.length:=by have:=Iy h;omega
   obtain ⟨m,rfl⟩:=hq1.lt hi2
   obtain ⟨x,hx⟩:∃x,run1[i]?=some x:=⟨_,Iz hi2⟩
   have hse:=sX E e wb m run1 i x hx
   have hst:=yJ (ms:=E.ms) (ig:=e.l.Ignore) hi2 hl0
   rw [nJ hx] at hst
   clear h
   repeat' (first|refine IT ?_|refine am ?_|refine IF a5 G9 ?_)
   refine aX (uR wb (.iptr (dp E)) (some m) run1) [cM] hse rfl rfl (Jt _) rfl fun c1 L1 ⟨hc1,hL⟩=>?_
   subst hc1;subst hL
   repeat' (first|refine IT ?_|refine IF a5 G9 ?_)
   refine ar rfl (fun hb=>?_) (fun hb=>?_)
   ·rw [if_neg (by simpa using hb)] at hst
    repeat' (first|refine IT ?_|refine IF a5 G9 ?_|(apply aV;refine aU ?_)|fail)
    exact aC (i+1,left) rfl ⟨by rw [Iv];rfl,rfl,trivial⟩ ⟨hl0,hl1,by dsimp only;omega,by rw [hnth,hst]⟩ (by dsimp only;omega) (fun _ _ h=>h)
   ·rw [if_pos (by simpa using hb)] at hst
    repeat' (first|refine IT ?_|refine IF a5 G9 ?_)
    refine ar rfl (fun h0=>?_) (fun h0=>?_)
    ·have hz:=Iy h0
     subst hz
     rw [if_pos rfl] at hst
     have hcc:=hca c.Lookup i (some m) run1 hi2 hq1 hr1
     have hch:fA E.ms E.ls (iV E.ms E.ls k) e.l.Ignore p run1 c=m8 E.ms E.ls (iV E.ms E.ls k) c.Lookup i run1:=by
      unfold fA
      rw [hnth,hst]
     rw [hch] at hfd
     clear h0
     repeat' (first|refine IT ?_|refine IF a5 G9 ?_|(apply aV;refine aU ?_)|fail)
     refine aX (iU wb E (some m) run1) [] hcc rfl (by rw [Iv];rfl) (by rw [List.append_nil]) rfl fun c2 L2 ⟨q',h1,h2⟩=>?_
     subst h2
     repeat' (first|refine IT ?_|refine dP rfl ?_|refine IF a5 G9 ?_|(apply aV;refine aU ?_)|fail)
     exact aC (n+1,q',_) rfl ⟨by rw [Iv];rfl,trivial⟩ ⟨hn2,h1,(r9 (kX k)).big hr1,hfd⟩ (by dsimp only;omega) (fun _ _ h=>by rw [List.append_nil] at h;exact h)
    ·have hz:=Ix h0
     rw [if_neg hz] at hst
     repeat' (first|refine IT ?_|refine IF a5 G9 ?_|(apply aV;refine aU ?_)|fail)
     exact aC (i+1,left - 1) rfl ⟨by rw [Iv];rfl,rfl,trivial⟩ ⟨by dsimp only;omega,by dsimp only;omega,by dsimp only;omega,by rw [hnth,hst]⟩ (by dsimp only;omega) (fun _ _ h=>h)
  ·have hi2:run1.length≤i:=by have:=Ix h;omega
   have hch:fA E.ms E.ls (iV E.ms E.ls k) e.l.Ignore p run1 c=run1:=by
    unfold fA
    rw [hnth,BQ hi2]
   rw [hch] at hfd
   clear h
   repeat' (first|refine IT ?_|refine IF a5 G9 ?_|(apply aV;refine aU ?_)|fail)
   exact aC (n+1,q1,run1) rfl ⟨by rw [Iv];rfl,trivial⟩ ⟨hn2,hq1,hr1,hfd⟩ (by dsimp only;omega) (fun _ _ h=>h)
 ·have hn2:n=cs.length:=by have:=Ix h;omega
  subst hn2
  rw [List.drop_length] at hf
  have hf2:run1=cs.foldl (fA E.ms E.ls (iV E.ms E.ls k) e.l.Ignore p) run:=hf
  repeat' (first|refine IT ?_|fail)
  refine Fv ?_
  exact cA rfl ⟨q1,by rw [←hf2];exact hq1,by rw [←hf2];rfl⟩
set_option maxHeartbeats 4000000 in
theorem FB {deep k:Nat} (hd:deep < 4) (hca:uV E wb (deep+1) k) (e:oH) (hk:e.l.Kind=4) (r:bb) (hro:kj r) (ps:List Nat) (q:Option fT) (run:List aM) (hps:oA run ps) (hq:dJ q run) (hr:run.length≤1000000):
  AC Tryz.prog 103 (jA wb e r ps deep) (iU wb E q run) (gp wb E (iV E.ms E.ls (k+1) e.l r ps run)):=by
 obtain ⟨p,ps',rfl⟩:=List.exists_cons_of_ne_nil hps.some_
 have hpl:=hps.lt p (by simp)
 have hch:=Am wb hd hca e r.Calls hro.calls hro.at_ p (by omega) q run hq hr
 have hdv:iV E.ms E.ls (k+1) e.l r (p::ps') run=r.Calls.foldl (fA E.ms E.ls (iV E.ms E.ls k) e.l.Ignore p) run:=by
  rw [iV]
  exact if_pos hk
 rw [hdv]
 obtain ⟨⟨kd,ig,rs⟩,cls,fo,ba,fe,be⟩:=e
 dsimp only at hk
 subst hk
 have hp0:(d3 (p::ps'))[(0:Int).toNat]?=some [aF p]:=rfl
 refine aL Tryz.func103 rfl Tryz.ntmps103 rfl fun B=>?_
 repeat' (first|refine IT ?_|refine am ?_|refine IF a5 G9 ?_|(apply aS;first|refine aQ a5 ?_|refine aG a5 ?_)|refine bQ rfl ?_|refine bK rfl ?_)
 refine ar rfl (fun h=>?_) (fun h=>?_)
 ·clear h
  repeat' (first|refine IT ?_|refine IF a5 G9 ?_)
  refine aX (iU wb E q run) [] hch rfl rfl (by rw [List.append_nil]) rfl fun c L1 ⟨q',h1,h2⟩=>?_
  subst h2
  repeat' (first|refine IT ?_|fail)
  exact cA rfl ⟨q',h1,by rw [List.append_nil]⟩
 ·have:=Ix h
  omega
set_option maxHeartbeats 4000000 in
theorem Dd (e:oH) (hk:e.l.Kind=4) (r:bb) (ps:List Nat) (q:Option fT) (run:List aM) (hps:oA run ps) (hq:dJ q run):
  AC Tryz.prog 103 (jA wb e r ps 4) (iU wb E q run) (gp wb E (iV E.ms E.ls 0 e.l r ps run)):=by
 obtain ⟨p,ps',rfl⟩:=List.exists_cons_of_ne_nil hps.some_
 have hdv:iV E.ms E.ls 0 e.l r (p::ps') run=run:=by
  rw [iV]
  dsimp only
  unfold fN
  rw [hk]
  rfl
 rw [hdv]
 obtain ⟨⟨kd,ig,rs⟩,cls,fo,ba,fe,be⟩:=e
 dsimp only at hk
 subst hk
 have hp0:(d3 (p::ps'))[(0:Int).toNat]?=some [aF p]:=rfl
 refine aL Tryz.func103 rfl Tryz.ntmps103 rfl fun B=>?_
 repeat' (first|refine IT ?_|refine am ?_|refine IF a5 G9 ?_|(apply aS;first|refine aQ a5 ?_|refine aG a5 ?_)|refine bQ rfl ?_|refine bK rfl ?_)
 exact cA rfl ⟨q,hq,rfl⟩
theorem tO (deep k:Nat) (e:oH) (h1:1≤e.l.Kind) (h6:e.l.Kind≤6) (h4:e.l.Kind≠4) (r:bb) (hro:kj r) (ps:List Nat) (q:Option fT) (run:List aM) (hps:oA run ps) (hq:dJ q run) (hr:run.length≤1000000):
  AC Tryz.prog 103 (jA wb e r ps deep) (iU wb E q run) (gp wb E (iV E.ms E.ls k e.l r ps run)):=by
 obtain ⟨p,ps',rfl⟩:=List.exists_cons_of_ne_nil hps.some_
 obtain ⟨m,rfl⟩:=hq.lt (hps.lt p (by simp))
 have hdv:iV E.ms E.ls k e.l r (p::ps') run=fN e.l r (p::ps') run:=by
  cases k with
  | zero=>rw [iV]
  | succ k=>rw [iV];exact if_neg h4
 rw [hdv]
 have hc:e.l.Kind=1∨e.l.Kind=2∨e.l.Kind=3∨e.l.Kind=5∨e.l.Kind=6:=by omega
 rcases hc with hk | hk | hk | hk | hk
 ·exact Ig hq hr hro hps deep hk
 ·exact Ih hq hr hro hps deep hk
 ·exact Ii hq hr hro hps deep hk
 ·exact Ij hq hr hro hps deep hk
 ·exact Ik hq hr hro hps deep hk
include hE in
theorem AE:∀(k deep:Nat),deep+k=4→Ge E wb deep k
 | 0,deep,hd=>by
  intro e r ps q run _ h1 h6 hro hps hq hr
  have nw:deep=4:=by omega
  subst nw
  by_cases h4:e.l.Kind=4
  ·exact Dd wb e h4 r ps q run hps hq
  ·exact tO wb 4 0 e h1 h6 h4 r hro ps q run hps hq hr
 | k+1,deep,hd=>by
  intro e r ps q run _ h1 h6 hro hps hq hr
  by_cases h4:e.l.Kind=4
  ·exact FB wb (by omega) (D5 hE wb (by omega) (AE k (deep+1) (by omega))) e h4 r hro ps q run hps hq hr
  ·exact tO wb deep (k+1) e h1 h6 h4 r hro ps q run hps hq hr
end
end Go.Proofs.YtpmdfoaadejmkaaGreatDoor
namespace Go.Proofs.YtpmdfoaadejmkaaGreatDoor
open Go.RowKit
attribute [local irreducible] AT bv AX AO Av Kt b9 dh DA cE
theorem sf (run:List aM) (hr:run.length≤1000000):AC Tryz.prog 36 [.imm 6 (run.map bz)] [] fun c L=>∃q,dJ q run∧c=ey q run∧L=nI q run:=by
 refine aL Tryz.func36 rfl Tryz.ntmps36 rfl fun B=>?_
 have hml:(run.map bz).length=run.length:=Jz ..
 repeat' (first|refine IT ?_|refine IF a5 G9 ?_)
 refine sI a5 rfl rfl rfl rfl rfl fun b hb=>?_
 repeat' (first|refine IT ?_|fail)
 cases b with
 | true=>
  have hn:run=[]:=by simpa using hb rfl
  subst hn
  repeat' (first|refine IT ?_|refine IF a5 G9 ?_|refine bQ rfl ?_)
  refine bh (bS (t:=2) (c':= .imm 6 []) rfl fun σ v h=>gZ 6 h) ?_
  exact IL G9 ⟨none,⟨fun _=>rfl,fun m h=>by cases h⟩,rfl,rfl⟩
 | false=>
  repeat' (first|refine IT ?_|refine IF a5 G9 ?_|refine FS (d:=5) a5 rfl rfl fun _=>?_|refine bK rfl ?_)
  rename_i b5
  refine la a5 0 rfl rfl rfl rfl (uF rfl rfl) rfl (Nat.zero_le _) (Nat.le_refl _) (Nat.zero_le _) (by rw [hml];unfold maxLen;omega) (by rw [hml];omega) rfl fun b' cs' cap' e1 e2 e3 e4 e5=>?_
  repeat' (first|refine IT ?_|refine IF a5 G9 ?_)
  have hcs:cs'=bY run++cs'.drop (run.length * 6):=by
   conv=>lhs;rw [←List.take_append_drop (run.length * 6) cs']
   rw [Nat.zero_add,hml] at e2
   rw [e2]
   rfl
  refine IL G9 ⟨some ⟨b',cap',cs'.drop (run.length * 6)⟩,⟨fun h=>(by cases h),fun m hm=>?_⟩,?_,?_⟩
  ·cases hm
   dsimp only
   rw [←hcs]
   exact ⟨by omega,e4,e1⟩
  ·unfold ey
   dsimp only
   rw [Nat.zero_add,hml]
  ·unfold nI
   dsimp only
   rw [←hcs]
   rfl
theorem py {R:List aM}:∀{l:List Nat},R.length≤(fj l R).length+l.length
 | []=>by simp [fj]
 | z::l=>by
  have:=py (R:=R) (l:=l)
  have h2:(fj l R).length≤((fj l R).eraseIdx z).length+1:=by rw [List.length_eraseIdx];split <;> omega
  rw [fj,List.length_cons]
  omega
theorem xh {run:List aM} {p:Nat} {q:List Nat} (h:oA run (p::q)):p+q.length≤(p::q).getLastD p∧(p::q).getLastD p < run.length∧(q≠[]↔p < (p::q).getLastD p):=by
  have key:∀(q:List Nat) (p:Nat),(p::q).Pairwise (· < ·)→p+q.length≤(p::q).getLast (by simp):=by
    intro q
    induction q with
    | nil=>intro p _;simp
    | cons a q ih=>
      intro p hp
      obtain ⟨h1,h2⟩:=List.pairwise_cons.1 hp
      have:=ih a h2
      have:=h1 a (by simp)
      rw [List.getLast_cons (by simp),List.length_cons]
      omega
  have hk:=key q p h.inc
  have he:(p::q).getLastD p=(p::q).getLast (by simp):=by rw [List.getLastD_eq_getLast?,List.getLast?_eq_some_getLast (by simp)];rfl
  rw [he]
  refine ⟨hk,h.lt _ (List.getLast_mem _),fun hq=>?_,fun hq e=>?_⟩
  · have:0 < q.length:=List.length_pos_iff.2 hq
    omega
  · subst e
    simp at hq
theorem qy {l:aN} {r:bb} {run:List aM} {p:Nat} {q:List Nat} (h:oA run (p::q)):run.length - 1 - (p::q).getLastD p≤(fN l r (p::q) run).length:=by
 obtain ⟨h1,h2,_⟩:=xh h
 unfold fN
 split
 ·unfold ge;split <;> (try split) <;> (try split) <;> (try rw [List.length_set]) <;> omega
 split
 ·unfold iu
  split
  ·omega
  ·split
   ·omega
   ·simp only [List.length_append,List.length_take,List.length_drop,Jz,List.headD_cons]
    omega
 split
 ·unfold mw
  split
  ·rename_i heq _
   cases heq
   split
   ·rename_i x hx
    have key:∀y:aM,run.length - 1 - (p::q).getLastD p≤(fj q (run.set p y)).length:=fun y=>by
     have:=py (R:=run.set p y) (l:=q)
     rw [List.length_set] at this
     omega
    exact key _
   ·omega
  ·omega
 split
 ·unfold rI;split <;> (try rw [List.length_set]) <;> omega
 ·omega
theorem AA {ms:List Bool} {ls:List aN} {k:Nat} {l:aN} (hk:l.Kind≠4) {r:bb} {run:List aM} {p:Nat} {q:List Nat} (h:oA run (p::q)):run.length - 1 - (p::q).getLastD p≤(iV ms ls k l r (p::q) run).length:=by
 cases k with
 | zero=>rw [iV];exact qy h
 | succ k=>rw [iV];dsimp only;rw [if_neg hk];exact qy h
end Go.Proofs.YtpmdfoaadejmkaaGreatDoor
