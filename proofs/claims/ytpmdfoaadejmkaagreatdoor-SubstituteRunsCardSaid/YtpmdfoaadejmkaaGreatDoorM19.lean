/-
  What an engine's rules do with a run: all but chains.
-/
import Derived.Test.YtpmdfoaadejmkaaGreatDoorM18
import Derived.Test.YtpmdfoaadejmkaaGreatDoorM14
import Derived.Test.YtpmdfoaadejmkaaGreatDoorM15
namespace Go.Proofs.YtpmdfoaadejmkaaGreatDoor
open Go.RowKit
attribute [local irreducible] AT bK AX AO Av Kt bh dw DA cK
section
variable {P:Program} {tt:TT} {l:List Oper} {fr:c8} {fin:jO} {sk:mE} {acc:c8} {L:AL} {k:Nat} {dd:Option Tmp} {ty t t':TypeId} {pos:String} {af:Array Edge} {g:Option (Nat×Bool)} {x y:Operand} {u:AV}
theorem GA {q:IntKind} {a b:Int} (hx:bo (cC l.toArray acc fr af.toList) x=some (.sc (.int q a))) (hy:bo (cC l.toArray acc fr af.toList) y=some (.sc (.int q b))) (hg:iV ⟨dd,.binOp .add t x y t',ty,pos,af,g⟩ acc) (h:DA P l fr fin sk ((k,.sc (.int q (q.wrap (a+b))))::acc) L):cK P l fr fin k .v ⟨dd,.binOp .add t x y t',ty,pos,af,g⟩ sk acc L:=fa hg (zP (AS hx hy)) h
end
structure mI (run:List aI) (ps:List Nat):Prop where
  some_:ps≠[]
  lt:∀j∈ps,j < run.length
  inc:ps.Pairwise (· < ·)
structure jQ (r:bc):Prop where
 some_:r.In≠[]
 out:r.Out.length≤1000000
 calls:r.Calls.length≤1000000
 at_:∀c∈r.Calls,0≤c.At∧c.At≤1000000
abbrev jZ (wb:Nat) (e:pj) (r:bc) (ps:List Nat) (deep:Nat):List AV:=[g9 wb,.iptr (fB e),.iptr (bB (eZ r)),.imm 1 (bY ps),aF deep]
def gE (wb:Nat) (E:pk) (run':List aI):AV→AL→Prop:=fun _ L=>∃q',dV q' run'∧L=jm wb E q' run'
section
variable {E:pk} {wb:Nat} {m:ge} {run:List aI} (hq:dV (some m) run) (hr:run.length≤1000000) {e:pj} {r:bc} (hro:jQ r) {ps:List Nat} (hps:mI run ps) (deep:Nat)
include hq hr hro hps
set_option maxHeartbeats 4000000 in
theorem Jb (hk:e.l.Kind=2):AC Tryz.prog 103 (jZ wb e r ps deep) (jm wb E (some m) run) (gE wb E (dW e.l r ps run)):=by
 obtain ⟨⟨kd,ig,rs⟩,cls,fo,ba,fe,be⟩:=e
 dsimp only at hk
 subst hk
 obtain ⟨p,q,rfl⟩:=List.exists_cons_of_ne_nil hps.some_
 have hpl:=hps.lt p (by simp)
 obtain ⟨x,hx⟩:∃x,run[p]?=some x:=⟨_,Hb hpl⟩
 have hp0:(bY (p::q))[(0:Int).toNat]?=some [aF p]:=rfl
 have hm:=CD E wb m run hq hr p x hx r hro.out
 refine aN Tryz.func103 rfl Tryz.ntmps103 rfl fun B=>?_
 repeat' (first|refine JU ?_|refine am ?_|refine JG a5 JA ?_|(apply aL;first|refine aK a5 ?_|refine aG a5 ?_)|refine bD rfl ?_|refine bC rfl ?_)
 refine b9 (jm wb E (some m) run) [] hm rfl rfl (by rw [List.append_nil]) rfl fun c L1 ⟨q',h1,h2⟩=>?_
 subst h2
 repeat' (first|refine JU ?_|fail)
 exact cH rfl ⟨q',h1,by rw [List.append_nil];rfl⟩
set_option maxHeartbeats 4000000 in
theorem Ja (hk:e.l.Kind=1):AC Tryz.prog 103 (jZ wb e r ps deep) (jm wb E (some m) run) (gE wb E (dW e.l r ps run)):=by
 have _:=hr
 obtain ⟨⟨kd,ig,rs⟩,cls,fo,ba,fe,be⟩:=e
 dsimp only at hk
 subst hk
 obtain ⟨p,q,rfl⟩:=List.exists_cons_of_ne_nil hps.some_
 have hpl:=hps.lt p (by simp)
 obtain ⟨x,hx⟩:∃x,run[p]?=some x:=⟨_,Hb hpl⟩
 have hp0:(bY (p::q))[(0:Int).toNat]?=some [aF p]:=rfl
 obtain ⟨i0,is,hin⟩:=List.exists_cons_of_ne_nil hro.some_
 have hin0:(b6 (eZ r).In)[(0:Int).toNat]?=some [.imm 1 (aW i0)]:=by
  show (b6 r.In)[0]?=_
  rw [hin]
  rfl
 have hsv:dW ⟨1,ig,rs⟩ r (p::q) run=dt r p run:=rfl
 rw [hsv]
 have hsg:dt r p run=match r.Out[i0.idxOf x.Glyph]? with
   | none=>run
   | some g=>if i0.idxOf x.Glyph < i0.length then run.set p { x with Glyph:=g } else run:=by
  unfold dt
  rw [hx,hin]
  rfl
 have hol:=aZ r.Out
 have h0:=oL (j:=0) m.junk hx rfl
 obtain ⟨g1,g2,g3⟩:=hq.fit m rfl
 have hfl:=dl run
 refine aN Tryz.func103 rfl Tryz.ntmps103 rfl fun B=>?_
 repeat' (first|refine JU ?_|refine am ?_|refine JG a5 JA ?_|(apply aL;first|refine aK a5 ?_|refine aG a5 ?_)|refine bD rfl ?_)
 refine br 15 [(0,.v),(1,.v),(2,.v),(3,.v),(4,.v),(5,.v),(6,.v),(7,.v),(8,.v),(9,.l),(10,.v),(11,.v),(12,.v),(13,.l),(14,.v)] none ?_ trivial rfl (by kernel_rfl) (by kernel_rfl) (by kernel_rfl) bQ (by kernel_rfl) rfl
 repeat' (first|refine aD ?_|refine b8 a5 ?_|(apply bW;refine ci a5 ?_)|refine ce a5 0 rfl rfl rfl rfl (by first|trivial|rfl) ?_)
 refine dk a5 rfl rfl rfl ⟨by omega,by omega⟩ trivial ?_
 repeat' (first|refine aD ?_|refine b8 a5 ?_|fail)
 refine ce a5 1 rfl rfl rfl h0 trivial ?_
 repeat' (first|refine aD ?_|(apply cW;refine du ?_)|fail)
 refine JQ [0,2,10,37] JA ?_
 repeat' (first|refine JU ?_|refine a7 ?_|refine JG a5 JA ?_)
 have hst:(eZ r).Out=r.Out:=rfl
 generalize hn:(if x.Glyph∈i0 then ((i0.idxOf x.Glyph:Nat):Int) else -1)=n
 refine bX [0,2,10,11] (0≤n∧n < r.Out.length) rfl (fun Q' K=>?_) (fun hC=>?_) (fun hC=>?_)
 ·repeat' (first|refine JU ?_|refine JG a5 JA ?_|refine JO JA ?_|refine JP JC ?_|refine JS JB (fun _=>?_) (fun _=>?_))
  all_goals exact K _ _ rfl rfl (by rw [hst,hol] at *;simp_all <;> omega)
 ·have hm:x.Glyph∈i0:=Classical.byContradiction fun hm=>by rw [if_neg hm] at hn;omega
  rw [if_pos hm] at hn
  subst hn
  have hlt:i0.idxOf x.Glyph < r.Out.length:=by omega
  obtain ⟨g,hg⟩:∃g,r.Out[i0.idxOf x.Glyph]?=some g:=⟨_,Hb hlt⟩
  have hgg:(aW (eZ r).Out)[((i0.idxOf x.Glyph:Nat):Int).toNat]?=some [aF g]:=by rw [Int.toNat_natCast];exact bO hg
  rw [hg] at hsg
  dsimp only at hsg
  rw [if_pos (List.idxOf_lt_length_of_mem hm)] at hsg
  rw [hsg]
  have hst:=kY (j:=0) { x with Glyph:=g } (aF g) m.junk hx (by omega) rfl
  repeat' (first|fail)
  refine br 12 [(0,.v),(1,.v),(2,.v),(3,.l),(4,.v),(5,.v),(6,.v),(7,.v),(8,.v),(9,.v),(10,.v),(11,.v)] none ?_ trivial rfl (by kernel_rfl) (by kernel_rfl) (by kernel_rfl) bQ (by kernel_rfl) rfl
  repeat' (first|refine aD ?_|refine b8 a5 ?_|(apply bW;refine ci a5 ?_)|refine ce a5 0 rfl rfl rfl rfl (by first|trivial|rfl) ?_)
  refine JQ [52,53,60] JA ?_
  repeat' (first|refine JG a5 JA ?_|(apply aL;first|refine aK a5 ?_|refine aG a5 ?_)|fail)
  refine aa a5 1 rfl rfl rfl rfl rfl rfl (Nat.ble_eq_true_of_le (by rw [Int.toNat_natCast];simp;omega)) ?_
  rw [hst]
  repeat' (first|refine JU ?_|fail)
  exact cH rfl ⟨some m,hq.set p _,pD⟩
 ·have hsg2:dt r p run=run:=by
   rw [hsg]
   split
   ·rfl
   ·rename_i g hg
    rw [if_neg]
    intro h
    rw [if_pos (List.idxOf_lt_length_iff.1 h)] at hn
    have:=(Jq hg).1
    omega
  rw [hsg2]
  repeat' (first|refine JU ?_|fail)
  exact cH rfl ⟨some m,hq,rfl⟩
set_option maxHeartbeats 4000000 in
theorem Jd (hk:e.l.Kind=5):AC Tryz.prog 103 (jZ wb e r ps deep) (jm wb E (some m) run) (gE wb E (dW e.l r ps run)):=by
 have _:=hr
 obtain ⟨⟨kd,ig,rs⟩,cls,fo,ba,fe,be⟩:=e
 dsimp only at hk
 subst hk
 obtain ⟨p,q,rfl⟩:=List.exists_cons_of_ne_nil hps.some_
 have hpl:=hps.lt p (by simp)
 obtain ⟨x,hx⟩:∃x,run[p]?=some x:=⟨_,Hb hpl⟩
 have hp0:(bY (p::q))[(0:Int).toNat]?=some [aF p]:=rfl
 obtain ⟨i0,is,hin⟩:=List.exists_cons_of_ne_nil hro.some_
 have hin0:(b6 (eZ r).In)[(0:Int).toNat]?=some [.imm 1 (aW i0)]:=by
  show (b6 r.In)[0]?=_
  rw [hin]
  rfl
 have hsv:dW ⟨5,ig,rs⟩ r (p::q) run=dt r p run:=rfl
 rw [hsv]
 have hsg:dt r p run=match r.Out[i0.idxOf x.Glyph]? with
   | none=>run
   | some g=>if i0.idxOf x.Glyph < i0.length then run.set p { x with Glyph:=g } else run:=by
  unfold dt
  rw [hx,hin]
  rfl
 have hol:=aZ r.Out
 have h0:=oL (j:=0) m.junk hx rfl
 obtain ⟨g1,g2,g3⟩:=hq.fit m rfl
 have hfl:=dl run
 refine aN Tryz.func103 rfl Tryz.ntmps103 rfl fun B=>?_
 repeat' (first|refine JU ?_|refine am ?_|refine JG a5 JA ?_|(apply aL;first|refine aK a5 ?_|refine aG a5 ?_)|refine bD rfl ?_|refine bC rfl ?_)
 refine br 15 [(0,.v),(1,.v),(2,.v),(3,.v),(4,.v),(5,.v),(6,.v),(7,.v),(8,.v),(9,.l),(10,.v),(11,.v),(12,.v),(13,.l),(14,.v)] none ?_ trivial rfl (by kernel_rfl) (by kernel_rfl) (by kernel_rfl) bQ (by kernel_rfl) rfl
 repeat' (first|refine aD ?_|refine b8 a5 ?_|(apply bW;refine ci a5 ?_)|refine ce a5 0 rfl rfl rfl rfl (by first|trivial|rfl) ?_)
 refine dk a5 rfl rfl rfl ⟨by omega,by omega⟩ trivial ?_
 repeat' (first|refine aD ?_|refine b8 a5 ?_|fail)
 refine ce a5 1 rfl rfl rfl h0 trivial ?_
 repeat' (first|refine aD ?_|(apply cW;refine du ?_)|fail)
 refine JQ [0,2,10,37] JA ?_
 repeat' (first|refine JU ?_|refine a7 ?_|refine JG a5 JA ?_)
 have hst:(eZ r).Out=r.Out:=rfl
 generalize hn:(if x.Glyph∈i0 then ((i0.idxOf x.Glyph:Nat):Int) else -1)=n
 refine bX [0,2,10,11] (0≤n∧n < r.Out.length) rfl (fun Q' K=>?_) (fun hC=>?_) (fun hC=>?_)
 ·repeat' (first|refine JU ?_|refine JG a5 JA ?_|refine JO JA ?_|refine JP JC ?_|refine JS JB (fun _=>?_) (fun _=>?_))
  all_goals exact K _ _ rfl rfl (by rw [hst,hol] at *;simp_all <;> omega)
 ·have hm:x.Glyph∈i0:=Classical.byContradiction fun hm=>by rw [if_neg hm] at hn;omega
  rw [if_pos hm] at hn
  subst hn
  have hlt:i0.idxOf x.Glyph < r.Out.length:=by omega
  obtain ⟨g,hg⟩:∃g,r.Out[i0.idxOf x.Glyph]?=some g:=⟨_,Hb hlt⟩
  have hgg:(aW (eZ r).Out)[((i0.idxOf x.Glyph:Nat):Int).toNat]?=some [aF g]:=by rw [Int.toNat_natCast];exact bO hg
  rw [hg] at hsg
  dsimp only at hsg
  rw [if_pos (List.idxOf_lt_length_of_mem hm)] at hsg
  rw [hsg]
  have hst:=kY (j:=0) { x with Glyph:=g } (aF g) m.junk hx (by omega) rfl
  repeat' (first|fail)
  refine br 12 [(0,.v),(1,.v),(2,.v),(3,.l),(4,.v),(5,.v),(6,.v),(7,.v),(8,.v),(9,.v),(10,.v),(11,.v)] none ?_ trivial rfl (by kernel_rfl) (by kernel_rfl) (by kernel_rfl) bQ (by kernel_rfl) rfl
  repeat' (first|refine aD ?_|refine b8 a5 ?_|(apply bW;refine ci a5 ?_)|refine ce a5 0 rfl rfl rfl rfl (by first|trivial|rfl) ?_)
  refine JQ [52,53,60] JA ?_
  repeat' (first|refine JG a5 JA ?_|(apply aL;first|refine aK a5 ?_|refine aG a5 ?_)|fail)
  refine aa a5 1 rfl rfl rfl rfl rfl rfl (Nat.ble_eq_true_of_le (by rw [Int.toNat_natCast];simp;omega)) ?_
  rw [hst]
  repeat' (first|refine JU ?_|fail)
  exact cH rfl ⟨some m,hq.set p _,pD⟩
 ·have hsg2:dt r p run=run:=by
   rw [hsg]
   split
   ·rfl
   ·rename_i g hg
    rw [if_neg]
    intro h
    rw [if_pos (List.idxOf_lt_length_iff.1 h)] at hn
    have:=(Jq hg).1
    omega
  rw [hsg2]
  repeat' (first|refine JU ?_|fail)
  exact cH rfl ⟨some m,hq,rfl⟩
set_option maxHeartbeats 4000000 in
theorem Jc (hk:e.l.Kind=3):AC Tryz.prog 103 (jZ wb e r ps deep) (jm wb E (some m) run) (gE wb E (dW e.l r ps run)):=by
 have _:=hro
 obtain ⟨⟨kd,ig,rs⟩,cls,fo,ba,fe,be⟩:=e
 dsimp only at hk
 subst hk
 obtain ⟨p,q,rfl⟩:=List.exists_cons_of_ne_nil hps.some_
 have hpl:=hps.lt p (by simp)
 obtain ⟨x,hx⟩:∃x,run[p]?=some x:=⟨_,Hb hpl⟩
 have hp0:(bY (p::q))[(0:Int).toNat]?=some [aF p]:=rfl
 have hol:=aZ (eZ r).Out
 have hst:(eZ r).Out=r.Out:=rfl
 rw [hst] at hol
 refine aN Tryz.func103 rfl Tryz.ntmps103 rfl fun B=>?_
 repeat' (first|refine JU ?_|refine am ?_|refine JG a5 JA ?_|(apply aL;first|refine aK a5 ?_|refine aG a5 ?_)|refine bD rfl ?_|refine bC rfl ?_)
 refine ar rfl (fun h=>?_) (fun h=>?_)
 ·have hne:r.Out≠[]:=fun e=>by rw [hst,e] at h;cases h
  obtain ⟨g,gs,hg⟩:=List.exists_cons_of_ne_nil hne
  have hj:=EH E wb m run hq hr p q hps.lt hps.inc x hx r g gs hg
  have hg0:(aW (eZ r).Out)[(0:Int).toNat]?=some [aF g]:=by rw [hst,hg];rfl
  clear h
  repeat' (first|refine JU ?_|refine JG a5 JA ?_|(apply aL;first|refine aK a5 ?_|refine aG a5 ?_)|fail)
  refine b9 (jm wb E (some m) run) [] hj rfl rfl (by rw [List.append_nil]) rfl fun c L1 ⟨q',h1,h2⟩=>?_
  subst h2
  repeat' (first|refine JU ?_|fail)
  exact cH rfl ⟨q',h1,by rw [List.append_nil];rfl⟩
 ·have hz:r.Out=[]:=List.eq_nil_of_length_eq_zero (by have:=Jy h;rw [hst] at this;omega)
  have hsv:dW ⟨3,ig,rs⟩ r (p::q) run=run:=by
   show gA r (p::q) run=run
   unfold gA
   rw [hz]
  rw [hsv]
  repeat' (first|refine JU ?_|fail)
  exact cH rfl ⟨some m,hq,rfl⟩
set_option maxHeartbeats 4000000 in
theorem Je (hk:e.l.Kind=6):AC Tryz.prog 103 (jZ wb e r ps deep) (jm wb E (some m) run) (gE wb E (dW e.l r ps run)):=by
 have _:=hr
 have _:=hro
 obtain ⟨⟨kd,ig,rs⟩,cls,fo,ba,fe,be⟩:=e
 dsimp only at hk
 subst hk
 obtain ⟨p,q,rfl⟩:=List.exists_cons_of_ne_nil hps.some_
 have hpl:=hps.lt p (by simp)
 obtain ⟨x,hx⟩:∃x,run[p]?=some x:=⟨_,Hb hpl⟩
 have hp0:(bY (p::q))[(0:Int).toNat]?=some [aF p]:=rfl
 have hsv:dW ⟨6,ig,rs⟩ r (p::q) run=run.set p { x with Advance:=IntKind.i64.wrap (x.Advance+r.X) }:=by
  show kD r p run=_
  unfold kD
  rw [hx]
 rw [hsv]
 have h3:=oL (j:=3) m.junk hx rfl
 have hst:=kY (j:=3) { x with Advance:=IntKind.i64.wrap (x.Advance+r.X) } (aF (IntKind.i64.wrap (x.Advance+r.X))) m.junk hx (by omega) rfl
 obtain ⟨g1,g2,g3⟩:=hq.fit m rfl
 have hfl:=dl run
 refine aN Tryz.func103 rfl Tryz.ntmps103 rfl fun B=>?_
 repeat' (first|refine JU ?_|refine am ?_|refine JG a5 JA ?_|(apply aL;first|refine aK a5 ?_|refine aG a5 ?_)|refine bD rfl ?_|refine bC rfl ?_)
 refine br 13 [(0,.v),(1,.v),(2,.v),(3,.l),(4,.v),(5,.v),(6,.v),(7,.l),(8,.v),(9,.v),(10,.v),(11,.v),(12,.v)] none ?_ trivial rfl (by kernel_rfl) (by kernel_rfl) (by kernel_rfl) bQ (by kernel_rfl) rfl
 repeat' (first|refine aD ?_|refine b8 a5 ?_|refine ce a5 0 rfl rfl rfl rfl (by first|trivial|rfl) ?_)
 refine dk a5 rfl rfl rfl ⟨by omega,by omega⟩ trivial ?_
 repeat' (first|refine aD ?_|refine b8 a5 ?_|fail)
 refine ce a5 1 rfl rfl rfl h3 trivial ?_
 repeat' (first|refine aD ?_|refine b8 a5 ?_|fail)
 refine GA rfl rfl trivial ?_
 repeat' (first|fail)
 refine JQ [107,108,116] JA ?_
 repeat' (first|refine JG a5 JA ?_|(apply aL;first|refine aK a5 ?_|refine aG a5 ?_)|fail)
 refine aa a5 1 rfl rfl rfl rfl rfl rfl (Nat.ble_eq_true_of_le (by rw [Int.toNat_natCast];simp;omega)) ?_
 have hsx:(eZ r).X=r.X:=rfl
 rw [hsx,hst]
 repeat' (first|refine JU ?_|fail)
 exact cH rfl ⟨some m,hq.set p _,pD⟩
end
end Go.Proofs.YtpmdfoaadejmkaaGreatDoor
namespace Go.Proofs.YtpmdfoaadejmkaaGreatDoor
open Go.RowKit
attribute [local irreducible] AT bK AX AO Av Kt bh dw DA cK
structure lS (E:pk):Prop where
 auto:∀e∈E.lks,1≤e.l.Kind→e.l.Kind≤6→kM e
 rule:∀e∈E.lks,∀r∈e.l.Rules,r.In≠[]→jQ r
abbrev pk.ls (E:pk):List aO:=E.lks.map (·.l)
theorem sA {ms:List Bool} {ig:Bool} {run:List aI} {i:Nat} (hi:i < run.length) {n:Int} (h0:0≤n):kI ms ig run i n=if eY ms ig run i=true then (if n=0 then some i else kI ms ig run (i+1) (n - 1)) else kI ms ig run (i+1) n:=by
 unfold kI
 rw [if_pos h0,iD hi]
 split
 ·split
  ·rename_i hn
   subst hn
   rfl
  ·rw [if_pos (by omega),show n.toNat=(n - 1).toNat+1 by omega,List.getElem?_cons_succ]
 ·rfl
theorem vc {ms:List Bool} {ig:Bool} {run:List aI} {i:Nat} (hi:run.length≤i) (n:Int):kI ms ig run i n=none:=by
 unfold kI
 rw [o7 hi]
 split <;> simp
theorem EQ {ms:List Bool} {ig:Bool} {run:List aI} {i:Nat} {n:Int} {j:Nat} (h:kI ms ig run i n=some j):j < run.length:=by
 unfold kI at h
 split at h
 ·exact (qp j (Jx h)).2.1
 ·cases h
theorem zq {ms:List Bool} {ig:Bool} {run:List aI} {i:Nat}:(cI ms ig run i).Pairwise (· < ·):=by
  unfold cI
  exact List.Pairwise.filter _ (List.pairwise_lt_range' ..)
theorem zW {ms:List Bool} {l:aO} {run:List aI} {i:Nat} {forms:List Int} {r:bc} (h:dS ms l run i forms=some r):mI run (cU ms l run i r)∧r∈l.Rules∧r.In≠[]∧i < run.length∧(cU ms l run i r).head?=some i:=by
 unfold dS at h
 split at h
 ·rename_i hb
  have hm:=List.mem_of_find?_eq_some h
  obtain ⟨h1,h2⟩:=lq (List.find?_some h)
  unfold gh at hb
  split at hb
  ·rename_i x hx
   have hil:=(Jq hx).1
   rw [Bool.and_eq_true] at hb
   have hs:eY ms l.Ignore run i=true:=by rw [jH hx];exact hb.1
   have hf:cI ms l.Ignore run i=i::cI ms l.Ignore run (i+1):=by rw [iD hil,if_pos hs]
   obtain ⟨n,hn⟩:∃n,r.In.length=n+1:=⟨r.In.length - 1,by omega⟩
   have hp:cU ms l run i r=i::(cI ms l.Ignore run (i+1)).take n:=by unfold cU;rw [hf,hn,List.take_succ_cons]
   refine ⟨⟨by rw [hp];simp,fun j hj=>(qp j (List.mem_of_mem_take hj)).2.1,?_⟩,hm,fun e=>by rw [e] at h1;simp at h1,hil,by rw [hp];rfl⟩
   exact zq.sublist (List.take_sublist ..)
  ·cases hb
 ·cases h
def fN (a b:Nat):Prop:=b≤max a 500
theorem oo {l:aO} {r:bc} {ps:List Nat} {run:List aI}:fN run.length (dW l r ps run).length:=by
 unfold dW fN
 split
 ·unfold dt;split <;> (try split) <;> (try split) <;> (try rw [List.length_set]) <;> omega
 split
 ·unfold eH
  split
  ·omega
  ·split
   ·omega
   ·rename_i x hx hh
    have:=(Jq hx).1
    simp only [List.length_append,List.length_take,List.length_drop,Jv]
    omega
 split
 ·unfold gA
  split
  ·split
   ·refine Nat.le_trans lE.length_le ?_
    rw [List.length_set];omega
   ·omega
  ·omega
 split
 ·unfold kD;split <;> (try rw [List.length_set]) <;> omega
 ·omega
theorem fN.trans {a b c:Nat} (h:fN a b) (k:fN b c):fN a c:=by unfold fN at *;omega
theorem nV {ms:List Bool} {ls:List aO} {d:Ii} (hd:∀l r ps run,fN run.length (d l r ps run).length) {n:Int} {i:Nat} {run:List aI}:fN run.length (i3 ms ls d n i run).length:=by
 unfold i3
 split
 ·unfold fN;omega
 ·split
  ·unfold fN;omega
  ·split
   ·unfold fN;omega
   ·split
    ·unfold fN;omega
    ·exact hd ..
theorem ie {ms:List Bool} {ls:List aO}:∀(k:Nat) (l:aO) (r:bc) (ps:List Nat) (run:List aI),fN run.length (fT ms ls k l r ps run).length
 | 0,_,_,_,_=>oo
 | k+1,l,r,ps,run=>by
  unfold fT
  split
  ·have key:∀(cs:List gQ) (run:List aI),fN run.length (cs.foldl (fK ms ls (fT ms ls k) l.Ignore (ps.headD 0)) run).length:=by
    intro cs
    induction cs with
    | nil=>intro run;unfold fN;simp;omega
    | cons c cs ih=>
     intro run
     rw [List.foldl_cons]
     refine fN.trans ?_ (ih _)
     unfold fK
     split
     ·unfold fN;omega
     ·exact nV (ie k)
   exact key _ _
  ·exact oo
theorem fN.big {a b:Nat} (h:fN a b) (ha:a≤1000000):b≤1000000:=by unfold fN at h;omega
section
variable {E:pk} (hE:lS E) (wb:Nat)
def Hf (E:pk) (wb deep k:Nat):Prop:=∀(e:pj) (r:bc) (ps:List Nat) (q:Option ge) (run:List aI),e∈E.lks→1≤e.l.Kind→e.l.Kind≤6→jQ r→mI run ps→dV q run→run.length≤1000000→
 AC Tryz.prog 103 (jZ wb e r ps deep) (jm wb E q run) (gE wb E (fT E.ms E.ls k e.l r ps run))
def vM (E:pk) (wb deep k:Nat):Prop:=∀(n:Int) (i:Nat) (q:Option ge) (run:List aI),i < run.length→dV q run→run.length≤1000000→
 AC Tryz.prog 261 [g9 wb,aF n,aF i,aF deep] (jm wb E q run) (gE wb E (i3 E.ms E.ls (fT E.ms E.ls k) n i run))
theorem rV (E:pk):(E.lks.map fB).length=E.lks.length:=by simp
include hE in
set_option maxHeartbeats 4000000 in
theorem E4 {deep k:Nat} (hd:deep≤4) (hdo:Hf E wb deep k):vM E wb deep k:=by
 intro n i q run hi hq hr
 refine aN Tryz.func261 rfl Tryz.ntmps261 rfl fun B=>?_
 have hll:=rV E
 repeat' (first|refine JU ?_|refine JG a5 JA ?_)
 refine bX [0,1,2,3] (n < 0∨(E.lks.length:Int)≤n) rfl (fun Q' K=>?_) (fun hC=>?_) (fun hC=>?_)
 ·repeat' (first|refine JU ?_|refine JG a5 JA ?_|refine JO JA ?_|refine JP JC ?_|(apply bF;first|refine JJ a5 0 JD ?_|refine JJ a5 1 JD ?_|refine JJ a5 2 JD ?_|refine JJ a5 3 JD ?_|refine JK a5 0 JD ?_|refine JK a5 1 JD ?_|refine JK a5 2 JD ?_|refine JL a5 1 JB (by assumption) rfl ?_|refine JL a5 0 JB (by assumption) rfl ?_|fail)|refine JS JB (fun _=>?_) (fun _=>?_))
  all_goals exact K _ _ rfl rfl (by simp_all <;> omega)
 ·have hv:i3 E.ms E.ls (fT E.ms E.ls k) n i run=run:=by
   unfold i3
   by_cases h0:n < 0
   ·rw [if_pos h0]
   ·rw [if_neg h0,List.getElem?_eq_none (by rw [Jv];omega)]
  rw [hv]
  repeat' (first|refine JU ?_|fail)
  exact pt rfl ⟨q,hq,rfl⟩
 obtain ⟨e,he⟩:∃e,E.lks[n.toNat]?=some e:=⟨_,Hb (by omega)⟩
 have heg:(E.lks.map fB)[n.toNat]?=some (fB e):=by simp [he]
 have hem:=Jx he
 have hcv:i3 E.ms E.ls (fT E.ms E.ls k) n i run=if e.l.Kind < 1∨4 < e.l.Kind then run else match dS E.ms e.l run i [] with
   | none=>run
   | some r=>fT E.ms E.ls k e.l r (cU E.ms e.l run i r) run:=by
  unfold i3
  rw [if_neg (by omega),List.getElem?_map,he]
  rfl
 repeat' (first|refine JU ?_|refine JG a5 JA ?_|(apply bF;first|refine JJ a5 0 JD ?_|refine JJ a5 1 JD ?_|refine JJ a5 2 JD ?_|refine JJ a5 3 JD ?_|refine JK a5 0 JD ?_|refine JK a5 1 JD ?_|refine JK a5 2 JD ?_|refine JL a5 1 JB (by assumption) rfl ?_|refine JL a5 0 JB (by assumption) rfl ?_|fail)|(apply aL;first|refine aK a5 ?_|refine aG a5 ?_)|fail)
 refine bX [0,2,3,8] (e.l.Kind < 1∨4 < e.l.Kind) rfl (fun Q' K=>?_) (fun hC2=>?_) (fun hC2=>?_)
 ·repeat' (first|refine JU ?_|refine JG a5 JA ?_|refine JO JA ?_|refine JP JC ?_|refine JS JB (fun _=>?_) (fun _=>?_))
  all_goals exact K _ _ rfl rfl (by simp_all <;> omega)
 ·rw [if_pos hC2] at hcv
  rw [hcv]
  repeat' (first|refine JU ?_|fail)
  exact pt rfl ⟨q,hq,rfl⟩
 rw [if_neg hC2] at hcv
 rw [hcv]
 have hau:=hE.auto e hem (by omega) (by omega)
 have hma:=AC.args (a:=[g9 wb,.iptr (fB e),aF i,.sc (.slice none 0 0)]) (qL E e hau wb q run hq hr i (by omega) []) ⟨cY.refl _,cY.refl _,cY.refl _,cY.nil 1,trivial⟩
 repeat' (first|refine JU ?_|refine JG a5 JA ?_)
 refine b9 (jm wb E q run) [] hma rfl rfl (by rw [List.append_nil]) rfl fun c L1 ⟨hc,hL⟩=>?_
 subst hc;subst hL
 unfold lf
 cases hmv:dS E.ms e.l run i [] with
 | none=>
  dsimp only
  repeat' (first|refine JU ?_|refine JG a5 JA ?_)
  refine tE Tryz.underlying190 rfl rfl rfl rfl ?_
  repeat' (first|refine JU ?_|refine bC rfl ?_)
  exact cH rfl ⟨q,hq,by rw [List.append_nil]⟩
 | some r=>
  dsimp only
  obtain ⟨hps,hrm,hin,_,_⟩:=zW hmv
  have hdc:=hdo e r (cU E.ms e.l run i r) q run hem (by omega) (by omega) (hE.rule e hem r hrm hin) hps hq hr
  repeat' (first|refine JU ?_|refine JG a5 JA ?_)
  refine tE Tryz.underlying190 rfl rfl rfl rfl ?_
  repeat' (first|refine JU ?_|refine JG a5 JA ?_|refine bD rfl ?_)
  refine b9 (jm wb E q run) [] hdc rfl rfl (by rw [List.append_nil]) rfl fun c L1 ⟨q',h1,h2⟩=>?_
  subst h2
  repeat' (first|refine JU ?_|fail)
  exact cH rfl ⟨q',h1,by rw [List.append_nil]⟩
set_option maxHeartbeats 4000000 in
theorem By {deep k:Nat} (hd:deep < 4) (hca:vM E wb (deep+1) k) (e:pj) (cs:List gQ) (hcs:cs.length≤1000000) (hca0:∀c∈cs,0≤c.At∧c.At≤1000000) (p:Nat) (hp:p≤1000000) (q:Option ge) (run:List aI) (hq:dV q run) (hr:run.length≤1000000):
  AC Tryz.prog 193 [g9 wb,.iptr (fB e),.imm 2 (cs.map eM),aF p,aF deep] (jm wb E q run) (gE wb E (cs.foldl (fK E.ms E.ls (fT E.ms E.ls k) e.l.Ignore p) run)):=by
 refine aN Tryz.func193 rfl Tryz.ntmps193 rfl fun B=>?_
 have hcl:(cs.map eM).length=cs.length:=by simp
 repeat' (first|fail)
 refine Bk ?_
 repeat' (first|refine JU ?_|refine am ?_|refine Bi ?_|refine JG a5 JA ?_)
 refine aP [0,1,3,4,14,15] (α:=Nat×Option ge×List aI) (fun s=>[(16,aF s.1)]) (fun s=>s.1≤cs.length∧dV s.2.1 s.2.2∧s.2.2.length≤1000000∧(cs.drop s.1).foldl (fK E.ms E.ls (fT E.ms E.ls k) e.l.Ignore p) s.2.2=cs.foldl (fK E.ms E.ls (fT E.ms E.ls k) e.l.Ignore p) run) (fun s=>jm wb E s.2.1 s.2.2) (fun s=>cs.length - s.1) (0,q,run) rfl ⟨rfl,trivial⟩ ⟨Nat.zero_le _,hq,hr,rfl⟩ (fun _ _ h=>h) ?_
 rintro ⟨n,q1,run1⟩ ⟨hn,hq1,hr1,hf⟩
 dsimp only at hn hq1 hr1 hf ⊢
 try dsimp only [Jt,Js,Jr,Kz]
 repeat' (first|refine JU ?_|refine JG a5 JA ?_)
 refine ar rfl (fun h=>?_) (fun h=>?_)
 ·have hn2:n < cs.length:=by have:=Jz h;omega
  obtain ⟨c,hc⟩:∃c,cs[n]?=some c:=⟨_,Hb hn2⟩
  have hcg:(cs.map eM)[n]?=some (eM c):=by simp [hc]
  obtain ⟨ha0,ha1⟩:=hca0 c (Jx hc)
  have hfd:(cs.drop (n+1)).foldl (fK E.ms E.ls (fT E.ms E.ls k) e.l.Ignore p) (fK E.ms E.ls (fT E.ms E.ls k) e.l.Ignore p run1 c)=cs.foldl (fK E.ms E.ls (fT E.ms E.ls k) e.l.Ignore p) run:=by
   rw [←hf,List.drop_eq_getElem_cons hn2,List.foldl_cons,(Jq hc).2]
  clear h
  repeat' (first|refine JU ?_|refine am ?_|refine JG a5 JA ?_|(apply aL;first|refine aK a5 ?_|refine aG a5 ?_)|(apply aM;first|refine JI 11 a5 0 JF ?_|refine JI 11 a5 1 JF ?_|refine JI 11 a5 2 JF ?_|refine JH a5 0 JE ?_|refine JH a5 1 JE ?_|refine JH a5 2 JE ?_|refine JH a5 3 JE ?_|fail)|refine bj a5 fun _=>?_|fail)
  refine aP [0,1,3,4,11,14,15,16] (α:=Nat×Int) (fun s=>[(13,aF s.1),(12,aF s.2)]) (fun s=>0≤s.2∧s.2≤1000000∧s.1≤1000000∧kI E.ms e.l.Ignore run1 p c.At=kI E.ms e.l.Ignore run1 s.1 s.2) (fun s=>jm wb E q1 run1) (fun s=>run1.length - s.1) (p,c.At) rfl ⟨rfl,rfl,trivial⟩ ⟨ha0,ha1,hp,rfl⟩ (fun _ _ h=>h) ?_
  rintro ⟨i,left⟩ ⟨hl0,hl1,hi1,hnth⟩
  dsimp only at hl0 hl1 hi1 hnth ⊢
  try dsimp only [Jt,Js,Jr,Kz]
  repeat' (first|refine JU ?_|refine JG a5 JA ?_|(apply bF;first|refine JJ a5 0 JD ?_|refine JJ a5 1 JD ?_|refine JJ a5 2 JD ?_|refine JJ a5 3 JD ?_|refine JK a5 0 JD ?_|refine JK a5 1 JD ?_|refine JK a5 2 JD ?_|refine JL a5 1 JB (by assumption) rfl ?_|refine JL a5 0 JB (by assumption) rfl ?_|fail)|fail)
  refine mp a5 rfl hq1 rfl rfl ?_
  repeat' (first|refine JU ?_|refine JG a5 JA ?_)
  refine ar rfl (fun h=>?_) (fun h=>?_)
  ·have hi2:i < run1.length:=by have:=Jz h;omega
   obtain ⟨m,rfl⟩:=hq1.lt hi2
   obtain ⟨x,hx⟩:∃x,run1[i]?=some x:=⟨_,Hb hi2⟩
   have hse:=tS E e wb m run1 i x hx
   have hst:=sA (ms:=E.ms) (ig:=e.l.Ignore) hi2 hl0
   rw [jH hx] at hst
   clear h
   repeat' (first|refine JU ?_|refine am ?_|refine JG a5 JA ?_)
   refine b9 (vJ wb (.iptr (ei E)) (some m) run1) [dP] hse rfl rfl (Jp _) rfl fun c1 L1 ⟨hc1,hL⟩=>?_
   subst hc1;subst hL
   repeat' (first|refine JU ?_|refine JG a5 JA ?_)
   refine ar rfl (fun hb=>?_) (fun hb=>?_)
   ·rw [if_neg (by simpa using hb)] at hst
    repeat' (first|refine JU ?_|refine JG a5 JA ?_|(apply aS;refine aQ ?_)|fail)
    exact aC (i+1,left) rfl ⟨by rw [Jw];rfl,rfl,trivial⟩ ⟨hl0,hl1,by dsimp only;omega,by rw [hnth,hst]⟩ (by dsimp only;omega) (fun _ _ h=>h)
   ·rw [if_pos (by simpa using hb)] at hst
    repeat' (first|refine JU ?_|refine JG a5 JA ?_)
    refine ar rfl (fun h0=>?_) (fun h0=>?_)
    ·have hz:=Jz h0
     subst hz
     rw [if_pos rfl] at hst
     have hcc:=hca c.Lookup i (some m) run1 hi2 hq1 hr1
     have hch:fK E.ms E.ls (fT E.ms E.ls k) e.l.Ignore p run1 c=i3 E.ms E.ls (fT E.ms E.ls k) c.Lookup i run1:=by
      unfold fK
      rw [hnth,hst]
     rw [hch] at hfd
     clear h0
     repeat' (first|refine JU ?_|refine JG a5 JA ?_|(apply aS;refine aQ ?_)|fail)
     refine b9 (jm wb E (some m) run1) [] hcc rfl (by rw [Jw];rfl) (by rw [List.append_nil]) rfl fun c2 L2 ⟨q',h1,h2⟩=>?_
     subst h2
     repeat' (first|refine JU ?_|refine eg rfl ?_|refine JG a5 JA ?_|(apply aS;refine aQ ?_)|fail)
     exact aC (n+1,q',_) rfl ⟨by rw [Jw];rfl,trivial⟩ ⟨hn2,h1,(nV (ie k)).big hr1,hfd⟩ (by dsimp only;omega) (fun _ _ h=>by rw [List.append_nil] at h;exact h)
    ·have hz:=Jy h0
     rw [if_neg hz] at hst
     repeat' (first|refine JU ?_|refine JG a5 JA ?_|(apply aS;refine aQ ?_)|fail)
     exact aC (i+1,left - 1) rfl ⟨by rw [Jw];rfl,rfl,trivial⟩ ⟨by dsimp only;omega,by dsimp only;omega,by dsimp only;omega,by rw [hnth,hst]⟩ (by dsimp only;omega) (fun _ _ h=>h)
  ·have hi2:run1.length≤i:=by have:=Jy h;omega
   have hch:fK E.ms E.ls (fT E.ms E.ls k) e.l.Ignore p run1 c=run1:=by
    unfold fK
    rw [hnth,vc hi2]
   rw [hch] at hfd
   clear h
   repeat' (first|refine JU ?_|refine JG a5 JA ?_|(apply aS;refine aQ ?_)|fail)
   exact aC (n+1,q1,run1) rfl ⟨by rw [Jw];rfl,trivial⟩ ⟨hn2,hq1,hr1,hfd⟩ (by dsimp only;omega) (fun _ _ h=>h)
 ·have hn2:n=cs.length:=by have:=Jy h;omega
  subst hn2
  rw [List.drop_length] at hf
  have hf2:run1=cs.foldl (fK E.ms E.ls (fT E.ms E.ls k) e.l.Ignore p) run:=hf
  repeat' (first|refine JU ?_|fail)
  refine Gy ?_
  exact cH rfl ⟨q1,by rw [←hf2];exact hq1,by rw [←hf2];rfl⟩
set_option maxHeartbeats 4000000 in
theorem GE {deep k:Nat} (hd:deep < 4) (hca:vM E wb (deep+1) k) (e:pj) (hk:e.l.Kind=4) (r:bc) (hro:jQ r) (ps:List Nat) (q:Option ge) (run:List aI) (hps:mI run ps) (hq:dV q run) (hr:run.length≤1000000):
  AC Tryz.prog 103 (jZ wb e r ps deep) (jm wb E q run) (gE wb E (fT E.ms E.ls (k+1) e.l r ps run)):=by
 obtain ⟨p,ps',rfl⟩:=List.exists_cons_of_ne_nil hps.some_
 have hpl:=hps.lt p (by simp)
 have hch:=By wb hd hca e r.Calls hro.calls hro.at_ p (by omega) q run hq hr
 have hdv:fT E.ms E.ls (k+1) e.l r (p::ps') run=r.Calls.foldl (fK E.ms E.ls (fT E.ms E.ls k) e.l.Ignore p) run:=by
  rw [fT]
  exact if_pos hk
 rw [hdv]
 obtain ⟨⟨kd,ig,rs⟩,cls,fo,ba,fe,be⟩:=e
 dsimp only at hk
 subst hk
 have hp0:(bY (p::ps'))[(0:Int).toNat]?=some [aF p]:=rfl
 refine aN Tryz.func103 rfl Tryz.ntmps103 rfl fun B=>?_
 repeat' (first|refine JU ?_|refine am ?_|refine JG a5 JA ?_|(apply aL;first|refine aK a5 ?_|refine aG a5 ?_)|refine bD rfl ?_|refine bC rfl ?_)
 refine ar rfl (fun h=>?_) (fun h=>?_)
 ·clear h
  repeat' (first|refine JU ?_|refine JG a5 JA ?_)
  refine b9 (jm wb E q run) [] hch rfl rfl (by rw [List.append_nil]) rfl fun c L1 ⟨q',h1,h2⟩=>?_
  subst h2
  repeat' (first|refine JU ?_|fail)
  exact cH rfl ⟨q',h1,by rw [List.append_nil]⟩
 ·have:=Jy h
  omega
set_option maxHeartbeats 4000000 in
theorem Ec (e:pj) (hk:e.l.Kind=4) (r:bc) (ps:List Nat) (q:Option ge) (run:List aI) (hps:mI run ps) (hq:dV q run):
  AC Tryz.prog 103 (jZ wb e r ps 4) (jm wb E q run) (gE wb E (fT E.ms E.ls 0 e.l r ps run)):=by
 obtain ⟨p,ps',rfl⟩:=List.exists_cons_of_ne_nil hps.some_
 have hdv:fT E.ms E.ls 0 e.l r (p::ps') run=run:=by
  rw [fT]
  dsimp only
  unfold dW
  rw [hk]
  rfl
 rw [hdv]
 obtain ⟨⟨kd,ig,rs⟩,cls,fo,ba,fe,be⟩:=e
 dsimp only at hk
 subst hk
 have hp0:(bY (p::ps'))[(0:Int).toNat]?=some [aF p]:=rfl
 refine aN Tryz.func103 rfl Tryz.ntmps103 rfl fun B=>?_
 repeat' (first|refine JU ?_|refine am ?_|refine JG a5 JA ?_|(apply aL;first|refine aK a5 ?_|refine aG a5 ?_)|refine bD rfl ?_|refine bC rfl ?_)
 exact cH rfl ⟨q,hq,rfl⟩
theorem uD (deep k:Nat) (e:pj) (h1:1≤e.l.Kind) (h6:e.l.Kind≤6) (h4:e.l.Kind≠4) (r:bc) (hro:jQ r) (ps:List Nat) (q:Option ge) (run:List aI) (hps:mI run ps) (hq:dV q run) (hr:run.length≤1000000):
  AC Tryz.prog 103 (jZ wb e r ps deep) (jm wb E q run) (gE wb E (fT E.ms E.ls k e.l r ps run)):=by
 obtain ⟨p,ps',rfl⟩:=List.exists_cons_of_ne_nil hps.some_
 obtain ⟨m,rfl⟩:=hq.lt (hps.lt p (by simp))
 have hdv:fT E.ms E.ls k e.l r (p::ps') run=dW e.l r (p::ps') run:=by
  cases k with
  | zero=>rw [fT]
  | succ k=>rw [fT];exact if_neg h4
 rw [hdv]
 have hc:e.l.Kind=1∨e.l.Kind=2∨e.l.Kind=3∨e.l.Kind=5∨e.l.Kind=6:=by omega
 rcases hc with hk | hk | hk | hk | hk
 ·exact Ja hq hr hro hps deep hk
 ·exact Jb hq hr hro hps deep hk
 ·exact Jc hq hr hro hps deep hk
 ·exact Jd hq hr hro hps deep hk
 ·exact Je hq hr hro hps deep hk
include hE in
theorem BM:∀(k deep:Nat),deep+k=4→Hf E wb deep k
 | 0,deep,hd=>by
  intro e r ps q run _ h1 h6 hro hps hq hr
  have mY:deep=4:=by omega
  subst mY
  by_cases h4:e.l.Kind=4
  ·exact Ec wb e h4 r ps q run hps hq
  ·exact uD wb 4 0 e h1 h6 h4 r hro ps q run hps hq hr
 | k+1,deep,hd=>by
  intro e r ps q run _ h1 h6 hro hps hq hr
  by_cases h4:e.l.Kind=4
  ·exact GE wb (by omega) (E4 hE wb (by omega) (BM k (deep+1) (by omega))) e h4 r hro ps q run hps hq hr
  ·exact uD wb deep (k+1) e h1 h6 h4 r hro ps q run hps hq hr
end
end Go.Proofs.YtpmdfoaadejmkaaGreatDoor
namespace Go.Proofs.YtpmdfoaadejmkaaGreatDoor
open Go.RowKit
attribute [local irreducible] AT bK AX AO Av Kt bh dw DA cK
theorem BB (run:List aI) (hr:run.length≤1000000):AC Tryz.prog 36 [.imm 6 (run.map aY)] [] fun c L=>∃q,dV q run∧c=eX q run∧L=om q run:=by
 refine aN Tryz.func36 rfl Tryz.ntmps36 rfl fun B=>?_
 have hml:(run.map aY).length=run.length:=Jv ..
 repeat' (first|refine JU ?_|refine JG a5 JA ?_)
 refine tC a5 rfl rfl rfl rfl rfl fun b hb=>?_
 repeat' (first|refine JU ?_|fail)
 cases b with
 | true=>
  have hn:run=[]:=by simpa using hb rfl
  subst hn
  repeat' (first|refine JU ?_|refine JG a5 JA ?_|refine bD rfl ?_)
  refine bk (bL (t:=2) (c':= .imm 6 []) rfl fun σ v h=>io 6 h) ?_
  exact JM JA ⟨none,⟨fun _=>rfl,fun m h=>by cases h⟩,rfl,rfl⟩
 | false=>
  repeat' (first|refine JU ?_|refine JG a5 JA ?_|refine GW (d:=5) a5 rfl rfl fun _=>?_|refine bC rfl ?_)
  rename_i b5
  refine lL a5 0 rfl rfl rfl rfl (vy rfl rfl) rfl (Nat.zero_le _) (Nat.le_refl _) (Nat.zero_le _) (by rw [hml];unfold maxLen;omega) (by rw [hml];omega) rfl fun b' cs' cap' e1 e2 e3 e4 e5=>?_
  repeat' (first|refine JU ?_|refine JG a5 JA ?_)
  have hcs:cs'=ca run++cs'.drop (run.length * 6):=by
   conv=>lhs;rw [←List.take_append_drop (run.length * 6) cs']
   rw [Nat.zero_add,hml] at e2
   rw [e2]
   rfl
  refine JM JA ⟨some ⟨b',cap',cs'.drop (run.length * 6)⟩,⟨fun h=>(by cases h),fun m hm=>?_⟩,?_,?_⟩
  ·cases hm
   dsimp only
   rw [←hcs]
   exact ⟨by omega,e4,e1⟩
  ·unfold eX
   dsimp only
   rw [Nat.zero_add,hml]
  ·unfold om
   dsimp only
   rw [←hcs]
   rfl
theorem qd {R:List aI}:∀{l:List Nat},R.length≤(f3 l R).length+l.length
 | []=>by simp [f3]
 | z::l=>by
  have:=qd (R:=R) (l:=l)
  have h2:(f3 l R).length≤((f3 l R).eraseIdx z).length+1:=by rw [List.length_eraseIdx];split <;> omega
  rw [f3,List.length_cons]
  omega
theorem gO {run:List aI} {p:Nat} {q:List Nat} (h:mI run (p::q)):p+q.length≤(p::q).getLastD p∧(p::q).getLastD p < run.length∧(q≠[]↔p < (p::q).getLastD p):=by
  have key:∀(q:List Nat) (p:Nat),(p::q).Pairwise (· < ·)→p+q.length≤(p::q).getLast (by simp):=by
    intro q
    induction q with
    | nil=>intro p _;simp
    | cons a q ih=>
      intro p hp
      obtain ⟨h1,h2⟩:=List.pairwise_cons.1 hp
      have:=ih a h2
      have:=h1 a (by simp)
      rw [List.getLast_cons (by simp),List.length_cons]
      omega
  have hk:=key q p h.inc
  have he:(p::q).getLastD p=(p::q).getLast (by simp):=by rw [List.getLastD_eq_getLast?,List.getLast?_eq_some_getLast (by simp)];rfl
  rw [he]
  refine ⟨hk,h.lt _ (List.getLast_mem _),fun hq=>?_,fun hq e=>?_⟩
  · have:0 < q.length:=List.length_pos_iff.2 hq
    omega
  · subst e
    simp at hq
theorem fR {l:aO} {r:bc} {run:List aI} {p:Nat} {q:List Nat} (h:mI run (p::q)):run.length - 1 - (p::q).getLastD p≤(dW l r (p::q) run).length:=by
 obtain ⟨h1,h2,_⟩:=gO h
 unfold dW
 split
 ·unfold dt;split <;> (try split) <;> (try split) <;> (try rw [List.length_set]) <;> omega
 split
 ·unfold eH
  split
  ·omega
  ·split
   ·omega
   ·simp only [List.length_append,List.length_take,List.length_drop,Jv,List.headD_cons]
    omega
 split
 ·unfold gA
  split
  ·rename_i heq _
   cases heq
   split
   ·rename_i x hx
    have key:∀y:aI,run.length - 1 - (p::q).getLastD p≤(f3 q (run.set p y)).length:=fun y=>by
     have:=qd (R:=run.set p y) (l:=q)
     rw [List.length_set] at this
     omega
    exact key _
   ·omega
  ·omega
 split
 ·unfold kD;split <;> (try rw [List.length_set]) <;> omega
 ·omega
theorem BK {ms:List Bool} {ls:List aO} {k:Nat} {l:aO} (hk:l.Kind≠4) {r:bc} {run:List aI} {p:Nat} {q:List Nat} (h:mI run (p::q)):run.length - 1 - (p::q).getLastD p≤(fT ms ls k l r (p::q) run).length:=by
 cases k with
 | zero=>rw [fT];exact fR h
 | succ k=>rw [fT];dsimp only;rw [if_neg hk];exact fR h
end Go.Proofs.YtpmdfoaadejmkaaGreatDoor
