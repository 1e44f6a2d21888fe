/-
  What an engine's rules do with a run: all but chains.
-/
import Derived.Test.YtpmdfoaadejmkaaGreatDoorM18
import Derived.Test.YtpmdfoaadejmkaaGreatDoorM14
import Derived.Test.YtpmdfoaadejmkaaGreatDoorM15
namespace Go.Proofs.YtpmdfoaadejmkaaGreatDoor
open Go.RowKit
attribute [local irreducible] AT br AX AO Av Kt b7 dm DA cA
section
variable {P:Program} {tt:TT} {l:List Oper} {fr:bT} {fin:iR} {sk:m6} {acc:bT} {L:AL} {k:Nat} {dd:Option Tmp} {ty t t':TypeId} {pos:String} {af:Array Edge} {g:Option (Nat×Bool)} {x y:Operand} {u:AV}
theorem HS {q:IntKind} {a b:Int} (hx:bh (cx l.toArray acc fr af.toList) x=some (.sc (.int q a))) (hy:bh (cx l.toArray acc fr af.toList) y=some (.sc (.int q b))) (hg:it ⟨dd,.binOp .add t x y t',ty,pos,af,g⟩ acc) (h:DA P l fr fin sk ((k,.sc (.int q (q.wrap (a+b))))::acc) L):cA P l fr fin k .v ⟨dd,.binOp .add t x y t',ty,pos,af,g⟩ sk acc L:=fA hg (B7 (GQ hx hy)) h
end
structure pJ (run:List aR) (ps:List Nat):Prop where
  some_:ps≠[]
  lt:∀j∈ps,j < run.length
  inc:ps.Pairwise (· < ·)
structure lr (r:b8):Prop where
 some_:r.In≠[]
 out:r.Out.length≤1000000
 calls:r.Calls.length≤1000000
 at_:∀c∈r.Calls,0≤c.At∧c.At≤1000000
abbrev kI (wb:Nat) (e:om) (r:b8) (ps:List Nat) (deep:Nat):List AV:=[eO wb,.iptr (fw e),.iptr (bV (eY r)),.imm 1 (dt ps),aI deep]
def gU (wb:Nat) (E:n8) (run':List aR):AV→AL→Prop:=fun _ L=>∃q',dN q' run'∧L=jo wb E q' run'
section
variable {E:n8} {wb:Nat} {m:gy} {run:List aR} (hq:dN (some m) run) (hr:run.length≤1000000) {e:om} {r:b8} (hro:lr r) {ps:List Nat} (hps:pJ run ps) (deep:Nat)
include hq hr hro hps
set_option maxHeartbeats 4000000 in
theorem KH (hk:e.l.Kind=2):AC Tryz.prog 103 (kI wb e r ps deep) (jo wb E (some m) run) (gU wb E (gu e.l r ps run)):=by
 obtain ⟨⟨kd,ig,rs⟩,cls,fo,ba,fe,be⟩:=e
 dsimp only at hk
 subst hk
 obtain ⟨p,q,rfl⟩:=List.exists_cons_of_ne_nil hps.some_
 have hpl:=hps.lt p (by simp)
 obtain ⟨x,hx⟩:∃x,run[p]?=some x:=⟨_,Iy hpl⟩
 have hp0:(dt (p::q))[(0:Int).toNat]?=some [aI p]:=rfl
 have hm:=DR E wb m run hq hr p x hx r hro.out
 refine aS Tryz.func103 rfl Tryz.ntmps103 rfl fun B=>?_
 refine W0O ?_
 refine b9 (jo wb E (some m) run) [] hm rfl rfl (by rw [List.append_nil]) rfl fun c L1 ⟨q',h1,h2⟩=>?_
 subst h2
 refine W1S ?_
 exact cJ rfl ⟨q',h1,by rw [List.append_nil];rfl⟩
set_option maxHeartbeats 4000000 in
theorem KG (hk:e.l.Kind=1):AC Tryz.prog 103 (kI wb e r ps deep) (jo wb E (some m) run) (gU wb E (gu e.l r ps run)):=by
 have _:=hr
 obtain ⟨⟨kd,ig,rs⟩,cls,fo,ba,fe,be⟩:=e
 dsimp only at hk
 subst hk
 obtain ⟨p,q,rfl⟩:=List.exists_cons_of_ne_nil hps.some_
 have hpl:=hps.lt p (by simp)
 obtain ⟨x,hx⟩:∃x,run[p]?=some x:=⟨_,Iy hpl⟩
 have hp0:(dt (p::q))[(0:Int).toNat]?=some [aI p]:=rfl
 obtain ⟨i0,is,hin⟩:=List.exists_cons_of_ne_nil hro.some_
 have hin0:(bj (eY r).In)[(0:Int).toNat]?=some [.imm 1 (aQ i0)]:=by
  show (bj r.In)[0]?=_
  rw [hin]
  rfl
 have hsv:gu ⟨1,ig,rs⟩ r (p::q) run=gM r p run:=rfl
 rw [hsv]
 have hsg:gM r p run=match r.Out[i0.idxOf x.Glyph]? with
   | none=>run
   | some g=>if i0.idxOf x.Glyph < i0.length then run.set p { x with Glyph:=g } else run:=by
  unfold gM
  rw [hx,hin]
  rfl
 have hol:=aX r.Out
 have h0:=pi (j:=0) m.junk hx rfl
 obtain ⟨g1,g2,g3⟩:=hq.fit m rfl
 have hfl:=d9 run
 refine aS Tryz.func103 rfl Tryz.ntmps103 rfl fun B=>?_
 repeat' (first|refine a9 ?_|refine a4 ?_|refine ai ?_|refine aj ?_|refine a6 ?_|refine a7 ?_|refine LG a5 KZ ?_|(apply aL;first|refine aJ a5 ?_|refine aF a5 ?_)|refine bR rfl ?_)
 refine bz 15 [(0,.v),(1,.v),(2,.v),(3,.v),(4,.v),(5,.v),(6,.v),(7,.v),(8,.v),(9,.l),(10,.v),(11,.v),(12,.v),(13,.l),(14,.v)] none ?_ trivial rfl (by kernel_rfl) (by kernel_rfl) (by kernel_rfl) bX (by kernel_rfl) rfl
 refine W0Z ?_
 refine d8 a5 rfl rfl rfl ⟨by omega,by omega⟩ trivial ?_
 refine W0a ?_
 refine cf a5 1 rfl rfl rfl h0 trivial ?_
 refine W2k ?_
 refine LQ [0,2,10,37] KZ ?_
 refine W01 ?_
 have hst:(eY r).Out=r.Out:=rfl
 generalize hn:(if x.Glyph∈i0 then ((i0.idxOf x.Glyph:Nat):Int) else -1)=n
 refine ce [0,2,10,11] (0≤n∧n < r.Out.length) rfl (fun Q' K=>?_) (fun hC=>?_) (fun hC=>?_)
 ·repeat' (first|refine a7 ?_|refine LG a5 KZ ?_|refine LO KZ ?_|refine LP LB ?_|refine LR LA (fun _=>?_) (fun _=>?_))
  all_goals exact K _ _ rfl rfl (by rw [hst,hol] at *;simp_all <;> omega)
 ·have hm:x.Glyph∈i0:=Classical.byContradiction fun hm=>by rw [if_neg hm] at hn;omega
  rw [if_pos hm] at hn
  subst hn
  have hlt:i0.idxOf x.Glyph < r.Out.length:=by omega
  obtain ⟨g,hg⟩:∃g,r.Out[i0.idxOf x.Glyph]?=some g:=⟨_,Iy hlt⟩
  have hgg:(aQ (eY r).Out)[((i0.idxOf x.Glyph:Nat):Int).toNat]?=some [aI g]:=by rw [Int.toNat_natCast];exact bW hg
  rw [hg] at hsg
  dsimp only at hsg
  rw [if_pos (List.idxOf_lt_length_of_mem hm)] at hsg
  rw [hsg]
  have hst:=jO (j:=0) { x with Glyph:=g } (aI g) m.junk hx (by omega) rfl
  repeat' (first|fail)
  refine bz 12 [(0,.v),(1,.v),(2,.v),(3,.l),(4,.v),(5,.v),(6,.v),(7,.v),(8,.v),(9,.v),(10,.v),(11,.v)] none ?_ trivial rfl (by kernel_rfl) (by kernel_rfl) (by kernel_rfl) bX (by kernel_rfl) rfl
  refine W0Z ?_
  refine LQ [52,53,60] KZ ?_
  refine W0X ?_
  refine LU a5 1 LD (Nat.ble_eq_true_of_le (by rw [Int.toNat_natCast];simp;omega)) ?_
  rw [hst]
  refine W1S ?_
  exact cJ rfl ⟨some m,hq.set p _,qi⟩
 ·have hsg2:gM r p run=run:=by
   rw [hsg]
   split
   ·rfl
   ·rename_i g hg
    rw [if_neg]
    intro h
    rw [if_pos (List.idxOf_lt_length_iff.1 h)] at hn
    have:=(Ln hg).1
    omega
  rw [hsg2]
  refine W2n ?_
  exact cJ rfl ⟨some m,hq,rfl⟩
set_option maxHeartbeats 4000000 in
theorem KM (hk:e.l.Kind=5):AC Tryz.prog 103 (kI wb e r ps deep) (jo wb E (some m) run) (gU wb E (gu e.l r ps run)):=by
 have _:=hr
 obtain ⟨⟨kd,ig,rs⟩,cls,fo,ba,fe,be⟩:=e
 dsimp only at hk
 subst hk
 obtain ⟨p,q,rfl⟩:=List.exists_cons_of_ne_nil hps.some_
 have hpl:=hps.lt p (by simp)
 obtain ⟨x,hx⟩:∃x,run[p]?=some x:=⟨_,Iy hpl⟩
 have hp0:(dt (p::q))[(0:Int).toNat]?=some [aI p]:=rfl
 obtain ⟨i0,is,hin⟩:=List.exists_cons_of_ne_nil hro.some_
 have hin0:(bj (eY r).In)[(0:Int).toNat]?=some [.imm 1 (aQ i0)]:=by
  show (bj r.In)[0]?=_
  rw [hin]
  rfl
 have hsv:gu ⟨5,ig,rs⟩ r (p::q) run=gM r p run:=rfl
 rw [hsv]
 have hsg:gM r p run=match r.Out[i0.idxOf x.Glyph]? with
   | none=>run
   | some g=>if i0.idxOf x.Glyph < i0.length then run.set p { x with Glyph:=g } else run:=by
  unfold gM
  rw [hx,hin]
  rfl
 have hol:=aX r.Out
 have h0:=pi (j:=0) m.junk hx rfl
 obtain ⟨g1,g2,g3⟩:=hq.fit m rfl
 have hfl:=d9 run
 refine aS Tryz.func103 rfl Tryz.ntmps103 rfl fun B=>?_
 refine W0O ?_
 refine bz 15 [(0,.v),(1,.v),(2,.v),(3,.v),(4,.v),(5,.v),(6,.v),(7,.v),(8,.v),(9,.l),(10,.v),(11,.v),(12,.v),(13,.l),(14,.v)] none ?_ trivial rfl (by kernel_rfl) (by kernel_rfl) (by kernel_rfl) bX (by kernel_rfl) rfl
 refine W0Z ?_
 refine d8 a5 rfl rfl rfl ⟨by omega,by omega⟩ trivial ?_
 refine W0a ?_
 refine cf a5 1 rfl rfl rfl h0 trivial ?_
 refine W2k ?_
 refine LQ [0,2,10,37] KZ ?_
 refine W01 ?_
 have hst:(eY r).Out=r.Out:=rfl
 generalize hn:(if x.Glyph∈i0 then ((i0.idxOf x.Glyph:Nat):Int) else -1)=n
 refine ce [0,2,10,11] (0≤n∧n < r.Out.length) rfl (fun Q' K=>?_) (fun hC=>?_) (fun hC=>?_)
 ·repeat' (first|refine a7 ?_|refine LG a5 KZ ?_|refine LO KZ ?_|refine LP LB ?_|refine LR LA (fun _=>?_) (fun _=>?_))
  all_goals exact K _ _ rfl rfl (by rw [hst,hol] at *;simp_all <;> omega)
 ·have hm:x.Glyph∈i0:=Classical.byContradiction fun hm=>by rw [if_neg hm] at hn;omega
  rw [if_pos hm] at hn
  subst hn
  have hlt:i0.idxOf x.Glyph < r.Out.length:=by omega
  obtain ⟨g,hg⟩:∃g,r.Out[i0.idxOf x.Glyph]?=some g:=⟨_,Iy hlt⟩
  have hgg:(aQ (eY r).Out)[((i0.idxOf x.Glyph:Nat):Int).toNat]?=some [aI g]:=by rw [Int.toNat_natCast];exact bW hg
  rw [hg] at hsg
  dsimp only at hsg
  rw [if_pos (List.idxOf_lt_length_of_mem hm)] at hsg
  rw [hsg]
  have hst:=jO (j:=0) { x with Glyph:=g } (aI g) m.junk hx (by omega) rfl
  repeat' (first|fail)
  refine bz 12 [(0,.v),(1,.v),(2,.v),(3,.l),(4,.v),(5,.v),(6,.v),(7,.v),(8,.v),(9,.v),(10,.v),(11,.v)] none ?_ trivial rfl (by kernel_rfl) (by kernel_rfl) (by kernel_rfl) bX (by kernel_rfl) rfl
  refine W0Z ?_
  refine LQ [52,53,60] KZ ?_
  refine W0X ?_
  refine LU a5 1 LD (Nat.ble_eq_true_of_le (by rw [Int.toNat_natCast];simp;omega)) ?_
  rw [hst]
  refine W1S ?_
  exact cJ rfl ⟨some m,hq.set p _,qi⟩
 ·have hsg2:gM r p run=run:=by
   rw [hsg]
   split
   ·rfl
   ·rename_i g hg
    rw [if_neg]
    intro h
    rw [if_pos (List.idxOf_lt_length_iff.1 h)] at hn
    have:=(Ln hg).1
    omega
  rw [hsg2]
  refine W2n ?_
  exact cJ rfl ⟨some m,hq,rfl⟩
set_option maxHeartbeats 4000000 in
theorem KL (hk:e.l.Kind=3):AC Tryz.prog 103 (kI wb e r ps deep) (jo wb E (some m) run) (gU wb E (gu e.l r ps run)):=by
 have _:=hro
 obtain ⟨⟨kd,ig,rs⟩,cls,fo,ba,fe,be⟩:=e
 dsimp only at hk
 subst hk
 obtain ⟨p,q,rfl⟩:=List.exists_cons_of_ne_nil hps.some_
 have hpl:=hps.lt p (by simp)
 obtain ⟨x,hx⟩:∃x,run[p]?=some x:=⟨_,Iy hpl⟩
 have hp0:(dt (p::q))[(0:Int).toNat]?=some [aI p]:=rfl
 have hol:=aX (eY r).Out
 have hst:(eY r).Out=r.Out:=rfl
 rw [hst] at hol
 refine aS Tryz.func103 rfl Tryz.ntmps103 rfl fun B=>?_
 refine W0O ?_
 refine ar rfl (fun h=>?_) (fun h=>?_)
 ·have hne:r.Out≠[]:=fun e=>by rw [hst,e] at h;cases h
  obtain ⟨g,gs,hg⟩:=List.exists_cons_of_ne_nil hne
  have hj:=FV E wb m run hq hr p q hps.lt hps.inc x hx r g gs hg
  have hg0:(aQ (eY r).Out)[(0:Int).toNat]?=some [aI g]:=by rw [hst,hg];rfl
  clear h
  repeat' (first|refine a4 ?_|refine LG a5 KZ ?_|(apply aL;first|refine aJ a5 ?_|refine aF a5 ?_)|fail)
  refine b9 (jo wb E (some m) run) [] hj rfl rfl (by rw [List.append_nil]) rfl fun c L1 ⟨q',h1,h2⟩=>?_
  subst h2
  refine W1S ?_
  exact cJ rfl ⟨q',h1,by rw [List.append_nil];rfl⟩
 ·have hz:r.Out=[]:=List.eq_nil_of_length_eq_zero (by have:=Ly h;rw [hst] at this;omega)
  have hsv:gu ⟨3,ig,rs⟩ r (p::q) run=run:=by
   show nJ r (p::q) run=run
   unfold nJ
   rw [hz]
  rw [hsv]
  refine W2n ?_
  exact cJ rfl ⟨some m,hq,rfl⟩
set_option maxHeartbeats 4000000 in
theorem KN (hk:e.l.Kind=6):AC Tryz.prog 103 (kI wb e r ps deep) (jo wb E (some m) run) (gU wb E (gu e.l r ps run)):=by
 have _:=hr
 have _:=hro
 obtain ⟨⟨kd,ig,rs⟩,cls,fo,ba,fe,be⟩:=e
 dsimp only at hk
 subst hk
 obtain ⟨p,q,rfl⟩:=List.exists_cons_of_ne_nil hps.some_
 have hpl:=hps.lt p (by simp)
 obtain ⟨x,hx⟩:∃x,run[p]?=some x:=⟨_,Iy hpl⟩
 have hp0:(dt (p::q))[(0:Int).toNat]?=some [aI p]:=rfl
 have hsv:gu ⟨6,ig,rs⟩ r (p::q) run=run.set p { x with Advance:=IntKind.i64.wrap (x.Advance+r.X) }:=by
  show t6 r p run=_
  unfold t6
  rw [hx]
 rw [hsv]
 have h3:=pi (j:=3) m.junk hx rfl
 have hst:=jO (j:=3) { x with Advance:=IntKind.i64.wrap (x.Advance+r.X) } (aI (IntKind.i64.wrap (x.Advance+r.X))) m.junk hx (by omega) rfl
 obtain ⟨g1,g2,g3⟩:=hq.fit m rfl
 have hfl:=d9 run
 refine aS Tryz.func103 rfl Tryz.ntmps103 rfl fun B=>?_
 refine W0O ?_
 refine bz 13 [(0,.v),(1,.v),(2,.v),(3,.l),(4,.v),(5,.v),(6,.v),(7,.l),(8,.v),(9,.v),(10,.v),(11,.v),(12,.v)] none ?_ trivial rfl (by kernel_rfl) (by kernel_rfl) (by kernel_rfl) bX (by kernel_rfl) rfl
 refine W0t ?_
 refine d8 a5 rfl rfl rfl ⟨by omega,by omega⟩ trivial ?_
 refine W0a ?_
 refine cf a5 1 rfl rfl rfl h3 trivial ?_
 refine W0a ?_
 refine HS rfl rfl trivial ?_
 repeat' (first|fail)
 refine LQ [107,108,116] KZ ?_
 refine W0X ?_
 refine LU a5 1 LD (Nat.ble_eq_true_of_le (by rw [Int.toNat_natCast];simp;omega)) ?_
 have hsx:(eY r).X=r.X:=rfl
 rw [hsx,hst]
 refine W1S ?_
 exact cJ rfl ⟨some m,hq.set p _,qi⟩
end
end Go.Proofs.YtpmdfoaadejmkaaGreatDoor
namespace Go.Proofs.YtpmdfoaadejmkaaGreatDoor
open Go.RowKit
attribute [local irreducible] AT br AX AO Av Kt b7 dm DA cA
structure mx (E:n8):Prop where
 auto:∀e∈E.lks,1≤e.l.Kind→e.l.Kind≤6→ku e
 rule:∀e∈E.lks,∀r∈e.l.Rules,r.In≠[]→lr r
abbrev n8.ls (E:n8):List aO:=E.lks.map (·.l)
theorem B5 {ms:List Bool} {ig:Bool} {run:List aR} {i:Nat} (hi:i < run.length) {n:Int} (h0:0≤n):sj ms ig run i n=if kY ms ig run i=true then (if n=0 then some i else sj ms ig run (i+1) (n - 1)) else sj ms ig run (i+1) n:=by
 unfold sj
 rw [if_pos h0,mS hi]
 split
 ·split
  ·rename_i hn
   subst hn
   rfl
  ·rw [if_pos (by omega),show n.toNat=(n - 1).toNat+1 by omega,List.getElem?_cons_succ]
 ·rfl
theorem E4 {ms:List Bool} {ig:Bool} {run:List aR} {i:Nat} (hi:run.length≤i) (n:Int):sj ms ig run i n=none:=by
 unfold sj
 rw [sS hi]
 split <;> simp
theorem Aw {ms:List Bool} {ig:Bool} {run:List aR} {i:Nat}:(eM ms ig run i).Pairwise (· < ·):=by
  unfold eM
  exact List.Pairwise.filter _ (List.pairwise_lt_range' ..)
theorem Ip {ms:List Bool} {l:aO} {run:List aR} {i:Nat} {forms:List Int} {r:b8} (h:fm ms l run i forms=some r):pJ run (dV ms l run i r)∧r∈l.Rules∧r.In≠[]∧i < run.length∧(dV ms l run i r).head?=some i:=by
 unfold fm at h
 split at h
 ·rename_i hb
  have hm:=List.mem_of_find?_eq_some h
  obtain ⟨h1,h2⟩:=pC (List.find?_some h)
  unfold lz at hb
  split at hb
  ·rename_i x hx
   have hil:=(Ln hx).1
   rw [Bool.and_eq_true] at hb
   have hs:kY ms l.Ignore run i=true:=by rw [oW hx];exact hb.1
   have hf:eM ms l.Ignore run i=i::eM ms l.Ignore run (i+1):=by rw [mS hil,if_pos hs]
   obtain ⟨n,hn⟩:∃n,r.In.length=n+1:=⟨r.In.length - 1,by omega⟩
   have hp:dV ms l run i r=i::(eM ms l.Ignore run (i+1)).take n:=by unfold dV;rw [hf,hn,List.take_succ_cons]
   refine ⟨⟨by rw [hp];simp,fun j hj=>(Dd j (List.mem_of_mem_take hj)).2.1,?_⟩,hm,fun e=>by rw [e] at h1;simp at h1,hil,by rw [hp];rfl⟩
   exact Aw.sublist (List.take_sublist ..)
  ·cases hb
 ·cases h
def gH (a b:Nat):Prop:=b≤max a 500
theorem tk {l:aO} {r:b8} {ps:List Nat} {run:List aR}:gH run.length (gu l r ps run).length:=by
 unfold gu gH
 split
 ·unfold gM;split <;> (try split) <;> (try split) <;> (try rw [List.length_set]) <;> omega
 split
 ·unfold ja
  split
  ·omega
  ·split
   ·omega
   ·rename_i x hx hh
    have:=(Ln hx).1
    simp only [List.length_append,List.length_take,List.length_drop,Lu]
    omega
 split
 ·unfold nJ
  split
  ·split
   ·refine Nat.le_trans ma.length_le ?_
    rw [List.length_set];omega
   ·omega
  ·omega
 split
 ·unfold t6;split <;> (try rw [List.length_set]) <;> omega
 ·omega
theorem gH.trans {a b c:Nat} (h:gH a b) (k:gH b c):gH a c:=by unfold gH at *;omega
theorem sG {ms:List Bool} {ls:List aO} {d:Jz} (hd:∀l r ps run,gH run.length (d l r ps run).length) {n:Int} {i:Nat} {run:List aR}:gH run.length (ni ms ls d n i run).length:=by
 unfold ni
 split
 ·unfold gH;omega
 ·split
  ·unfold gH;omega
  ·split
   ·unfold gH;omega
   ·split
    ·unfold gH;omega
    ·exact hd ..
theorem m9 {ms:List Bool} {ls:List aO}:∀(k:Nat) (l:aO) (r:b8) (ps:List Nat) (run:List aR),gH run.length (jH ms ls k l r ps run).length
 | 0,_,_,_,_=>tk
 | k+1,l,r,ps,run=>by
  unfold jH
  split
  ·have key:∀(cs:List gO) (run:List aR),gH run.length (cs.foldl (g8 ms ls (jH ms ls k) l.Ignore (ps.headD 0)) run).length:=by
    intro cs
    induction cs with
    | nil=>intro run;unfold gH;simp;omega
    | cons c cs ih=>
     intro run
     rw [List.foldl_cons]
     refine gH.trans ?_ (ih _)
     unfold g8
     split
     ·unfold gH;omega
     ·exact sG (m9 k)
   exact key _ _
  ·exact tk
theorem gH.big {a b:Nat} (h:gH a b) (ha:a≤1000000):b≤1000000:=by unfold gH at h;omega
section
variable {E:n8} (hE:mx E) (wb:Nat)
def IC (E:n8) (wb deep k:Nat):Prop:=∀(e:om) (r:b8) (ps:List Nat) (q:Option gy) (run:List aR),e∈E.lks→1≤e.l.Kind→e.l.Kind≤6→lr r→pJ run ps→dN q run→run.length≤1000000→
 AC Tryz.prog 103 (kI wb e r ps deep) (jo wb E q run) (gU wb E (jH E.ms E.ls k e.l r ps run))
def wC (E:n8) (wb deep k:Nat):Prop:=∀(n:Int) (i:Nat) (q:Option gy) (run:List aR),i < run.length→dN q run→run.length≤1000000→
 AC Tryz.prog 261 [eO wb,aI n,aI i,aI deep] (jo wb E q run) (gU wb E (ni E.ms E.ls (jH E.ms E.ls k) n i run))
theorem oD (E:n8):(E.lks.map fw).length=E.lks.length:=by simp
include hE in
set_option maxHeartbeats 4000000 in
theorem Fk {deep k:Nat} (hd:deep≤4) (hdo:IC E wb deep k):wC E wb deep k:=by
 intro n i q run hi hq hr
 refine aS Tryz.func261 rfl Tryz.ntmps261 rfl fun B=>?_
 have hll:=oD E
 refine W0k ?_
 refine ce [0,1,2,3] (n < 0∨(E.lks.length:Int)≤n) rfl (fun Q' K=>?_) (fun hC=>?_) (fun hC=>?_)
 ·repeat' (first|refine a7 ?_|refine LG a5 KZ ?_|refine LO KZ ?_|refine LP LB ?_|(apply bq;first|refine LJ a5 0 LC ?_|refine LJ a5 1 LC ?_|refine LJ a5 2 LC ?_|refine LJ a5 3 LC ?_|refine LK a5 0 LC ?_|refine LK a5 1 LC ?_|refine LK a5 2 LC ?_|refine LL a5 1 LA (by assumption) rfl ?_|refine LL a5 0 LA (by assumption) rfl ?_|fail)|refine LR LA (fun _=>?_) (fun _=>?_))
  all_goals exact K _ _ rfl rfl (by simp_all <;> omega)
 ·have hv:ni E.ms E.ls (jH E.ms E.ls k) n i run=run:=by
   unfold ni
   by_cases h0:n < 0
   ·rw [if_pos h0]
   ·rw [if_neg h0,List.getElem?_eq_none (by rw [Lu];omega)]
  rw [hv]
  refine W2m ?_
  exact pW rfl ⟨q,hq,rfl⟩
 obtain ⟨e,he⟩:∃e,E.lks[n.toNat]?=some e:=⟨_,Iy (by omega)⟩
 have heg:(E.lks.map fw)[n.toNat]?=some (fw e):=by simp [he]
 have hem:=Lw he
 have hcv:ni E.ms E.ls (jH E.ms E.ls k) n i run=if e.l.Kind < 1∨4 < e.l.Kind then run else match fm E.ms e.l run i [] with
   | none=>run
   | some r=>jH E.ms E.ls k e.l r (dV E.ms e.l run i r) run:=by
  unfold ni
  rw [if_neg (by omega),List.getElem?_map,he]
  rfl
 refine W0B ?_
 refine ce [0,2,3,8] (e.l.Kind < 1∨4 < e.l.Kind) rfl (fun Q' K=>?_) (fun hC2=>?_) (fun hC2=>?_)
 ·repeat' (first|refine a7 ?_|refine LG a5 KZ ?_|refine LO KZ ?_|refine LP LB ?_|refine LR LA (fun _=>?_) (fun _=>?_))
  all_goals exact K _ _ rfl rfl (by simp_all <;> omega)
 ·rw [if_pos hC2] at hcv
  rw [hcv]
  refine W2m ?_
  exact pW rfl ⟨q,hq,rfl⟩
 rw [if_neg hC2] at hcv
 rw [hcv]
 have hau:=hE.auto e hem (by omega) (by omega)
 have hma:=AC.args (a:=[eO wb,.iptr (fw e),aI i,.sc (.slice none 0 0)]) (rk E e hau wb q run hq hr i (by omega) []) ⟨c6.refl _,c6.refl _,c6.refl _,c6.nil 1,trivial⟩
 refine W0e ?_
 refine b9 (jo wb E q run) [] hma rfl rfl (by rw [List.append_nil]) rfl fun c L1 ⟨hc,hL⟩=>?_
 subst hc;subst hL
 unfold lQ
 cases hmv:fm E.ms e.l run i [] with
 | none=>
  dsimp only
  refine W01 ?_
  refine rp Tryz.underlying190 rfl rfl rfl rfl ?_
  repeat' (first|refine aj ?_|refine a6 ?_|refine a7 ?_|refine bB rfl ?_)
  exact cJ rfl ⟨q,hq,by rw [List.append_nil]⟩
 | some r=>
  dsimp only
  obtain ⟨hps,hrm,hin,_,_⟩:=Ip hmv
  have hdc:=hdo e r (dV E.ms e.l run i r) q run hem (by omega) (by omega) (hE.rule e hem r hrm hin) hps hq hr
  refine W01 ?_
  refine rp Tryz.underlying190 rfl rfl rfl rfl ?_
  refine W2h ?_
  refine b9 (jo wb E q run) [] hdc rfl rfl (by rw [List.append_nil]) rfl fun c L1 ⟨q',h1,h2⟩=>?_
  subst h2
  repeat' (first|refine a7 ?_)
  exact cJ rfl ⟨q',h1,by rw [List.append_nil]⟩
set_option maxHeartbeats 4000000 in
theorem CL {deep k:Nat} (hd:deep < 4) (hca:wC E wb (deep+1) k) (e:om) (cs:List gO) (hcs:cs.length≤1000000) (hca0:∀c∈cs,0≤c.At∧c.At≤1000000) (p:Nat) (hp:p≤1000000) (q:Option gy) (run:List aR) (hq:dN q run) (hr:run.length≤1000000):
  AC Tryz.prog 193 [eO wb,.iptr (fw e),.imm 2 (cs.map dC),aI p,aI deep] (jo wb E q run) (gU wb E (cs.foldl (g8 E.ms E.ls (jH E.ms E.ls k) e.l.Ignore p) run)):=by
 refine aS Tryz.func193 rfl Tryz.ntmps193 rfl fun B=>?_
 have hcl:(cs.map dC).length=cs.length:=by simp
 repeat' (first|fail)
 refine Cy ?_
 repeat' (first|refine a9 ?_|refine a4 ?_|refine ai ?_|refine Cw ?_|refine a6 ?_|refine a7 ?_|refine LG a5 KZ ?_)
 refine aN [0,1,3,4,14,15] (α:=Nat×Option gy×List aR) (fun s=>[(16,aI s.1)]) (fun s=>s.1≤cs.length∧dN s.2.1 s.2.2∧s.2.2.length≤1000000∧(cs.drop s.1).foldl (g8 E.ms E.ls (jH E.ms E.ls k) e.l.Ignore p) s.2.2=cs.foldl (g8 E.ms E.ls (jH E.ms E.ls k) e.l.Ignore p) run) (fun s=>jo wb E s.2.1 s.2.2) (fun s=>cs.length - s.1) (0,q,run) rfl ⟨rfl,trivial⟩ ⟨Nat.zero_le _,hq,hr,rfl⟩ (fun _ _ h=>h) ?_
 rintro ⟨n,q1,run1⟩ ⟨hn,hq1,hr1,hf⟩
 dsimp only at hn hq1 hr1 hf ⊢
 try dsimp only [Lr,Lq,Lp,Li]
 refine W01 ?_
 refine ar rfl (fun h=>?_) (fun h=>?_)
 ·have hn2:n < cs.length:=by have:=Lz h;omega
  obtain ⟨c,hc⟩:∃c,cs[n]?=some c:=⟨_,Iy hn2⟩
  have hcg:(cs.map dC)[n]?=some (dC c):=by simp [hc]
  obtain ⟨ha0,ha1⟩:=hca0 c (Lw hc)
  have hfd:(cs.drop (n+1)).foldl (g8 E.ms E.ls (jH E.ms E.ls k) e.l.Ignore p) (g8 E.ms E.ls (jH E.ms E.ls k) e.l.Ignore p run1 c)=cs.foldl (g8 E.ms E.ls (jH E.ms E.ls k) e.l.Ignore p) run:=by
   rw [←hf,List.drop_eq_getElem_cons hn2,List.foldl_cons,(Ln hc).2]
  clear h
  repeat' (first|refine a9 ?_|refine a4 ?_|refine ai ?_|refine aj ?_|refine a6 ?_|refine a7 ?_|refine LG a5 KZ ?_|(apply aL;first|refine aJ a5 ?_|refine aF a5 ?_)|(apply aM;first|refine LI 11 a5 0 LF ?_|refine LI 11 a5 1 LF ?_|refine LI 11 a5 2 LF ?_|refine LH a5 0 LE ?_|refine LH a5 1 LE ?_|refine LH a5 2 LE ?_|refine LH a5 3 LE ?_|fail)|refine bf a5 fun _=>?_|fail)
  refine aN [0,1,3,4,11,14,15,16] (α:=Nat×Int) (fun s=>[(13,aI s.1),(12,aI s.2)]) (fun s=>0≤s.2∧s.2≤1000000∧s.1≤1000000∧sj E.ms e.l.Ignore run1 p c.At=sj E.ms e.l.Ignore run1 s.1 s.2) (fun s=>jo wb E q1 run1) (fun s=>run1.length - s.1) (p,c.At) rfl ⟨rfl,rfl,trivial⟩ ⟨ha0,ha1,hp,rfl⟩ (fun _ _ h=>h) ?_
  rintro ⟨i,left⟩ ⟨hl0,hl1,hi1,hnth⟩
  dsimp only at hl0 hl1 hi1 hnth ⊢
  try dsimp only [Lr,Lq,Lp,Li]
  refine W0o ?_
  refine mV a5 rfl hq1 rfl rfl ?_
  refine W0r ?_
  refine ar rfl (fun h=>?_) (fun h=>?_)
  ·have hi2:i < run1.length:=by have:=Lz h;omega
   obtain ⟨m,rfl⟩:=hq1.lt hi2
   obtain ⟨x,hx⟩:∃x,run1[i]?=some x:=⟨_,Iy hi2⟩
   have hse:=uu E e wb m run1 i x hx
   have hst:=B5 (ms:=E.ms) (ig:=e.l.Ignore) hi2 hl0
   rw [oW hx] at hst
   clear h
   refine W0v ?_
   refine b9 (wy wb (.iptr (eh E)) (some m) run1) [ct] hse rfl rfl (Lm _) rfl fun c1 L1 ⟨hc1,hL⟩=>?_
   subst hc1;subst hL
   refine W0r ?_
   refine ar rfl (fun hb=>?_) (fun hb=>?_)
   ·rw [if_neg (by simpa using hb)] at hst
    refine W1g ?_
    exact aC (i+1,left) rfl ⟨by rw [Lv];rfl,rfl,trivial⟩ ⟨hl0,hl1,by dsimp only;omega,by rw [hnth,hst]⟩ (by dsimp only;omega) (fun _ _ h=>h)
   ·rw [if_pos (by simpa using hb)] at hst
    refine W1P ?_
    refine ar rfl (fun h0=>?_) (fun h0=>?_)
    ·have hz:=Lz h0
     subst hz
     rw [if_pos rfl] at hst
     have hcc:=hca c.Lookup i (some m) run1 hi2 hq1 hr1
     have hch:g8 E.ms E.ls (jH E.ms E.ls k) e.l.Ignore p run1 c=ni E.ms E.ls (jH E.ms E.ls k) c.Lookup i run1:=by
      unfold g8
      rw [hnth,hst]
     rw [hch] at hfd
     clear h0
     repeat' (first|refine a9 ?_|refine a4 ?_|refine LG a5 KZ ?_|(apply aU;refine aT ?_)|fail)
     refine b9 (jo wb E (some m) run1) [] hcc rfl (by rw [Lv];rfl) (by rw [List.append_nil]) rfl fun c2 L2 ⟨q',h1,h2⟩=>?_
     subst h2
     repeat' (first|refine a4 ?_|refine aP ?_|refine a6 ?_|refine aq ?_|refine ay ?_|refine ez rfl ?_|refine au ?_|refine a7 ?_|refine LG a5 KZ ?_|(apply aU;refine aT ?_)|fail)
     exact aC (n+1,q',_) rfl ⟨by rw [Lv];rfl,trivial⟩ ⟨hn2,h1,(sG (m9 k)).big hr1,hfd⟩ (by dsimp only;omega) (fun _ _ h=>by rw [List.append_nil] at h;exact h)
    ·have hz:=Ly h0
     rw [if_neg hz] at hst
     refine W06 ?_
     exact aC (i+1,left - 1) rfl ⟨by rw [Lv];rfl,rfl,trivial⟩ ⟨by dsimp only;omega,by dsimp only;omega,by dsimp only;omega,by rw [hnth,hst]⟩ (by dsimp only;omega) (fun _ _ h=>h)
  ·have hi2:run1.length≤i:=by have:=Ly h;omega
   have hch:g8 E.ms E.ls (jH E.ms E.ls k) e.l.Ignore p run1 c=run1:=by
    unfold g8
    rw [hnth,E4 hi2]
   rw [hch] at hfd
   clear h
   refine W0y ?_
   exact aC (n+1,q1,run1) rfl ⟨by rw [Lv];rfl,trivial⟩ ⟨hn2,hq1,hr1,hfd⟩ (by dsimp only;omega) (fun _ _ h=>h)
 ·have hn2:n=cs.length:=by have:=Ly h;omega
  subst hn2
  rw [List.drop_length] at hf
  have hf2:run1=cs.foldl (g8 E.ms E.ls (jH E.ms E.ls k) e.l.Ignore p) run:=hf
  refine W19 ?_
  refine HQ ?_
  exact cJ rfl ⟨q1,by rw [←hf2];exact hq1,by rw [←hf2];rfl⟩
set_option maxHeartbeats 4000000 in
theorem HW {deep k:Nat} (hd:deep < 4) (hca:wC E wb (deep+1) k) (e:om) (hk:e.l.Kind=4) (r:b8) (hro:lr r) (ps:List Nat) (q:Option gy) (run:List aR) (hps:pJ run ps) (hq:dN q run) (hr:run.length≤1000000):
  AC Tryz.prog 103 (kI wb e r ps deep) (jo wb E q run) (gU wb E (jH E.ms E.ls (k+1) e.l r ps run)):=by
 obtain ⟨p,ps',rfl⟩:=List.exists_cons_of_ne_nil hps.some_
 have hpl:=hps.lt p (by simp)
 have hch:=CL wb hd hca e r.Calls hro.calls hro.at_ p (by omega) q run hq hr
 have hdv:jH E.ms E.ls (k+1) e.l r (p::ps') run=r.Calls.foldl (g8 E.ms E.ls (jH E.ms E.ls k) e.l.Ignore p) run:=by
  rw [jH]
  exact if_pos hk
 rw [hdv]
 obtain ⟨⟨kd,ig,rs⟩,cls,fo,ba,fe,be⟩:=e
 dsimp only at hk
 subst hk
 have hp0:(dt (p::ps'))[(0:Int).toNat]?=some [aI p]:=rfl
 refine aS Tryz.func103 rfl Tryz.ntmps103 rfl fun B=>?_
 refine W0O ?_
 refine ar rfl (fun h=>?_) (fun h=>?_)
 ·clear h
  refine W1f ?_
  refine b9 (jo wb E q run) [] hch rfl rfl (by rw [List.append_nil]) rfl fun c L1 ⟨q',h1,h2⟩=>?_
  subst h2
  refine W1S ?_
  exact cJ rfl ⟨q',h1,by rw [List.append_nil]⟩
 ·have:=Ly h
  omega
set_option maxHeartbeats 4000000 in
theorem Fw (e:om) (hk:e.l.Kind=4) (r:b8) (ps:List Nat) (q:Option gy) (run:List aR) (hps:pJ run ps) (hq:dN q run):
  AC Tryz.prog 103 (kI wb e r ps 4) (jo wb E q run) (gU wb E (jH E.ms E.ls 0 e.l r ps run)):=by
 obtain ⟨p,ps',rfl⟩:=List.exists_cons_of_ne_nil hps.some_
 have hdv:jH E.ms E.ls 0 e.l r (p::ps') run=run:=by
  rw [jH]
  dsimp only
  unfold gu
  rw [hk]
  rfl
 rw [hdv]
 obtain ⟨⟨kd,ig,rs⟩,cls,fo,ba,fe,be⟩:=e
 dsimp only at hk
 subst hk
 have hp0:(dt (p::ps'))[(0:Int).toNat]?=some [aI p]:=rfl
 refine aS Tryz.func103 rfl Tryz.ntmps103 rfl fun B=>?_
 repeat' (first|refine a9 ?_|refine a4 ?_|refine ai ?_|refine aj ?_|refine a6 ?_|refine aK ?_|refine a7 ?_|refine LG a5 KZ ?_|(apply aL;first|refine aJ a5 ?_|refine aF a5 ?_)|refine bR rfl ?_|refine bB rfl ?_)
 exact cJ rfl ⟨q,hq,rfl⟩
theorem vv (deep k:Nat) (e:om) (h1:1≤e.l.Kind) (h6:e.l.Kind≤6) (h4:e.l.Kind≠4) (r:b8) (hro:lr r) (ps:List Nat) (q:Option gy) (run:List aR) (hps:pJ run ps) (hq:dN q run) (hr:run.length≤1000000):
  AC Tryz.prog 103 (kI wb e r ps deep) (jo wb E q run) (gU wb E (jH E.ms E.ls k e.l r ps run)):=by
 obtain ⟨p,ps',rfl⟩:=List.exists_cons_of_ne_nil hps.some_
 obtain ⟨m,rfl⟩:=hq.lt (hps.lt p (by simp))
 have hdv:jH E.ms E.ls k e.l r (p::ps') run=gu e.l r (p::ps') run:=by
  cases k with
  | zero=>rw [jH]
  | succ k=>rw [jH];exact if_neg h4
 rw [hdv]
 have hc:e.l.Kind=1∨e.l.Kind=2∨e.l.Kind=3∨e.l.Kind=5∨e.l.Kind=6:=by omega
 rcases hc with hk | hk | hk | hk | hk
 ·exact KG hq hr hro hps deep hk
 ·exact KH hq hr hro hps deep hk
 ·exact KL hq hr hro hps deep hk
 ·exact KM hq hr hro hps deep hk
 ·exact KN hq hr hro hps deep hk
include hE in
theorem D0:∀(k deep:Nat),deep+k=4→IC E wb deep k
 | 0,deep,hd=>by
  intro e r ps q run _ h1 h6 hro hps hq hr
  have jQ:deep=4:=by omega
  subst jQ
  by_cases h4:e.l.Kind=4
  ·exact Fw wb e h4 r ps q run hps hq
  ·exact vv wb 4 0 e h1 h6 h4 r hro ps q run hps hq hr
 | k+1,deep,hd=>by
  intro e r ps q run _ h1 h6 hro hps hq hr
  by_cases h4:e.l.Kind=4
  ·exact HW wb (by omega) (Fk hE wb (by omega) (D0 k (deep+1) (by omega))) e h4 r hro ps q run hps hq hr
  ·exact vv wb deep (k+1) e h1 h6 h4 r hro ps q run hps hq hr
end
end Go.Proofs.YtpmdfoaadejmkaaGreatDoor
namespace Go.Proofs.YtpmdfoaadejmkaaGreatDoor
open Go.RowKit
attribute [local irreducible] AT br AX AO Av Kt b7 dm DA cA
theorem x8 (run:List aR) (hr:run.length≤1000000):AC Tryz.prog 36 [.imm 6 (run.map bS)] [] fun c L=>∃q,dN q run∧c=ew q run∧L=jF q run:=by
 refine aS Tryz.func36 rfl Tryz.ntmps36 rfl fun B=>?_
 have hml:(run.map bS).length=run.length:=Lu ..
 refine W01 ?_
 refine nO a5 rfl rfl rfl rfl rfl fun b hb=>?_
 refine W1y ?_
 cases b with
 | true=>
  have hn:run=[]:=by simpa using hb rfl
  subst hn
  refine W0P ?_
  refine bc (bA (t:=2) (c':= .imm 6 []) rfl fun σ v h=>jy 6 h) ?_
  exact LM KZ ⟨none,⟨fun _=>rfl,fun m h=>by cases h⟩,rfl,rfl⟩
 | false=>
  repeat' (first|refine a9 ?_|refine a4 ?_|refine aj ?_|refine a6 ?_|refine LG a5 KZ ?_|refine DY (d:=5) a5 rfl rfl fun _=>?_|refine bB rfl ?_)
  rename_i b5
  refine jU a5 0 rfl rfl rfl rfl (rP rfl rfl) rfl (Nat.zero_le _) (Nat.le_refl _) (Nat.zero_le _) (by rw [hml];unfold maxLen;omega) (by rw [hml];omega) rfl fun b' cs' cap' e1 e2 e3 e4 e5=>?_
  refine W0c ?_
  have hcs:cs'=c7 run++cs'.drop (run.length * 6):=by
   conv=>lhs;rw [←List.take_append_drop (run.length * 6) cs']
   rw [Nat.zero_add,hml] at e2
   rw [e2]
   rfl
  refine LM KZ ⟨some ⟨b',cap',cs'.drop (run.length * 6)⟩,⟨fun h=>(by cases h),fun m hm=>?_⟩,?_,?_⟩
  ·cases hm
   dsimp only
   rw [←hcs]
   exact ⟨by omega,e4,e1⟩
  ·unfold ew
   dsimp only
   rw [Nat.zero_add,hml]
  ·unfold jF
   dsimp only
   rw [←hcs]
   rfl
theorem qR {R:List aR}:∀{l:List Nat},R.length≤(fR l R).length+l.length
 | []=>by simp [fR]
 | z::l=>by
  have:=qR (R:=R) (l:=l)
  have h2:(fR l R).length≤((fR l R).eraseIdx z).length+1:=by rw [List.length_eraseIdx];split <;> omega
  rw [fR,List.length_cons]
  omega
theorem zk {run:List aR} {p:Nat} {q:List Nat} (h:pJ run (p::q)):p+q.length≤(p::q).getLastD p∧(p::q).getLastD p < run.length∧(q≠[]↔p < (p::q).getLastD p):=by
  have key:∀(q:List Nat) (p:Nat),(p::q).Pairwise (· < ·)→p+q.length≤(p::q).getLast (by simp):=by
    intro q
    induction q with
    | nil=>intro p _;simp
    | cons a q ih=>
      intro p hp
      obtain ⟨h1,h2⟩:=List.pairwise_cons.1 hp
      have:=ih a h2
      have:=h1 a (by simp)
      rw [List.getLast_cons (by simp),List.length_cons]
      omega
  have hk:=key q p h.inc
  have he:(p::q).getLastD p=(p::q).getLast (by simp):=by rw [List.getLastD_eq_getLast?,List.getLast?_eq_some_getLast (by simp)];rfl
  rw [he]
  refine ⟨hk,h.lt _ (List.getLast_mem _),fun hq=>?_,fun hq e=>?_⟩
  · have:0 < q.length:=List.length_pos_iff.2 hq
    omega
  · subst e
    simp at hq
theorem rW {l:aO} {r:b8} {run:List aR} {p:Nat} {q:List Nat} (h:pJ run (p::q)):run.length - 1 - (p::q).getLastD p≤(gu l r (p::q) run).length:=by
 obtain ⟨h1,h2,_⟩:=zk h
 unfold gu
 split
 ·unfold gM;split <;> (try split) <;> (try split) <;> (try rw [List.length_set]) <;> omega
 split
 ·unfold ja
  split
  ·omega
  ·split
   ·omega
   ·simp only [List.length_append,List.length_take,List.length_drop,Lu,List.headD_cons]
    omega
 split
 ·unfold nJ
  split
  ·rename_i heq _
   cases heq
   split
   ·rename_i x hx
    have key:∀y:aR,run.length - 1 - (p::q).getLastD p≤(fR q (run.set p y)).length:=fun y=>by
     have:=qR (R:=run.set p y) (l:=q)
     rw [List.length_set] at this
     omega
    exact key _
   ·omega
  ·omega
 split
 ·unfold t6;split <;> (try rw [List.length_set]) <;> omega
 ·omega
theorem CY {ms:List Bool} {ls:List aO} {k:Nat} {l:aO} (hk:l.Kind≠4) {r:b8} {run:List aR} {p:Nat} {q:List Nat} (h:pJ run (p::q)):run.length - 1 - (p::q).getLastD p≤(jH ms ls k l r (p::q) run).length:=by
 cases k with
 | zero=>rw [jH];exact rW h
 | succ k=>rw [jH];dsimp only;rw [if_neg hk];exact rW h
end Go.Proofs.YtpmdfoaadejmkaaGreatDoor
