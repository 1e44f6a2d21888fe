/-
  What an engine's rules do with a run: all but chains.
-/
import Derived.Test.YtpmdfoaadejmkaaGreatDoorM18
import Derived.Test.YtpmdfoaadejmkaaGreatDoorM14
import Derived.Test.YtpmdfoaadejmkaaGreatDoorM15
namespace Go.Proofs.YtpmdfoaadejmkaaGreatDoor
open Go.RowKit
attribute [local irreducible] AT bI AX AO Av Kt bi dx DA cK
section
variable {P:Program} {tt:TT} {l:List Oper} {fr:c7} {fin:jO} {sk:mG} {acc:c7} {L:AL} {k:Nat} {dd:Option Tmp} {ty t t':TypeId} {pos:String} {af:Array Edge} {g:Option (Nat×Bool)} {x y:Operand} {u:AV}
theorem Gv {q:IntKind} {a b:Int} (hx:bn (cB l.toArray acc fr af.toList) x=some (.sc (.int q a))) (hy:bn (cB l.toArray acc fr af.toList) y=some (.sc (.int q b))) (hg:iX ⟨dd,.binOp .add t x y t',ty,pos,af,g⟩ acc) (h:DA P l fr fin sk ((k,.sc (.int q (q.wrap (a+b))))::acc) L):cK P l fr fin k .v ⟨dd,.binOp .add t x y t',ty,pos,af,g⟩ sk acc L:=f9 hg (zK (AM hx hy)) h
end
structure mK (run:List aJ) (ps:List Nat):Prop where
  some_:ps≠[]
  lt:∀j∈ps,j < run.length
  inc:ps.Pairwise (· < ·)
structure jQ (r:bc):Prop where
 some_:r.In≠[]
 out:r.Out.length≤1000000
 calls:r.Calls.length≤1000000
 at_:∀c∈r.Calls,0≤c.At∧c.At≤1000000
abbrev jZ (wb:Nat) (e:po) (r:bc) (ps:List Nat) (deep:Nat):List AV:=[g8 wb,.iptr (fA e),.iptr (bB (eY r)),.imm 1 (bW ps),aF deep]
def gD (wb:Nat) (E:pp) (run':List aJ):AV→AL→Prop:=fun _ L=>∃q',dW q' run'∧L=jn wb E q' run'
section
variable {E:pp} {wb:Nat} {m:gc} {run:List aJ} (hq:dW (some m) run) (hr:run.length≤1000000) {e:po} {r:bc} (hro:jQ r) {ps:List Nat} (hps:mK run ps) (deep:Nat)
include hq hr hro hps
set_option maxHeartbeats 4000000 in
theorem J6 (hk:e.l.Kind=2):AC Tryz.prog 103 (jZ wb e r ps deep) (jn wb E (some m) run) (gD wb E (dX e.l r ps run)):=by
 obtain ⟨⟨kd,ig,rs⟩,cls,fo,ba,fe,be⟩:=e
 dsimp only at hk
 subst hk
 obtain ⟨p,q,rfl⟩:=List.exists_cons_of_ne_nil hps.some_
 have hpl:=hps.lt p (by simp)
 obtain ⟨x,hx⟩:∃x,run[p]?=some x:=⟨_,Jz hpl⟩
 have hp0:(bW (p::q))[(0:Int).toNat]?=some [aF p]:=rfl
 have hm:=Cy E wb m run hq hr p x hx r hro.out
 refine aM Tryz.func103 rfl Tryz.ntmps103 rfl fun B=>?_
 repeat' (first|refine Ji ?_|refine am ?_|refine JF a5 H6 ?_|(apply aO;first|refine aN a5 ?_|refine aG a5 ?_)|refine bC rfl ?_|refine bA rfl ?_)
 refine b8 (jn wb E (some m) run) [] hm rfl rfl (by rw [List.append_nil]) rfl fun c L1 ⟨q',h1,h2⟩=>?_
 subst h2
 repeat' (first|refine Ji ?_|fail)
 exact cG rfl ⟨q',h1,by rw [List.append_nil];rfl⟩
set_option maxHeartbeats 4000000 in
theorem J5 (hk:e.l.Kind=1):AC Tryz.prog 103 (jZ wb e r ps deep) (jn wb E (some m) run) (gD wb E (dX e.l r ps run)):=by
 have _:=hr
 obtain ⟨⟨kd,ig,rs⟩,cls,fo,ba,fe,be⟩:=e
 dsimp only at hk
 subst hk
 obtain ⟨p,q,rfl⟩:=List.exists_cons_of_ne_nil hps.some_
 have hpl:=hps.lt p (by simp)
 obtain ⟨x,hx⟩:∃x,run[p]?=some x:=⟨_,Jz hpl⟩
 have hp0:(bW (p::q))[(0:Int).toNat]?=some [aF p]:=rfl
 obtain ⟨i0,is,hin⟩:=List.exists_cons_of_ne_nil hro.some_
 have hin0:(b9 (eY r).In)[(0:Int).toNat]?=some [.imm 1 (aX i0)]:=by
  show (b9 r.In)[0]?=_
  rw [hin]
  rfl
 have hsv:dX ⟨1,ig,rs⟩ r (p::q) run=du r p run:=rfl
 rw [hsv]
 have hsg:du r p run=match r.Out[i0.idxOf x.Glyph]? with
   | none=>run
   | some g=>if i0.idxOf x.Glyph < i0.length then run.set p { x with Glyph:=g } else run:=by
  unfold du
  rw [hx,hin]
  rfl
 have hol:=aZ r.Out
 have h0:=oO (j:=0) m.junk hx rfl
 obtain ⟨g1,g2,g3⟩:=hq.fit m rfl
 have hfl:=dm run
 refine aM Tryz.func103 rfl Tryz.ntmps103 rfl fun B=>?_
 repeat' (first|refine Ji ?_|refine am ?_|refine JF a5 H6 ?_|(apply aO;first|refine aN a5 ?_|refine aG a5 ?_)|refine bC rfl ?_)
 refine bw 15 [(0,.v),(1,.v),(2,.v),(3,.v),(4,.v),(5,.v),(6,.v),(7,.v),(8,.v),(9,.l),(10,.v),(11,.v),(12,.v),(13,.l),(14,.v)] none ?_ trivial rfl (by kernel_rfl) (by kernel_rfl) (by kernel_rfl) bR (by kernel_rfl) rfl
 repeat' (first|refine aD ?_|refine b7 a5 ?_|(apply bV;refine cn a5 ?_)|refine ca a5 0 rfl rfl rfl rfl (by first|trivial|rfl) ?_)
 refine dl a5 rfl rfl rfl ⟨by omega,by omega⟩ trivial ?_
 repeat' (first|refine aD ?_|refine b7 a5 ?_|fail)
 refine ca a5 1 rfl rfl rfl h0 trivial ?_
 repeat' (first|refine aD ?_|(apply cQ;refine dg ?_)|fail)
 refine JQ [0,2,10,37] H6 ?_
 repeat' (first|refine Ji ?_|refine a7 ?_|refine JF a5 H6 ?_)
 have hst:(eY r).Out=r.Out:=rfl
 generalize hn:(if x.Glyph∈i0 then ((i0.idxOf x.Glyph:Nat):Int) else -1)=n
 refine bX [0,2,10,11] (0≤n∧n < r.Out.length) rfl (fun Q' K=>?_) (fun hC=>?_) (fun hC=>?_)
 ·repeat' (first|refine Ji ?_|refine JF a5 H6 ?_|refine JN H6 ?_|refine JO JB ?_|refine JR JA (fun _=>?_) (fun _=>?_))
  all_goals exact K _ _ rfl rfl (by rw [hst,hol] at *;simp_all <;> omega)
 ·have hm:x.Glyph∈i0:=Classical.byContradiction fun hm=>by rw [if_neg hm] at hn;omega
  rw [if_pos hm] at hn
  subst hn
  have hlt:i0.idxOf x.Glyph < r.Out.length:=by omega
  obtain ⟨g,hg⟩:∃g,r.Out[i0.idxOf x.Glyph]?=some g:=⟨_,Jz hlt⟩
  have hgg:(aX (eY r).Out)[((i0.idxOf x.Glyph:Nat):Int).toNat]?=some [aF g]:=by rw [Int.toNat_natCast];exact bP hg
  rw [hg] at hsg
  dsimp only at hsg
  rw [if_pos (List.idxOf_lt_length_of_mem hm)] at hsg
  rw [hsg]
  have hst:=kZ (j:=0) { x with Glyph:=g } (aF g) m.junk hx (by omega) rfl
  repeat' (first|fail)
  refine bw 12 [(0,.v),(1,.v),(2,.v),(3,.l),(4,.v),(5,.v),(6,.v),(7,.v),(8,.v),(9,.v),(10,.v),(11,.v)] none ?_ trivial rfl (by kernel_rfl) (by kernel_rfl) (by kernel_rfl) bR (by kernel_rfl) rfl
  repeat' (first|refine aD ?_|refine b7 a5 ?_|(apply bV;refine cn a5 ?_)|refine ca a5 0 rfl rfl rfl rfl (by first|trivial|rfl) ?_)
  refine JQ [52,53,60] H6 ?_
  repeat' (first|refine JF a5 H6 ?_|(apply aO;first|refine aN a5 ?_|refine aG a5 ?_)|fail)
  refine aa a5 1 rfl rfl rfl rfl rfl rfl (Nat.ble_eq_true_of_le (by rw [Int.toNat_natCast];simp;omega)) ?_
  rw [hst]
  repeat' (first|refine Ji ?_|fail)
  exact cG rfl ⟨some m,hq.set p _,pH⟩
 ·have hsg2:du r p run=run:=by
   rw [hsg]
   split
   ·rfl
   ·rename_i g hg
    rw [if_neg]
    intro h
    rw [if_pos (List.idxOf_lt_length_iff.1 h)] at hn
    have:=(Jp hg).1
    omega
  rw [hsg2]
  repeat' (first|refine Ji ?_|fail)
  exact cG rfl ⟨some m,hq,rfl⟩
set_option maxHeartbeats 4000000 in
theorem J8 (hk:e.l.Kind=5):AC Tryz.prog 103 (jZ wb e r ps deep) (jn wb E (some m) run) (gD wb E (dX e.l r ps run)):=by
 have _:=hr
 obtain ⟨⟨kd,ig,rs⟩,cls,fo,ba,fe,be⟩:=e
 dsimp only at hk
 subst hk
 obtain ⟨p,q,rfl⟩:=List.exists_cons_of_ne_nil hps.some_
 have hpl:=hps.lt p (by simp)
 obtain ⟨x,hx⟩:∃x,run[p]?=some x:=⟨_,Jz hpl⟩
 have hp0:(bW (p::q))[(0:Int).toNat]?=some [aF p]:=rfl
 obtain ⟨i0,is,hin⟩:=List.exists_cons_of_ne_nil hro.some_
 have hin0:(b9 (eY r).In)[(0:Int).toNat]?=some [.imm 1 (aX i0)]:=by
  show (b9 r.In)[0]?=_
  rw [hin]
  rfl
 have hsv:dX ⟨5,ig,rs⟩ r (p::q) run=du r p run:=rfl
 rw [hsv]
 have hsg:du r p run=match r.Out[i0.idxOf x.Glyph]? with
   | none=>run
   | some g=>if i0.idxOf x.Glyph < i0.length then run.set p { x with Glyph:=g } else run:=by
  unfold du
  rw [hx,hin]
  rfl
 have hol:=aZ r.Out
 have h0:=oO (j:=0) m.junk hx rfl
 obtain ⟨g1,g2,g3⟩:=hq.fit m rfl
 have hfl:=dm run
 refine aM Tryz.func103 rfl Tryz.ntmps103 rfl fun B=>?_
 repeat' (first|refine Ji ?_|refine am ?_|refine JF a5 H6 ?_|(apply aO;first|refine aN a5 ?_|refine aG a5 ?_)|refine bC rfl ?_|refine bA rfl ?_)
 refine bw 15 [(0,.v),(1,.v),(2,.v),(3,.v),(4,.v),(5,.v),(6,.v),(7,.v),(8,.v),(9,.l),(10,.v),(11,.v),(12,.v),(13,.l),(14,.v)] none ?_ trivial rfl (by kernel_rfl) (by kernel_rfl) (by kernel_rfl) bR (by kernel_rfl) rfl
 repeat' (first|refine aD ?_|refine b7 a5 ?_|(apply bV;refine cn a5 ?_)|refine ca a5 0 rfl rfl rfl rfl (by first|trivial|rfl) ?_)
 refine dl a5 rfl rfl rfl ⟨by omega,by omega⟩ trivial ?_
 repeat' (first|refine aD ?_|refine b7 a5 ?_|fail)
 refine ca a5 1 rfl rfl rfl h0 trivial ?_
 repeat' (first|refine aD ?_|(apply cQ;refine dg ?_)|fail)
 refine JQ [0,2,10,37] H6 ?_
 repeat' (first|refine Ji ?_|refine a7 ?_|refine JF a5 H6 ?_)
 have hst:(eY r).Out=r.Out:=rfl
 generalize hn:(if x.Glyph∈i0 then ((i0.idxOf x.Glyph:Nat):Int) else -1)=n
 refine bX [0,2,10,11] (0≤n∧n < r.Out.length) rfl (fun Q' K=>?_) (fun hC=>?_) (fun hC=>?_)
 ·repeat' (first|refine Ji ?_|refine JF a5 H6 ?_|refine JN H6 ?_|refine JO JB ?_|refine JR JA (fun _=>?_) (fun _=>?_))
  all_goals exact K _ _ rfl rfl (by rw [hst,hol] at *;simp_all <;> omega)
 ·have hm:x.Glyph∈i0:=Classical.byContradiction fun hm=>by rw [if_neg hm] at hn;omega
  rw [if_pos hm] at hn
  subst hn
  have hlt:i0.idxOf x.Glyph < r.Out.length:=by omega
  obtain ⟨g,hg⟩:∃g,r.Out[i0.idxOf x.Glyph]?=some g:=⟨_,Jz hlt⟩
  have hgg:(aX (eY r).Out)[((i0.idxOf x.Glyph:Nat):Int).toNat]?=some [aF g]:=by rw [Int.toNat_natCast];exact bP hg
  rw [hg] at hsg
  dsimp only at hsg
  rw [if_pos (List.idxOf_lt_length_of_mem hm)] at hsg
  rw [hsg]
  have hst:=kZ (j:=0) { x with Glyph:=g } (aF g) m.junk hx (by omega) rfl
  repeat' (first|fail)
  refine bw 12 [(0,.v),(1,.v),(2,.v),(3,.l),(4,.v),(5,.v),(6,.v),(7,.v),(8,.v),(9,.v),(10,.v),(11,.v)] none ?_ trivial rfl (by kernel_rfl) (by kernel_rfl) (by kernel_rfl) bR (by kernel_rfl) rfl
  repeat' (first|refine aD ?_|refine b7 a5 ?_|(apply bV;refine cn a5 ?_)|refine ca a5 0 rfl rfl rfl rfl (by first|trivial|rfl) ?_)
  refine JQ [52,53,60] H6 ?_
  repeat' (first|refine JF a5 H6 ?_|(apply aO;first|refine aN a5 ?_|refine aG a5 ?_)|fail)
  refine aa a5 1 rfl rfl rfl rfl rfl rfl (Nat.ble_eq_true_of_le (by rw [Int.toNat_natCast];simp;omega)) ?_
  rw [hst]
  repeat' (first|refine Ji ?_|fail)
  exact cG rfl ⟨some m,hq.set p _,pH⟩
 ·have hsg2:du r p run=run:=by
   rw [hsg]
   split
   ·rfl
   ·rename_i g hg
    rw [if_neg]
    intro h
    rw [if_pos (List.idxOf_lt_length_iff.1 h)] at hn
    have:=(Jp hg).1
    omega
  rw [hsg2]
  repeat' (first|refine Ji ?_|fail)
  exact cG rfl ⟨some m,hq,rfl⟩
set_option maxHeartbeats 4000000 in
theorem J7 (hk:e.l.Kind=3):AC Tryz.prog 103 (jZ wb e r ps deep) (jn wb E (some m) run) (gD wb E (dX e.l r ps run)):=by
 have _:=hro
 obtain ⟨⟨kd,ig,rs⟩,cls,fo,ba,fe,be⟩:=e
 dsimp only at hk
 subst hk
 obtain ⟨p,q,rfl⟩:=List.exists_cons_of_ne_nil hps.some_
 have hpl:=hps.lt p (by simp)
 obtain ⟨x,hx⟩:∃x,run[p]?=some x:=⟨_,Jz hpl⟩
 have hp0:(bW (p::q))[(0:Int).toNat]?=some [aF p]:=rfl
 have hol:=aZ (eY r).Out
 have hst:(eY r).Out=r.Out:=rfl
 rw [hst] at hol
 refine aM Tryz.func103 rfl Tryz.ntmps103 rfl fun B=>?_
 repeat' (first|refine Ji ?_|refine am ?_|refine JF a5 H6 ?_|(apply aO;first|refine aN a5 ?_|refine aG a5 ?_)|refine bC rfl ?_|refine bA rfl ?_)
 refine ar rfl (fun h=>?_) (fun h=>?_)
 ·have hne:r.Out≠[]:=fun e=>by rw [hst,e] at h;cases h
  obtain ⟨g,gs,hg⟩:=List.exists_cons_of_ne_nil hne
  have hj:=EB E wb m run hq hr p q hps.lt hps.inc x hx r g gs hg
  have hg0:(aX (eY r).Out)[(0:Int).toNat]?=some [aF g]:=by rw [hst,hg];rfl
  clear h
  repeat' (first|refine Ji ?_|refine JF a5 H6 ?_|(apply aO;first|refine aN a5 ?_|refine aG a5 ?_)|fail)
  refine b8 (jn wb E (some m) run) [] hj rfl rfl (by rw [List.append_nil]) rfl fun c L1 ⟨q',h1,h2⟩=>?_
  subst h2
  repeat' (first|refine Ji ?_|fail)
  exact cG rfl ⟨q',h1,by rw [List.append_nil];rfl⟩
 ·have hz:r.Out=[]:=List.eq_nil_of_length_eq_zero (by have:=Jx h;rw [hst] at this;omega)
  have hsv:dX ⟨3,ig,rs⟩ r (p::q) run=run:=by
   show gz r (p::q) run=run
   unfold gz
   rw [hz]
  rw [hsv]
  repeat' (first|refine Ji ?_|fail)
  exact cG rfl ⟨some m,hq,rfl⟩
set_option maxHeartbeats 4000000 in
theorem J9 (hk:e.l.Kind=6):AC Tryz.prog 103 (jZ wb e r ps deep) (jn wb E (some m) run) (gD wb E (dX e.l r ps run)):=by
 have _:=hr
 have _:=hro
 obtain ⟨⟨kd,ig,rs⟩,cls,fo,ba,fe,be⟩:=e
 dsimp only at hk
 subst hk
 obtain ⟨p,q,rfl⟩:=List.exists_cons_of_ne_nil hps.some_
 have hpl:=hps.lt p (by simp)
 obtain ⟨x,hx⟩:∃x,run[p]?=some x:=⟨_,Jz hpl⟩
 have hp0:(bW (p::q))[(0:Int).toNat]?=some [aF p]:=rfl
 have hsv:dX ⟨6,ig,rs⟩ r (p::q) run=run.set p { x with Advance:=IntKind.i64.wrap (x.Advance+r.X) }:=by
  show kE r p run=_
  unfold kE
  rw [hx]
 rw [hsv]
 have h3:=oO (j:=3) m.junk hx rfl
 have hst:=kZ (j:=3) { x with Advance:=IntKind.i64.wrap (x.Advance+r.X) } (aF (IntKind.i64.wrap (x.Advance+r.X))) m.junk hx (by omega) rfl
 obtain ⟨g1,g2,g3⟩:=hq.fit m rfl
 have hfl:=dm run
 refine aM Tryz.func103 rfl Tryz.ntmps103 rfl fun B=>?_
 repeat' (first|refine Ji ?_|refine am ?_|refine JF a5 H6 ?_|(apply aO;first|refine aN a5 ?_|refine aG a5 ?_)|refine bC rfl ?_|refine bA rfl ?_)
 refine bw 13 [(0,.v),(1,.v),(2,.v),(3,.l),(4,.v),(5,.v),(6,.v),(7,.l),(8,.v),(9,.v),(10,.v),(11,.v),(12,.v)] none ?_ trivial rfl (by kernel_rfl) (by kernel_rfl) (by kernel_rfl) bR (by kernel_rfl) rfl
 repeat' (first|refine aD ?_|refine b7 a5 ?_|refine ca a5 0 rfl rfl rfl rfl (by first|trivial|rfl) ?_)
 refine dl a5 rfl rfl rfl ⟨by omega,by omega⟩ trivial ?_
 repeat' (first|refine aD ?_|refine b7 a5 ?_|fail)
 refine ca a5 1 rfl rfl rfl h3 trivial ?_
 repeat' (first|refine aD ?_|refine b7 a5 ?_|fail)
 refine Gv rfl rfl trivial ?_
 repeat' (first|fail)
 refine JQ [107,108,116] H6 ?_
 repeat' (first|refine JF a5 H6 ?_|(apply aO;first|refine aN a5 ?_|refine aG a5 ?_)|fail)
 refine aa a5 1 rfl rfl rfl rfl rfl rfl (Nat.ble_eq_true_of_le (by rw [Int.toNat_natCast];simp;omega)) ?_
 have hsx:(eY r).X=r.X:=rfl
 rw [hsx,hst]
 repeat' (first|refine Ji ?_|fail)
 exact cG rfl ⟨some m,hq.set p _,pH⟩
end
end Go.Proofs.YtpmdfoaadejmkaaGreatDoor
namespace Go.Proofs.YtpmdfoaadejmkaaGreatDoor
open Go.RowKit
attribute [local irreducible] AT bI AX AO Av Kt bi dx DA cK
structure lV (E:pp):Prop where
 auto:∀e∈E.lks,1≤e.l.Kind→e.l.Kind≤6→kN e
 rule:∀e∈E.lks,∀r∈e.l.Rules,r.In≠[]→jQ r
abbrev pp.ls (E:pp):List aL:=E.lks.map (·.l)
theorem sC {ms:List Bool} {ig:Bool} {run:List aJ} {i:Nat} (hi:i < run.length) {n:Int} (h0:0≤n):kJ ms ig run i n=if eX ms ig run i=true then (if n=0 then some i else kJ ms ig run (i+1) (n - 1)) else kJ ms ig run (i+1) n:=by
 unfold kJ
 rw [if_pos h0,iG hi]
 split
 ·split
  ·rename_i hn
   subst hn
   rfl
  ·rw [if_pos (by omega),show n.toNat=(n - 1).toNat+1 by omega,List.getElem?_cons_succ]
 ·rfl
theorem ve {ms:List Bool} {ig:Bool} {run:List aJ} {i:Nat} (hi:run.length≤i) (n:Int):kJ ms ig run i n=none:=by
 unfold kJ
 rw [oa hi]
 split <;> simp
theorem EK {ms:List Bool} {ig:Bool} {run:List aJ} {i:Nat} {n:Int} {j:Nat} (h:kJ ms ig run i n=some j):j < run.length:=by
 unfold kJ at h
 split at h
 ·exact (qx j (Jw h)).2.1
 ·cases h
theorem zl {ms:List Bool} {ig:Bool} {run:List aJ} {i:Nat}:(cH ms ig run i).Pairwise (· < ·):=by
  unfold cH
  exact List.Pairwise.filter _ (List.pairwise_lt_range' ..)
theorem zR {ms:List Bool} {l:aL} {run:List aJ} {i:Nat} {forms:List Int} {r:bc} (h:dQ ms l run i forms=some r):mK run (cW ms l run i r)∧r∈l.Rules∧r.In≠[]∧i < run.length∧(cW ms l run i r).head?=some i:=by
 unfold dQ at h
 split at h
 ·rename_i hb
  have hm:=List.mem_of_find?_eq_some h
  obtain ⟨h1,h2⟩:=lu (List.find?_some h)
  unfold gg at hb
  split at hb
  ·rename_i x hx
   have hil:=(Jp hx).1
   rw [Bool.and_eq_true] at hb
   have hs:eX ms l.Ignore run i=true:=by rw [jI hx];exact hb.1
   have hf:cH ms l.Ignore run i=i::cH ms l.Ignore run (i+1):=by rw [iG hil,if_pos hs]
   obtain ⟨n,hn⟩:∃n,r.In.length=n+1:=⟨r.In.length - 1,by omega⟩
   have hp:cW ms l run i r=i::(cH ms l.Ignore run (i+1)).take n:=by unfold cW;rw [hf,hn,List.take_succ_cons]
   refine ⟨⟨by rw [hp];simp,fun j hj=>(qx j (List.mem_of_mem_take hj)).2.1,?_⟩,hm,fun e=>by rw [e] at h1;simp at h1,hil,by rw [hp];rfl⟩
   exact zl.sublist (List.take_sublist ..)
  ·cases hb
 ·cases h
def fM (a b:Nat):Prop:=b≤max a 500
theorem ou {l:aL} {r:bc} {ps:List Nat} {run:List aJ}:fM run.length (dX l r ps run).length:=by
 unfold dX fM
 split
 ·unfold du;split <;> (try split) <;> (try split) <;> (try rw [List.length_set]) <;> omega
 split
 ·unfold eH
  split
  ·omega
  ·split
   ·omega
   ·rename_i x hx hh
    have:=(Jp hx).1
    simp only [List.length_append,List.length_take,List.length_drop,Ju]
    omega
 split
 ·unfold gz
  split
  ·split
   ·refine Nat.le_trans lG.length_le ?_
    rw [List.length_set];omega
   ·omega
  ·omega
 split
 ·unfold kE;split <;> (try rw [List.length_set]) <;> omega
 ·omega
theorem fM.trans {a b c:Nat} (h:fM a b) (k:fM b c):fM a c:=by unfold fM at *;omega
theorem nY {ms:List Bool} {ls:List aL} {d:Ic} (hd:∀l r ps run,fM run.length (d l r ps run).length) {n:Int} {i:Nat} {run:List aJ}:fM run.length (i7 ms ls d n i run).length:=by
 unfold i7
 split
 ·unfold fM;omega
 ·split
  ·unfold fM;omega
  ·split
   ·unfold fM;omega
   ·split
    ·unfold fM;omega
    ·exact hd ..
theorem io {ms:List Bool} {ls:List aL}:∀(k:Nat) (l:aL) (r:bc) (ps:List Nat) (run:List aJ),fM run.length (fS ms ls k l r ps run).length
 | 0,_,_,_,_=>ou
 | k+1,l,r,ps,run=>by
  unfold fS
  split
  ·have key:∀(cs:List gR) (run:List aJ),fM run.length (cs.foldl (fJ ms ls (fS ms ls k) l.Ignore (ps.headD 0)) run).length:=by
    intro cs
    induction cs with
    | nil=>intro run;unfold fM;simp;omega
    | cons c cs ih=>
     intro run
     rw [List.foldl_cons]
     refine fM.trans ?_ (ih _)
     unfold fJ
     split
     ·unfold fM;omega
     ·exact nY (io k)
   exact key _ _
  ·exact ou
theorem fM.big {a b:Nat} (h:fM a b) (ha:a≤1000000):b≤1000000:=by unfold fM at h;omega
section
variable {E:pp} (hE:lV E) (wb:Nat)
def Ha (E:pp) (wb deep k:Nat):Prop:=∀(e:po) (r:bc) (ps:List Nat) (q:Option gc) (run:List aJ),e∈E.lks→1≤e.l.Kind→e.l.Kind≤6→jQ r→mK run ps→dW q run→run.length≤1000000→
 AC Tryz.prog 103 (jZ wb e r ps deep) (jn wb E q run) (gD wb E (fS E.ms E.ls k e.l r ps run))
def vL (E:pp) (wb deep k:Nat):Prop:=∀(n:Int) (i:Nat) (q:Option gc) (run:List aJ),i < run.length→dW q run→run.length≤1000000→
 AC Tryz.prog 261 [g8 wb,aF n,aF i,aF deep] (jn wb E q run) (gD wb E (i7 E.ms E.ls (fS E.ms E.ls k) n i run))
theorem rX (E:pp):(E.lks.map fA).length=E.lks.length:=by simp
include hE in
set_option maxHeartbeats 4000000 in
theorem DY {deep k:Nat} (hd:deep≤4) (hdo:Ha E wb deep k):vL E wb deep k:=by
 intro n i q run hi hq hr
 refine aM Tryz.func261 rfl Tryz.ntmps261 rfl fun B=>?_
 have hll:=rX E
 repeat' (first|refine Ji ?_|refine JF a5 H6 ?_)
 refine bX [0,1,2,3] (n < 0∨(E.lks.length:Int)≤n) rfl (fun Q' K=>?_) (fun hC=>?_) (fun hC=>?_)
 ·repeat' (first|refine Ji ?_|refine JF a5 H6 ?_|refine JN H6 ?_|refine JO JB ?_|(apply bE;first|refine JI a5 0 JC ?_|refine JI a5 1 JC ?_|refine JI a5 2 JC ?_|refine JI a5 3 JC ?_|refine JJ a5 0 JC ?_|refine JJ a5 1 JC ?_|refine JJ a5 2 JC ?_|refine JK a5 1 JA (by assumption) rfl ?_|refine JK a5 0 JA (by assumption) rfl ?_|fail)|refine JR JA (fun _=>?_) (fun _=>?_))
  all_goals exact K _ _ rfl rfl (by simp_all <;> omega)
 ·have hv:i7 E.ms E.ls (fS E.ms E.ls k) n i run=run:=by
   unfold i7
   by_cases h0:n < 0
   ·rw [if_pos h0]
   ·rw [if_neg h0,List.getElem?_eq_none (by rw [Ju];omega)]
  rw [hv]
  repeat' (first|refine Ji ?_|fail)
  exact pw rfl ⟨q,hq,rfl⟩
 obtain ⟨e,he⟩:∃e,E.lks[n.toNat]?=some e:=⟨_,Jz (by omega)⟩
 have heg:(E.lks.map fA)[n.toNat]?=some (fA e):=by simp [he]
 have hem:=Jw he
 have hcv:i7 E.ms E.ls (fS E.ms E.ls k) n i run=if e.l.Kind < 1∨4 < e.l.Kind then run else match dQ E.ms e.l run i [] with
   | none=>run
   | some r=>fS E.ms E.ls k e.l r (cW E.ms e.l run i r) run:=by
  unfold i7
  rw [if_neg (by omega),List.getElem?_map,he]
  rfl
 repeat' (first|refine Ji ?_|refine JF a5 H6 ?_|(apply bE;first|refine JI a5 0 JC ?_|refine JI a5 1 JC ?_|refine JI a5 2 JC ?_|refine JI a5 3 JC ?_|refine JJ a5 0 JC ?_|refine JJ a5 1 JC ?_|refine JJ a5 2 JC ?_|refine JK a5 1 JA (by assumption) rfl ?_|refine JK a5 0 JA (by assumption) rfl ?_|fail)|(apply aO;first|refine aN a5 ?_|refine aG a5 ?_)|fail)
 refine bX [0,2,3,8] (e.l.Kind < 1∨4 < e.l.Kind) rfl (fun Q' K=>?_) (fun hC2=>?_) (fun hC2=>?_)
 ·repeat' (first|refine Ji ?_|refine JF a5 H6 ?_|refine JN H6 ?_|refine JO JB ?_|refine JR JA (fun _=>?_) (fun _=>?_))
  all_goals exact K _ _ rfl rfl (by simp_all <;> omega)
 ·rw [if_pos hC2] at hcv
  rw [hcv]
  repeat' (first|refine Ji ?_|fail)
  exact pw rfl ⟨q,hq,rfl⟩
 rw [if_neg hC2] at hcv
 rw [hcv]
 have hau:=hE.auto e hem (by omega) (by omega)
 have hma:=AC.args (a:=[g8 wb,.iptr (fA e),aF i,.sc (.slice none 0 0)]) (qO E e hau wb q run hq hr i (by omega) []) ⟨cU.refl _,cU.refl _,cU.refl _,cU.nil 1,trivial⟩
 repeat' (first|refine Ji ?_|refine JF a5 H6 ?_)
 refine b8 (jn wb E q run) [] hma rfl rfl (by rw [List.append_nil]) rfl fun c L1 ⟨hc,hL⟩=>?_
 subst hc;subst hL
 unfold lg
 cases hmv:dQ E.ms e.l run i [] with
 | none=>
  dsimp only
  repeat' (first|refine Ji ?_|refine JF a5 H6 ?_)
  refine tG Tryz.underlying190 rfl rfl rfl rfl ?_
  repeat' (first|refine Ji ?_|refine bA rfl ?_)
  exact cG rfl ⟨q,hq,by rw [List.append_nil]⟩
 | some r=>
  dsimp only
  obtain ⟨hps,hrm,hin,_,_⟩:=zR hmv
  have hdc:=hdo e r (cW E.ms e.l run i r) q run hem (by omega) (by omega) (hE.rule e hem r hrm hin) hps hq hr
  repeat' (first|refine Ji ?_|refine JF a5 H6 ?_)
  refine tG Tryz.underlying190 rfl rfl rfl rfl ?_
  repeat' (first|refine Ji ?_|refine JF a5 H6 ?_|refine bC rfl ?_)
  refine b8 (jn wb E q run) [] hdc rfl rfl (by rw [List.append_nil]) rfl fun c L1 ⟨q',h1,h2⟩=>?_
  subst h2
  repeat' (first|refine Ji ?_|fail)
  exact cG rfl ⟨q',h1,by rw [List.append_nil]⟩
set_option maxHeartbeats 4000000 in
theorem Bt {deep k:Nat} (hd:deep < 4) (hca:vL E wb (deep+1) k) (e:po) (cs:List gR) (hcs:cs.length≤1000000) (hca0:∀c∈cs,0≤c.At∧c.At≤1000000) (p:Nat) (hp:p≤1000000) (q:Option gc) (run:List aJ) (hq:dW q run) (hr:run.length≤1000000):
  AC Tryz.prog 193 [g8 wb,.iptr (fA e),.imm 2 (cs.map eM),aF p,aF deep] (jn wb E q run) (gD wb E (cs.foldl (fJ E.ms E.ls (fS E.ms E.ls k) e.l.Ignore p) run)):=by
 refine aM Tryz.func193 rfl Tryz.ntmps193 rfl fun B=>?_
 have hcl:(cs.map eM).length=cs.length:=by simp
 repeat' (first|fail)
 refine Be ?_
 repeat' (first|refine Ji ?_|refine am ?_|refine Bc ?_|refine JF a5 H6 ?_)
 refine aP [0,1,3,4,14,15] (α:=Nat×Option gc×List aJ) (fun s=>[(16,aF s.1)]) (fun s=>s.1≤cs.length∧dW s.2.1 s.2.2∧s.2.2.length≤1000000∧(cs.drop s.1).foldl (fJ E.ms E.ls (fS E.ms E.ls k) e.l.Ignore p) s.2.2=cs.foldl (fJ E.ms E.ls (fS E.ms E.ls k) e.l.Ignore p) run) (fun s=>jn wb E s.2.1 s.2.2) (fun s=>cs.length - s.1) (0,q,run) rfl ⟨rfl,trivial⟩ ⟨Nat.zero_le _,hq,hr,rfl⟩ (fun _ _ h=>h) ?_
 rintro ⟨n,q1,run1⟩ ⟨hn,hq1,hr1,hf⟩
 dsimp only at hn hq1 hr1 hf ⊢
 try dsimp only [Js,Jr,Jq,Jl]
 repeat' (first|refine Ji ?_|refine JF a5 H6 ?_)
 refine ar rfl (fun h=>?_) (fun h=>?_)
 ·have hn2:n < cs.length:=by have:=Jy h;omega
  obtain ⟨c,hc⟩:∃c,cs[n]?=some c:=⟨_,Jz hn2⟩
  have hcg:(cs.map eM)[n]?=some (eM c):=by simp [hc]
  obtain ⟨ha0,ha1⟩:=hca0 c (Jw hc)
  have hfd:(cs.drop (n+1)).foldl (fJ E.ms E.ls (fS E.ms E.ls k) e.l.Ignore p) (fJ E.ms E.ls (fS E.ms E.ls k) e.l.Ignore p run1 c)=cs.foldl (fJ E.ms E.ls (fS E.ms E.ls k) e.l.Ignore p) run:=by
   rw [←hf,List.drop_eq_getElem_cons hn2,List.foldl_cons,(Jp hc).2]
  clear h
  repeat' (first|refine Ji ?_|refine am ?_|refine JF a5 H6 ?_|(apply aO;first|refine aN a5 ?_|refine aG a5 ?_)|(apply aK;first|refine JH 11 a5 0 JE ?_|refine JH 11 a5 1 JE ?_|refine JH 11 a5 2 JE ?_|refine JG a5 0 JD ?_|refine JG a5 1 JD ?_|refine JG a5 2 JD ?_|refine JG a5 3 JD ?_|fail)|refine bj a5 fun _=>?_|fail)
  refine aP [0,1,3,4,11,14,15,16] (α:=Nat×Int) (fun s=>[(13,aF s.1),(12,aF s.2)]) (fun s=>0≤s.2∧s.2≤1000000∧s.1≤1000000∧kJ E.ms e.l.Ignore run1 p c.At=kJ E.ms e.l.Ignore run1 s.1 s.2) (fun s=>jn wb E q1 run1) (fun s=>run1.length - s.1) (p,c.At) rfl ⟨rfl,rfl,trivial⟩ ⟨ha0,ha1,hp,rfl⟩ (fun _ _ h=>h) ?_
  rintro ⟨i,left⟩ ⟨hl0,hl1,hi1,hnth⟩
  dsimp only at hl0 hl1 hi1 hnth ⊢
  try dsimp only [Js,Jr,Jq,Jl]
  repeat' (first|refine Ji ?_|refine JF a5 H6 ?_|(apply bE;first|refine JI a5 0 JC ?_|refine JI a5 1 JC ?_|refine JI a5 2 JC ?_|refine JI a5 3 JC ?_|refine JJ a5 0 JC ?_|refine JJ a5 1 JC ?_|refine JJ a5 2 JC ?_|refine JK a5 1 JA (by assumption) rfl ?_|refine JK a5 0 JA (by assumption) rfl ?_|fail)|fail)
  refine mt a5 rfl hq1 rfl rfl ?_
  repeat' (first|refine Ji ?_|refine JF a5 H6 ?_)
  refine ar rfl (fun h=>?_) (fun h=>?_)
  ·have hi2:i < run1.length:=by have:=Jy h;omega
   obtain ⟨m,rfl⟩:=hq1.lt hi2
   obtain ⟨x,hx⟩:∃x,run1[i]?=some x:=⟨_,Jz hi2⟩
   have hse:=tU E e wb m run1 i x hx
   have hst:=sC (ms:=E.ms) (ig:=e.l.Ignore) hi2 hl0
   rw [jI hx] at hst
   clear h
   repeat' (first|refine Ji ?_|refine am ?_|refine JF a5 H6 ?_)
   refine b8 (vI wb (.iptr (ei E)) (some m) run1) [dU] hse rfl rfl (Jo _) rfl fun c1 L1 ⟨hc1,hL⟩=>?_
   subst hc1;subst hL
   repeat' (first|refine Ji ?_|refine JF a5 H6 ?_)
   refine ar rfl (fun hb=>?_) (fun hb=>?_)
   ·rw [if_neg (by simpa using hb)] at hst
    repeat' (first|refine Ji ?_|refine JF a5 H6 ?_|(apply aS;refine aR ?_)|fail)
    exact aC (i+1,left) rfl ⟨by rw [Jv];rfl,rfl,trivial⟩ ⟨hl0,hl1,by dsimp only;omega,by rw [hnth,hst]⟩ (by dsimp only;omega) (fun _ _ h=>h)
   ·rw [if_pos (by simpa using hb)] at hst
    repeat' (first|refine Ji ?_|refine JF a5 H6 ?_)
    refine ar rfl (fun h0=>?_) (fun h0=>?_)
    ·have hz:=Jy h0
     subst hz
     rw [if_pos rfl] at hst
     have hcc:=hca c.Lookup i (some m) run1 hi2 hq1 hr1
     have hch:fJ E.ms E.ls (fS E.ms E.ls k) e.l.Ignore p run1 c=i7 E.ms E.ls (fS E.ms E.ls k) c.Lookup i run1:=by
      unfold fJ
      rw [hnth,hst]
     rw [hch] at hfd
     clear h0
     repeat' (first|refine Ji ?_|refine JF a5 H6 ?_|(apply aS;refine aR ?_)|fail)
     refine b8 (jn wb E (some m) run1) [] hcc rfl (by rw [Jv];rfl) (by rw [List.append_nil]) rfl fun c2 L2 ⟨q',h1,h2⟩=>?_
     subst h2
     repeat' (first|refine Ji ?_|refine eg rfl ?_|refine JF a5 H6 ?_|(apply aS;refine aR ?_)|fail)
     exact aC (n+1,q',_) rfl ⟨by rw [Jv];rfl,trivial⟩ ⟨hn2,h1,(nY (io k)).big hr1,hfd⟩ (by dsimp only;omega) (fun _ _ h=>by rw [List.append_nil] at h;exact h)
    ·have hz:=Jx h0
     rw [if_neg hz] at hst
     repeat' (first|refine Ji ?_|refine JF a5 H6 ?_|(apply aS;refine aR ?_)|fail)
     exact aC (i+1,left - 1) rfl ⟨by rw [Jv];rfl,rfl,trivial⟩ ⟨by dsimp only;omega,by dsimp only;omega,by dsimp only;omega,by rw [hnth,hst]⟩ (by dsimp only;omega) (fun _ _ h=>h)
  ·have hi2:run1.length≤i:=by have:=Jx h;omega
   have hch:fJ E.ms E.ls (fS E.ms E.ls k) e.l.Ignore p run1 c=run1:=by
    unfold fJ
    rw [hnth,ve hi2]
   rw [hch] at hfd
   clear h
   repeat' (first|refine Ji ?_|refine JF a5 H6 ?_|(apply aS;refine aR ?_)|fail)
   exact aC (n+1,q1,run1) rfl ⟨by rw [Jv];rfl,trivial⟩ ⟨hn2,hq1,hr1,hfd⟩ (by dsimp only;omega) (fun _ _ h=>h)
 ·have hn2:n=cs.length:=by have:=Jx h;omega
  subst hn2
  rw [List.drop_length] at hf
  have hf2:run1=cs.foldl (fJ E.ms E.ls (fS E.ms E.ls k) e.l.Ignore p) run:=hf
  repeat' (first|refine Ji ?_|fail)
  refine Gt ?_
  exact cG rfl ⟨q1,by rw [←hf2];exact hq1,by rw [←hf2];rfl⟩
set_option maxHeartbeats 4000000 in
theorem Gz {deep k:Nat} (hd:deep < 4) (hca:vL E wb (deep+1) k) (e:po) (hk:e.l.Kind=4) (r:bc) (hro:jQ r) (ps:List Nat) (q:Option gc) (run:List aJ) (hps:mK run ps) (hq:dW q run) (hr:run.length≤1000000):
  AC Tryz.prog 103 (jZ wb e r ps deep) (jn wb E q run) (gD wb E (fS E.ms E.ls (k+1) e.l r ps run)):=by
 obtain ⟨p,ps',rfl⟩:=List.exists_cons_of_ne_nil hps.some_
 have hpl:=hps.lt p (by simp)
 have hch:=Bt wb hd hca e r.Calls hro.calls hro.at_ p (by omega) q run hq hr
 have hdv:fS E.ms E.ls (k+1) e.l r (p::ps') run=r.Calls.foldl (fJ E.ms E.ls (fS E.ms E.ls k) e.l.Ignore p) run:=by
  rw [fS]
  exact if_pos hk
 rw [hdv]
 obtain ⟨⟨kd,ig,rs⟩,cls,fo,ba,fe,be⟩:=e
 dsimp only at hk
 subst hk
 have hp0:(bW (p::ps'))[(0:Int).toNat]?=some [aF p]:=rfl
 refine aM Tryz.func103 rfl Tryz.ntmps103 rfl fun B=>?_
 repeat' (first|refine Ji ?_|refine am ?_|refine JF a5 H6 ?_|(apply aO;first|refine aN a5 ?_|refine aG a5 ?_)|refine bC rfl ?_|refine bA rfl ?_)
 refine ar rfl (fun h=>?_) (fun h=>?_)
 ·clear h
  repeat' (first|refine Ji ?_|refine JF a5 H6 ?_)
  refine b8 (jn wb E q run) [] hch rfl rfl (by rw [List.append_nil]) rfl fun c L1 ⟨q',h1,h2⟩=>?_
  subst h2
  repeat' (first|refine Ji ?_|fail)
  exact cG rfl ⟨q',h1,by rw [List.append_nil]⟩
 ·have:=Jx h
  omega
set_option maxHeartbeats 4000000 in
theorem E6 (e:po) (hk:e.l.Kind=4) (r:bc) (ps:List Nat) (q:Option gc) (run:List aJ) (hps:mK run ps) (hq:dW q run):
  AC Tryz.prog 103 (jZ wb e r ps 4) (jn wb E q run) (gD wb E (fS E.ms E.ls 0 e.l r ps run)):=by
 obtain ⟨p,ps',rfl⟩:=List.exists_cons_of_ne_nil hps.some_
 have hdv:fS E.ms E.ls 0 e.l r (p::ps') run=run:=by
  rw [fS]
  dsimp only
  unfold dX
  rw [hk]
  rfl
 rw [hdv]
 obtain ⟨⟨kd,ig,rs⟩,cls,fo,ba,fe,be⟩:=e
 dsimp only at hk
 subst hk
 have hp0:(bW (p::ps'))[(0:Int).toNat]?=some [aF p]:=rfl
 refine aM Tryz.func103 rfl Tryz.ntmps103 rfl fun B=>?_
 repeat' (first|refine Ji ?_|refine am ?_|refine JF a5 H6 ?_|(apply aO;first|refine aN a5 ?_|refine aG a5 ?_)|refine bC rfl ?_|refine bA rfl ?_)
 exact cG rfl ⟨q,hq,rfl⟩
theorem uF (deep k:Nat) (e:po) (h1:1≤e.l.Kind) (h6:e.l.Kind≤6) (h4:e.l.Kind≠4) (r:bc) (hro:jQ r) (ps:List Nat) (q:Option gc) (run:List aJ) (hps:mK run ps) (hq:dW q run) (hr:run.length≤1000000):
  AC Tryz.prog 103 (jZ wb e r ps deep) (jn wb E q run) (gD wb E (fS E.ms E.ls k e.l r ps run)):=by
 obtain ⟨p,ps',rfl⟩:=List.exists_cons_of_ne_nil hps.some_
 obtain ⟨m,rfl⟩:=hq.lt (hps.lt p (by simp))
 have hdv:fS E.ms E.ls k e.l r (p::ps') run=dX e.l r (p::ps') run:=by
  cases k with
  | zero=>rw [fS]
  | succ k=>rw [fS];exact if_neg h4
 rw [hdv]
 have hc:e.l.Kind=1∨e.l.Kind=2∨e.l.Kind=3∨e.l.Kind=5∨e.l.Kind=6:=by omega
 rcases hc with hk | hk | hk | hk | hk
 ·exact J5 hq hr hro hps deep hk
 ·exact J6 hq hr hro hps deep hk
 ·exact J7 hq hr hro hps deep hk
 ·exact J8 hq hr hro hps deep hk
 ·exact J9 hq hr hro hps deep hk
include hE in
theorem BH:∀(k deep:Nat),deep+k=4→Ha E wb deep k
 | 0,deep,hd=>by
  intro e r ps q run _ h1 h6 hro hps hq hr
  have n2:deep=4:=by omega
  subst n2
  by_cases h4:e.l.Kind=4
  ·exact E6 wb e h4 r ps q run hps hq
  ·exact uF wb 4 0 e h1 h6 h4 r hro ps q run hps hq hr
 | k+1,deep,hd=>by
  intro e r ps q run _ h1 h6 hro hps hq hr
  by_cases h4:e.l.Kind=4
  ·exact Gz wb (by omega) (DY hE wb (by omega) (BH k (deep+1) (by omega))) e h4 r hro ps q run hps hq hr
  ·exact uF wb deep (k+1) e h1 h6 h4 r hro ps q run hps hq hr
end
end Go.Proofs.YtpmdfoaadejmkaaGreatDoor
namespace Go.Proofs.YtpmdfoaadejmkaaGreatDoor
open Go.RowKit
attribute [local irreducible] AT bI AX AO Av Kt bi dx DA cK
theorem Bw (run:List aJ) (hr:run.length≤1000000):AC Tryz.prog 36 [.imm 6 (run.map aY)] [] fun c L=>∃q,dW q run∧c=eW q run∧L=ot q run:=by
 refine aM Tryz.func36 rfl Tryz.ntmps36 rfl fun B=>?_
 have hml:(run.map aY).length=run.length:=Ju ..
 repeat' (first|refine Ji ?_|refine JF a5 H6 ?_)
 refine tE a5 rfl rfl rfl rfl rfl fun b hb=>?_
 repeat' (first|refine Ji ?_|fail)
 cases b with
 | true=>
  have hn:run=[]:=by simpa using hb rfl
  subst hn
  repeat' (first|refine Ji ?_|refine JF a5 H6 ?_|refine bC rfl ?_)
  refine bk (bQ (t:=2) (c':= .imm 6 []) rfl fun σ v h=>it 6 h) ?_
  exact JL H6 ⟨none,⟨fun _=>rfl,fun m h=>by cases h⟩,rfl,rfl⟩
 | false=>
  repeat' (first|refine Ji ?_|refine JF a5 H6 ?_|refine GR (d:=5) a5 rfl rfl fun _=>?_|refine bA rfl ?_)
  rename_i b5
  refine lN a5 0 rfl rfl rfl rfl (vy rfl rfl) rfl (Nat.zero_le _) (Nat.le_refl _) (Nat.zero_le _) (by rw [hml];unfold maxLen;omega) (by rw [hml];omega) rfl fun b' cs' cap' e1 e2 e3 e4 e5=>?_
  repeat' (first|refine Ji ?_|refine JF a5 H6 ?_)
  have hcs:cs'=c9 run++cs'.drop (run.length * 6):=by
   conv=>lhs;rw [←List.take_append_drop (run.length * 6) cs']
   rw [Nat.zero_add,hml] at e2
   rw [e2]
   rfl
  refine JL H6 ⟨some ⟨b',cap',cs'.drop (run.length * 6)⟩,⟨fun h=>(by cases h),fun m hm=>?_⟩,?_,?_⟩
  ·cases hm
   dsimp only
   rw [←hcs]
   exact ⟨by omega,e4,e1⟩
  ·unfold eW
   dsimp only
   rw [Nat.zero_add,hml]
  ·unfold ot
   dsimp only
   rw [←hcs]
   rfl
theorem qh {R:List aJ}:∀{l:List Nat},R.length≤(f0 l R).length+l.length
 | []=>by simp [f0]
 | z::l=>by
  have:=qh (R:=R) (l:=l)
  have h2:(f0 l R).length≤((f0 l R).eraseIdx z).length+1:=by rw [List.length_eraseIdx];split <;> omega
  rw [f0,List.length_cons]
  omega
theorem gP {run:List aJ} {p:Nat} {q:List Nat} (h:mK run (p::q)):p+q.length≤(p::q).getLastD p∧(p::q).getLastD p < run.length∧(q≠[]↔p < (p::q).getLastD p):=by
  have key:∀(q:List Nat) (p:Nat),(p::q).Pairwise (· < ·)→p+q.length≤(p::q).getLast (by simp):=by
    intro q
    induction q with
    | nil=>intro p _;simp
    | cons a q ih=>
      intro p hp
      obtain ⟨h1,h2⟩:=List.pairwise_cons.1 hp
      have:=ih a h2
      have:=h1 a (by simp)
      rw [List.getLast_cons (by simp),List.length_cons]
      omega
  have hk:=key q p h.inc
  have he:(p::q).getLastD p=(p::q).getLast (by simp):=by rw [List.getLastD_eq_getLast?,List.getLast?_eq_some_getLast (by simp)];rfl
  rw [he]
  refine ⟨hk,h.lt _ (List.getLast_mem _),fun hq=>?_,fun hq e=>?_⟩
  · have:0 < q.length:=List.length_pos_iff.2 hq
    omega
  · subst e
    simp at hq
theorem fQ {l:aL} {r:bc} {run:List aJ} {p:Nat} {q:List Nat} (h:mK run (p::q)):run.length - 1 - (p::q).getLastD p≤(dX l r (p::q) run).length:=by
 obtain ⟨h1,h2,_⟩:=gP h
 unfold dX
 split
 ·unfold du;split <;> (try split) <;> (try split) <;> (try rw [List.length_set]) <;> omega
 split
 ·unfold eH
  split
  ·omega
  ·split
   ·omega
   ·simp only [List.length_append,List.length_take,List.length_drop,Ju,List.headD_cons]
    omega
 split
 ·unfold gz
  split
  ·rename_i heq _
   cases heq
   split
   ·rename_i x hx
    have key:∀y:aJ,run.length - 1 - (p::q).getLastD p≤(f0 q (run.set p y)).length:=fun y=>by
     have:=qh (R:=run.set p y) (l:=q)
     rw [List.length_set] at this
     omega
    exact key _
   ·omega
  ·omega
 split
 ·unfold kE;split <;> (try rw [List.length_set]) <;> omega
 ·omega
theorem BF {ms:List Bool} {ls:List aL} {k:Nat} {l:aL} (hk:l.Kind≠4) {r:bc} {run:List aJ} {p:Nat} {q:List Nat} (h:mK run (p::q)):run.length - 1 - (p::q).getLastD p≤(fS ms ls k l r (p::q) run).length:=by
 cases k with
 | zero=>rw [fS];exact fQ h
 | succ k=>rw [fS];dsimp only;rw [if_neg hk];exact fQ h
end Go.Proofs.YtpmdfoaadejmkaaGreatDoor
