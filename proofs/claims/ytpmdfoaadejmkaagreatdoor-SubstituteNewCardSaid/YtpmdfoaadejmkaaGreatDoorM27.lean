/-
  What an engine's rules do with a run: all but chains.
-/
import Derived.Test.YtpmdfoaadejmkaaGreatDoorM26
namespace Go.Proofs.YtpmdfoaadejmkaaGreatDoor
open Go.RowKit
section
attribute [local irreducible] AT bP AX AO Av Kt bb dh DA cG
section
variable {P:Program} {tt:TT} {l:List Oper} {fr:cf} {fin:jR} {sk:n7} {acc:cf} {L:AL} {k:Nat} {dd:Option Tmp} {ty t t':TypeId} {pos:String} {af:Array Edge} {g:Option (Nat×Bool)} {x y:Operand} {u:AV}
theorem JK {q:IntKind} {a b:Int} (hx:bE (cK l.toArray acc fr af.toList) x=some (.sc (.int q a))) (hy:bE (cK l.toArray acc fr af.toList) y=some (.sc (.int q b))) (hg:jh ⟨dd,.binOp .add t x y t',ty,pos,af,g⟩ acc) (h:DA P l fr fin sk ((k,.sc (.int q (q.wrap (a+b))))::acc) L):cG P l fr fin k .v ⟨dd,.binOp .add t x y t',ty,pos,af,g⟩ sk acc L:=fA hg (AK (DN hx hy)) h
end
structure ut (run:List bc) (ps:List Nat):Prop where
  some_:ps≠[]
  lt:∀j∈ps,j < run.length
  inc:ps.Pairwise (· < ·)
structure ro (r:bk):Prop where
 some_:r.In≠[]
 out:r.Out.length≤1000000
 calls:r.Calls.length≤1000000
 at_:∀c∈r.Calls,0≤c.At∧c.At≤1000000
abbrev kY (wb:Nat) (e:qU) (r:bk) (ps:List Nat) (deep:Nat):List AV:=[gT wb,.iptr (gk e),.iptr (bI (fF r)),.imm 1 (dZ ps),aK deep]
def ir (wb:Nat) (E:qV) (run':List bc):AV→AL→Prop:=fun _ L=>∃q',eG q' run'∧L=ke wb E q' run'
section
variable {E:qV} {wb:Nat} {m:gV} {run:List bc} (hq:eG (some m) run) (hr:run.length≤1000000) {e:qU} {r:bk} (hro:ro r) {ps:List Nat} (hps:ut run ps) (deep:Nat)
include hq hr hro hps
set_option maxHeartbeats 4000000 in
theorem N0 (hk:e.l.Kind=2):AC Tryz.prog 103 (kY wb e r ps deep) (ke wb E (some m) run) (ir wb E (ip e.l r ps run)):=by
 obtain ⟨⟨kd,ig,rs⟩,cls,fo,ba,fe,be⟩:=e
 dsimp only at hk
 subst hk
 obtain ⟨p,q,rfl⟩:=List.exists_cons_of_ne_nil hps.some_
 have hpl:=hps.lt p (by simp)
 obtain ⟨x,hx⟩:∃x,run[p]?=some x:=⟨_,Nz hpl⟩
 have hp0:(dZ (p::q))[(0:Int).toNat]?=some [aK p]:=rfl
 have hm:=FI E wb m run hq hr p x hx r hro.out
 refine aV Tryz.func103 rfl Tryz.ntmps103 rfl fun B=>?_
 refine W0v ?_
 refine b7 (ke wb E (some m) run) [] hm rfl rfl (by rw [List.append_nil]) rfl fun c L1 ⟨q',h1,h2⟩=>?_
 subst h2
 repeat' (first|refine Ng ?_|fail)
 exact cD rfl ⟨q',h1,by rw [List.append_nil];rfl⟩
set_option maxHeartbeats 4000000 in
theorem MZ (hk:e.l.Kind=1):AC Tryz.prog 103 (kY wb e r ps deep) (ke wb E (some m) run) (ir wb E (ip e.l r ps run)):=by
 have _:=hr
 obtain ⟨⟨kd,ig,rs⟩,cls,fo,ba,fe,be⟩:=e
 dsimp only at hk
 subst hk
 obtain ⟨p,q,rfl⟩:=List.exists_cons_of_ne_nil hps.some_
 have hpl:=hps.lt p (by simp)
 obtain ⟨x,hx⟩:∃x,run[p]?=some x:=⟨_,Nz hpl⟩
 have hp0:(dZ (p::q))[(0:Int).toNat]?=some [aK p]:=rfl
 obtain ⟨i0,is,hin⟩:=List.exists_cons_of_ne_nil hro.some_
 have hin0:(b6 (fF r).In)[(0:Int).toNat]?=some [.imm 1 (aW i0)]:=by
  show (b6 r.In)[0]?=_
  rw [hin]
  rfl
 have hsv:ip ⟨1,ig,rs⟩ r (p::q) run=i7 r p run:=rfl
 rw [hsv]
 have hsg:i7 r p run=match r.Out[i0.idxOf x.Glyph]? with
   | none=>run
   | some g=>if i0.idxOf x.Glyph < i0.length then run.set p { x with Glyph:=g } else run:=by
  unfold i7
  rw [hx,hin]
  rfl
 have hol:=aJ r.Out
 have h0:=qu (j:=0) m.junk hx rfl
 obtain ⟨g1,g2,g3⟩:=hq.fit m rfl
 have hfl:=dT run
 refine aV Tryz.func103 rfl Tryz.ntmps103 rfl fun B=>?_
 refine W1q ?_
 refine bv 15 [(0,.v),(1,.v),(2,.v),(3,.v),(4,.v),(5,.v),(6,.v),(7,.v),(8,.v),(9,.l),(10,.v),(11,.v),(12,.v),(13,.l),(14,.v)] none ?_ trivial rfl (by kernel_rfl) (by kernel_rfl) (by kernel_rfl) bQ (by kernel_rfl) rfl
 refine W0H ?_
 refine du a5 rfl rfl rfl ⟨by omega,by omega⟩ trivial ?_
 refine W09 ?_
 refine ce a5 1 rfl rfl rfl h0 trivial ?_
 refine W1K ?_
 refine NP [0,2,10,37] IG ?_
 refine W0k ?_
 have hst:(fF r).Out=r.Out:=rfl
 generalize hn:(if x.Glyph∈i0 then ((i0.idxOf x.Glyph:Nat):Int) else -1)=n
 refine cu [0,2,10,11] (0≤n∧n < r.Out.length) rfl (fun Q' K=>?_) (fun hC=>?_) (fun hC=>?_)
 ·repeat' (first|refine Ng ?_|refine NG a5 IG ?_|refine NN IG ?_|refine NO NB ?_|refine NR NA (fun _=>?_) (fun _=>?_))
  all_goals exact K _ _ rfl rfl (by rw [hst,hol] at *;simp_all <;> omega)
 ·have hm:x.Glyph∈i0:=Classical.byContradiction fun hm=>by rw [if_neg hm] at hn;omega
  rw [if_pos hm] at hn
  subst hn
  have hlt:i0.idxOf x.Glyph < r.Out.length:=by omega
  obtain ⟨g,hg⟩:∃g,r.Out[i0.idxOf x.Glyph]?=some g:=⟨_,Nz hlt⟩
  have hgg:(aW (fF r).Out)[((i0.idxOf x.Glyph:Nat):Int).toNat]?=some [aK g]:=by rw [Int.toNat_natCast];exact bK hg
  rw [hg] at hsg
  dsimp only at hsg
  rw [if_pos (List.idxOf_lt_length_of_mem hm)] at hsg
  rw [hsg]
  have hst:=md (j:=0) { x with Glyph:=g } (aK g) m.junk hx (by omega) rfl
  refine bv 12 [(0,.v),(1,.v),(2,.v),(3,.l),(4,.v),(5,.v),(6,.v),(7,.v),(8,.v),(9,.v),(10,.v),(11,.v)] none ?_ trivial rfl (by kernel_rfl) (by kernel_rfl) (by kernel_rfl) bQ (by kernel_rfl) rfl
  refine W0H ?_
  refine NP [52,53,60] IG ?_
  refine W0r ?_
  refine NV a5 1 ND (Nat.ble_eq_true_of_le (by rw [Int.toNat_natCast];simp;omega)) ?_
  rw [hst]
  repeat' (first|refine Ng ?_|fail)
  exact cD rfl ⟨some m,hq.set p _,rl⟩
 ·have hsg2:i7 r p run=run:=by
   rw [hsg]
   split
   ·rfl
   ·rename_i g hg
    rw [if_neg]
    intro h
    rw [if_pos (List.idxOf_lt_length_iff.1 h)] at hn
    have:=(Np hg).1
    omega
  rw [hsg2]
  repeat' (first|refine Ng ?_|fail)
  exact cD rfl ⟨some m,hq,rfl⟩
set_option maxHeartbeats 4000000 in
theorem N2 (hk:e.l.Kind=5):AC Tryz.prog 103 (kY wb e r ps deep) (ke wb E (some m) run) (ir wb E (ip e.l r ps run)):=by
 have _:=hr
 obtain ⟨⟨kd,ig,rs⟩,cls,fo,ba,fe,be⟩:=e
 dsimp only at hk
 subst hk
 obtain ⟨p,q,rfl⟩:=List.exists_cons_of_ne_nil hps.some_
 have hpl:=hps.lt p (by simp)
 obtain ⟨x,hx⟩:∃x,run[p]?=some x:=⟨_,Nz hpl⟩
 have hp0:(dZ (p::q))[(0:Int).toNat]?=some [aK p]:=rfl
 obtain ⟨i0,is,hin⟩:=List.exists_cons_of_ne_nil hro.some_
 have hin0:(b6 (fF r).In)[(0:Int).toNat]?=some [.imm 1 (aW i0)]:=by
  show (b6 r.In)[0]?=_
  rw [hin]
  rfl
 have hsv:ip ⟨5,ig,rs⟩ r (p::q) run=i7 r p run:=rfl
 rw [hsv]
 have hsg:i7 r p run=match r.Out[i0.idxOf x.Glyph]? with
   | none=>run
   | some g=>if i0.idxOf x.Glyph < i0.length then run.set p { x with Glyph:=g } else run:=by
  unfold i7
  rw [hx,hin]
  rfl
 have hol:=aJ r.Out
 have h0:=qu (j:=0) m.junk hx rfl
 obtain ⟨g1,g2,g3⟩:=hq.fit m rfl
 have hfl:=dT run
 refine aV Tryz.func103 rfl Tryz.ntmps103 rfl fun B=>?_
 refine W0v ?_
 refine bv 15 [(0,.v),(1,.v),(2,.v),(3,.v),(4,.v),(5,.v),(6,.v),(7,.v),(8,.v),(9,.l),(10,.v),(11,.v),(12,.v),(13,.l),(14,.v)] none ?_ trivial rfl (by kernel_rfl) (by kernel_rfl) (by kernel_rfl) bQ (by kernel_rfl) rfl
 refine W0H ?_
 refine du a5 rfl rfl rfl ⟨by omega,by omega⟩ trivial ?_
 refine W09 ?_
 refine ce a5 1 rfl rfl rfl h0 trivial ?_
 refine W1K ?_
 refine NP [0,2,10,37] IG ?_
 refine W0k ?_
 have hst:(fF r).Out=r.Out:=rfl
 generalize hn:(if x.Glyph∈i0 then ((i0.idxOf x.Glyph:Nat):Int) else -1)=n
 refine cu [0,2,10,11] (0≤n∧n < r.Out.length) rfl (fun Q' K=>?_) (fun hC=>?_) (fun hC=>?_)
 ·repeat' (first|refine Ng ?_|refine NG a5 IG ?_|refine NN IG ?_|refine NO NB ?_|refine NR NA (fun _=>?_) (fun _=>?_))
  all_goals exact K _ _ rfl rfl (by rw [hst,hol] at *;simp_all <;> omega)
 ·have hm:x.Glyph∈i0:=Classical.byContradiction fun hm=>by rw [if_neg hm] at hn;omega
  rw [if_pos hm] at hn
  subst hn
  have hlt:i0.idxOf x.Glyph < r.Out.length:=by omega
  obtain ⟨g,hg⟩:∃g,r.Out[i0.idxOf x.Glyph]?=some g:=⟨_,Nz hlt⟩
  have hgg:(aW (fF r).Out)[((i0.idxOf x.Glyph:Nat):Int).toNat]?=some [aK g]:=by rw [Int.toNat_natCast];exact bK hg
  rw [hg] at hsg
  dsimp only at hsg
  rw [if_pos (List.idxOf_lt_length_of_mem hm)] at hsg
  rw [hsg]
  have hst:=md (j:=0) { x with Glyph:=g } (aK g) m.junk hx (by omega) rfl
  refine bv 12 [(0,.v),(1,.v),(2,.v),(3,.l),(4,.v),(5,.v),(6,.v),(7,.v),(8,.v),(9,.v),(10,.v),(11,.v)] none ?_ trivial rfl (by kernel_rfl) (by kernel_rfl) (by kernel_rfl) bQ (by kernel_rfl) rfl
  refine W0H ?_
  refine NP [52,53,60] IG ?_
  refine W0r ?_
  refine NV a5 1 ND (Nat.ble_eq_true_of_le (by rw [Int.toNat_natCast];simp;omega)) ?_
  rw [hst]
  repeat' (first|refine Ng ?_|fail)
  exact cD rfl ⟨some m,hq.set p _,rl⟩
 ·have hsg2:i7 r p run=run:=by
   rw [hsg]
   split
   ·rfl
   ·rename_i g hg
    rw [if_neg]
    intro h
    rw [if_pos (List.idxOf_lt_length_iff.1 h)] at hn
    have:=(Np hg).1
    omega
  rw [hsg2]
  repeat' (first|refine Ng ?_|fail)
  exact cD rfl ⟨some m,hq,rfl⟩
set_option maxHeartbeats 4000000 in
theorem N1 (hk:e.l.Kind=3):AC Tryz.prog 103 (kY wb e r ps deep) (ke wb E (some m) run) (ir wb E (ip e.l r ps run)):=by
 have _:=hro
 obtain ⟨⟨kd,ig,rs⟩,cls,fo,ba,fe,be⟩:=e
 dsimp only at hk
 subst hk
 obtain ⟨p,q,rfl⟩:=List.exists_cons_of_ne_nil hps.some_
 have hpl:=hps.lt p (by simp)
 obtain ⟨x,hx⟩:∃x,run[p]?=some x:=⟨_,Nz hpl⟩
 have hp0:(dZ (p::q))[(0:Int).toNat]?=some [aK p]:=rfl
 have hol:=aJ (fF r).Out
 have hst:(fF r).Out=r.Out:=rfl
 rw [hst] at hol
 refine aV Tryz.func103 rfl Tryz.ntmps103 rfl fun B=>?_
 refine W0v ?_
 refine aj rfl (fun h=>?_) (fun h=>?_)
 ·have hne:r.Out≠[]:=fun e=>by rw [hst,e] at h;cases h
  obtain ⟨g,gs,hg⟩:=List.exists_cons_of_ne_nil hne
  have hj:=HQ E wb m run hq hr p q hps.lt hps.inc x hx r g gs hg
  have hg0:(aW (fF r).Out)[(0:Int).toNat]?=some [aK g]:=by rw [hst,hg];rfl
  clear h
  refine W0i ?_
  refine b7 (ke wb E (some m) run) [] hj rfl rfl (by rw [List.append_nil]) rfl fun c L1 ⟨q',h1,h2⟩=>?_
  subst h2
  repeat' (first|refine Ng ?_|fail)
  exact cD rfl ⟨q',h1,by rw [List.append_nil];rfl⟩
 ·have hz:r.Out=[]:=List.eq_nil_of_length_eq_zero (by have:=Nx h;rw [hst] at this;omega)
  have hsv:ip ⟨3,ig,rs⟩ r (p::q) run=run:=by
   show oF r (p::q) run=run
   unfold oF
   rw [hz]
  rw [hsv]
  repeat' (first|refine Ng ?_|fail)
  exact cD rfl ⟨some m,hq,rfl⟩
set_option maxHeartbeats 4000000 in
theorem N3 (hk:e.l.Kind=6):AC Tryz.prog 103 (kY wb e r ps deep) (ke wb E (some m) run) (ir wb E (ip e.l r ps run)):=by
 have _:=hr
 have _:=hro
 obtain ⟨⟨kd,ig,rs⟩,cls,fo,ba,fe,be⟩:=e
 dsimp only at hk
 subst hk
 obtain ⟨p,q,rfl⟩:=List.exists_cons_of_ne_nil hps.some_
 have hpl:=hps.lt p (by simp)
 obtain ⟨x,hx⟩:∃x,run[p]?=some x:=⟨_,Nz hpl⟩
 have hp0:(dZ (p::q))[(0:Int).toNat]?=some [aK p]:=rfl
 have hsv:ip ⟨6,ig,rs⟩ r (p::q) run=run.set p { x with Advance:=IntKind.i64.wrap (x.Advance+r.X) }:=by
  show tY r p run=_
  unfold tY
  rw [hx]
 rw [hsv]
 have h3:=qu (j:=3) m.junk hx rfl
 have hst:=md (j:=3) { x with Advance:=IntKind.i64.wrap (x.Advance+r.X) } (aK (IntKind.i64.wrap (x.Advance+r.X))) m.junk hx (by omega) rfl
 obtain ⟨g1,g2,g3⟩:=hq.fit m rfl
 have hfl:=dT run
 refine aV Tryz.func103 rfl Tryz.ntmps103 rfl fun B=>?_
 refine W0v ?_
 refine bv 13 [(0,.v),(1,.v),(2,.v),(3,.l),(4,.v),(5,.v),(6,.v),(7,.l),(8,.v),(9,.v),(10,.v),(11,.v),(12,.v)] none ?_ trivial rfl (by kernel_rfl) (by kernel_rfl) (by kernel_rfl) bQ (by kernel_rfl) rfl
 refine W0m ?_
 refine du a5 rfl rfl rfl ⟨by omega,by omega⟩ trivial ?_
 refine W09 ?_
 refine ce a5 1 rfl rfl rfl h3 trivial ?_
 refine W09 ?_
 refine JK rfl rfl trivial ?_
 refine NP [107,108,116] IG ?_
 refine W0r ?_
 refine NV a5 1 ND (Nat.ble_eq_true_of_le (by rw [Int.toNat_natCast];simp;omega)) ?_
 have hsx:(fF r).X=r.X:=rfl
 rw [hsx,hst]
 repeat' (first|refine Ng ?_|fail)
 exact cD rfl ⟨some m,hq.set p _,rl⟩
end
structure pZ (E:qV):Prop where
 auto:∀e∈E.lks,1≤e.l.Kind→e.l.Kind≤6→lN e
 rule:∀e∈E.lks,∀r∈e.l.Rules,r.In≠[]→ro r
abbrev qV.ls (E:qV):List aY:=E.lks.map (·.l)
theorem CG {ms:List Bool} {ig:Bool} {run:List bc} {i:Nat} (hi:i < run.length) {n:Int} (h0:0≤n):vc ms ig run i n=if lm ms ig run i=true then (if n=0 then some i else vc ms ig run (i+1) (n - 1)) else vc ms ig run (i+1) n:=by
 unfold vc
 rw [if_pos h0,nG hi]
 split
 ·split
  ·rename_i hn
   subst hn
   rfl
  ·rw [if_pos (by omega),show n.toNat=(n - 1).toNat+1 by omega,List.getElem?_cons_succ]
 ·rfl
theorem FU {ms:List Bool} {ig:Bool} {run:List bc} {i:Nat} (hi:run.length≤i) (n:Int):vc ms ig run i n=none:=by
 unfold vc
 rw [tK hi]
 split <;> simp
theorem Cg {ms:List Bool} {ig:Bool} {run:List bc} {i:Nat}:(fk ms ig run i).Pairwise (· < ·):=by
  unfold fk
  exact List.Pairwise.filter _ (List.pairwise_lt_range' ..)
theorem Kg {ms:List Bool} {l:aY} {run:List bc} {i:Nat} {forms:List Int} {r:bk} (h:fC ms l run i forms=some r):ut run (er ms l run i r)∧r∈l.Rules∧r.In≠[]∧i < run.length∧(er ms l run i r).head?=some i:=by
 unfold fC at h
 split at h
 ·rename_i hb
  have hm:=List.mem_of_find?_eq_some h
  obtain ⟨h1,h2⟩:=qJ (List.find?_some h)
  unfold nz at hb
  split at hb
  ·rename_i x hx
   have hil:=(Np hx).1
   rw [Bool.and_eq_true] at hb
   have hs:lm ms l.Ignore run i=true:=by rw [pT hx];exact hb.1
   have hf:fk ms l.Ignore run i=i::fk ms l.Ignore run (i+1):=by rw [nG hil,if_pos hs]
   obtain ⟨n,hn⟩:∃n,r.In.length=n+1:=⟨r.In.length - 1,by omega⟩
   have hp:er ms l run i r=i::(fk ms l.Ignore run (i+1)).take n:=by unfold er;rw [hf,hn,List.take_succ_cons]
   refine ⟨⟨by rw [hp];simp,fun j hj=>(F1 j (List.mem_of_mem_take hj)).2.1,?_⟩,hm,fun e=>by rw [e] at h1;simp at h1,hil,by rw [hp];rfl⟩
   exact Cg.sublist (List.take_sublist ..)
  ·cases hb
 ·cases h
def hY (a b:Nat):Prop:=b≤max a 500
theorem ud {l:aY} {r:bk} {ps:List Nat} {run:List bc}:hY run.length (ip l r ps run).length:=by
 unfold ip hY
 split
 ·unfold i7;split <;> (try split) <;> (try split) <;> (try rw [List.length_set]) <;> omega
 split
 ·unfold jJ
  split
  ·omega
  ·split
   ·omega
   ·rename_i x hx hh
    have:=(Np hx).1
    simp only [List.length_append,List.length_take,List.length_drop,Nu]
    omega
 split
 ·unfold oF
  split
  ·split
   ·refine Nat.le_trans mK.length_le ?_
    rw [List.length_set];omega
   ·omega
  ·omega
 split
 ·unfold tY;split <;> (try rw [List.length_set]) <;> omega
 ·omega
theorem hY.trans {a b c:Nat} (h:hY a b) (k:hY b c):hY a c:=by unfold hY at *;omega
theorem tl {ms:List Bool} {ls:List aY} {d:LP} (hd:∀l r ps run,hY run.length (d l r ps run).length) {n:Int} {i:Nat} {run:List bc}:hY run.length (oe ms ls d n i run).length:=by
 unfold oe
 split
 ·unfold hY;omega
 ·split
  ·unfold hY;omega
  ·split
   ·unfold hY;omega
   ·split
    ·unfold hY;omega
    ·exact hd ..
theorem mJ {ms:List Bool} {ls:List aY}:∀(k:Nat) (l:aY) (r:bk) (ps:List Nat) (run:List bc),hY run.length (kO ms ls k l r ps run).length
 | 0,_,_,_,_=>ud
 | k+1,l,r,ps,run=>by
  unfold kO
  split
  ·have key:∀(cs:List jt) (run:List bc),hY run.length (cs.foldl (gI ms ls (kO ms ls k) l.Ignore (ps.headD 0)) run).length:=by
    intro cs
    induction cs with
    | nil=>intro run;unfold hY;simp;omega
    | cons c cs ih=>
     intro run
     rw [List.foldl_cons]
     refine hY.trans ?_ (ih _)
     unfold gI
     split
     ·unfold hY;omega
     ·exact tl (mJ k)
   exact key _ _
  ·exact ud
theorem hY.big {a b:Nat} (h:hY a b) (ha:a≤1000000):b≤1000000:=by unfold hY at h;omega
section
variable {E:qV} (hE:pZ E) (wb:Nat)
def KC (E:qV) (wb deep k:Nat):Prop:=∀(e:qU) (r:bk) (ps:List Nat) (q:Option gV) (run:List bc),e∈E.lks→1≤e.l.Kind→e.l.Kind≤6→ro r→ut run ps→eG q run→run.length≤1000000→
 AC Tryz.prog 103 (kY wb e r ps deep) (ke wb E q run) (ir wb E (kO E.ms E.ls k e.l r ps run))
def xM (E:qV) (wb deep k:Nat):Prop:=∀(n:Int) (i:Nat) (q:Option gV) (run:List bc),i < run.length→eG q run→run.length≤1000000→
 AC Tryz.prog 261 [gT wb,aK n,aK i,aK deep] (ke wb E q run) (ir wb E (oe E.ms E.ls (kO E.ms E.ls k) n i run))
theorem tk (E:qV):(E.lks.map gk).length=E.lks.length:=by simp
include hE in
set_option maxHeartbeats 4000000 in
theorem Hc {deep k:Nat} (hd:deep≤4) (hdo:KC E wb deep k):xM E wb deep k:=by
 intro n i q run hi hq hr
 refine aV Tryz.func261 rfl Tryz.ntmps261 rfl fun B=>?_
 have hll:=tk E
 refine W01 ?_
 refine cu [0,1,2,3] (n < 0∨(E.lks.length:Int)≤n) rfl (fun Q' K=>?_) (fun hC=>?_) (fun hC=>?_)
 ·repeat' (first|refine Ng ?_|refine NG a5 IG ?_|refine NN IG ?_|refine NO NB ?_|(apply bz;first|refine NJ a5 0 NC ?_|refine NJ a5 1 NC ?_|refine NJ a5 2 NC ?_|refine NJ a5 3 NC ?_|refine NK a5 0 NC ?_|refine NK a5 1 NC ?_|refine NK a5 2 NC ?_|refine NL a5 1 NA (by assumption) rfl ?_|refine NL a5 0 NA (by assumption) rfl ?_|fail)|refine NR NA (fun _=>?_) (fun _=>?_))
  all_goals exact K _ _ rfl rfl (by simp_all <;> omega)
 ·have hv:oe E.ms E.ls (kO E.ms E.ls k) n i run=run:=by
   unfold oe
   by_cases h0:n < 0
   ·rw [if_pos h0]
   ·rw [if_neg h0,List.getElem?_eq_none (by rw [Nu];omega)]
  rw [hv]
  repeat' (first|refine Ng ?_|fail)
  exact o8 rfl ⟨q,hq,rfl⟩
 obtain ⟨e,he⟩:∃e,E.lks[n.toNat]?=some e:=⟨_,Nz (by omega)⟩
 have heg:(E.lks.map gk)[n.toNat]?=some (gk e):=by simp [he]
 have hem:=Nw he
 have hcv:oe E.ms E.ls (kO E.ms E.ls k) n i run=if e.l.Kind < 1∨4 < e.l.Kind then run else match fC E.ms e.l run i [] with
   | none=>run
   | some r=>kO E.ms E.ls k e.l r (er E.ms e.l run i r) run:=by
  unfold oe
  rw [if_neg (by omega),List.getElem?_map,he]
  rfl
 refine W0h ?_
 refine cu [0,2,3,8] (e.l.Kind < 1∨4 < e.l.Kind) rfl (fun Q' K=>?_) (fun hC2=>?_) (fun hC2=>?_)
 ·repeat' (first|refine Ng ?_|refine NG a5 IG ?_|refine NN IG ?_|refine NO NB ?_|refine NR NA (fun _=>?_) (fun _=>?_))
  all_goals exact K _ _ rfl rfl (by simp_all <;> omega)
 ·rw [if_pos hC2] at hcv
  rw [hcv]
  repeat' (first|refine Ng ?_|fail)
  exact o8 rfl ⟨q,hq,rfl⟩
 rw [if_neg hC2] at hcv
 rw [hcv]
 have hau:=hE.auto e hem (by omega) (by omega)
 have hma:=AC.args (a:=[gT wb,.iptr (gk e),aK i,.sc (.slice none 0 0)]) (sd E e hau wb q run hq hr i (by omega) []) ⟨d7.refl _,d7.refl _,d7.refl _,d7.nil 1,trivial⟩
 refine W01 ?_
 refine b7 (ke wb E q run) [] hma rfl rfl (by rw [List.append_nil]) rfl fun c L1 ⟨hc,hL⟩=>?_
 subst hc;subst hL
 unfold mq
 cases hmv:fC E.ms e.l run i [] with
 | none=>
  dsimp only
  refine W01 ?_
  refine nL Tryz.underlying190 rfl rfl rfl rfl ?_
  repeat' (first|refine Ng ?_|refine bJ rfl ?_)
  exact cD rfl ⟨q,hq,by rw [List.append_nil]⟩
 | some r=>
  dsimp only
  obtain ⟨hps,hrm,hin,_,_⟩:=Kg hmv
  have hdc:=hdo e r (er E.ms e.l run i r) q run hem (by omega) (by omega) (hE.rule e hem r hrm hin) hps hq hr
  refine W01 ?_
  refine nL Tryz.underlying190 rfl rfl rfl rfl ?_
  refine W0s ?_
  refine b7 (ke wb E q run) [] hdc rfl rfl (by rw [List.append_nil]) rfl fun c L1 ⟨q',h1,h2⟩=>?_
  subst h2
  repeat' (first|refine Ng ?_|fail)
  exact cD rfl ⟨q',h1,by rw [List.append_nil]⟩
set_option maxHeartbeats 4000000 in
theorem Eo {deep k:Nat} (hd:deep < 4) (hca:xM E wb (deep+1) k) (e:qU) (cs:List jt) (hcs:cs.length≤1000000) (hca0:∀c∈cs,0≤c.At∧c.At≤1000000) (p:Nat) (hp:p≤1000000) (q:Option gV) (run:List bc) (hq:eG q run) (hr:run.length≤1000000):
  AC Tryz.prog 193 [gT wb,.iptr (gk e),.imm 2 (cs.map fj),aK p,aK deep] (ke wb E q run) (ir wb E (cs.foldl (gI E.ms E.ls (kO E.ms E.ls k) e.l.Ignore p) run)):=by
 refine aV Tryz.func193 rfl Tryz.ntmps193 rfl fun B=>?_
 have hcl:(cs.map fj).length=cs.length:=by simp
 refine E8 ?_
 repeat' (first|refine Ng ?_|refine ak ?_|refine E7 ?_|refine NG a5 IG ?_)
 refine aM [0,1,3,4,14,15] (α:=Nat×Option gV×List bc) (fun s=>[(16,aK s.1)]) (fun s=>s.1≤cs.length∧eG s.2.1 s.2.2∧s.2.2.length≤1000000∧(cs.drop s.1).foldl (gI E.ms E.ls (kO E.ms E.ls k) e.l.Ignore p) s.2.2=cs.foldl (gI E.ms E.ls (kO E.ms E.ls k) e.l.Ignore p) run) (fun s=>ke wb E s.2.1 s.2.2) (fun s=>cs.length - s.1) (0,q,run) rfl ⟨rfl,trivial⟩ ⟨Nat.zero_le _,hq,hr,rfl⟩ (fun _ _ h=>h) ?_
 rintro ⟨n,q1,run1⟩ ⟨hn,hq1,hr1,hf⟩
 dsimp only at hn hq1 hr1 hf ⊢
 try dsimp only [Ns,Nr,Nq,Nk]
 refine W01 ?_
 refine aj rfl (fun h=>?_) (fun h=>?_)
 ·have hn2:n < cs.length:=by have:=Ny h;omega
  obtain ⟨c,hc⟩:∃c,cs[n]?=some c:=⟨_,Nz hn2⟩
  have hcg:(cs.map fj)[n]?=some (fj c):=by simp [hc]
  obtain ⟨ha0,ha1⟩:=hca0 c (Nw hc)
  have hfd:(cs.drop (n+1)).foldl (gI E.ms E.ls (kO E.ms E.ls k) e.l.Ignore p) (gI E.ms E.ls (kO E.ms E.ls k) e.l.Ignore p run1 c)=cs.foldl (gI E.ms E.ls (kO E.ms E.ls k) e.l.Ignore p) run:=by
   rw [←hf,List.drop_eq_getElem_cons hn2,List.foldl_cons,(Np hc).2]
  clear h
  refine W0R ?_
  intros
  refine aM [0,1,3,4,11,14,15,16] (α:=Nat×Int) (fun s=>[(13,aK s.1),(12,aK s.2)]) (fun s=>0≤s.2∧s.2≤1000000∧s.1≤1000000∧vc E.ms e.l.Ignore run1 p c.At=vc E.ms e.l.Ignore run1 s.1 s.2) (fun s=>ke wb E q1 run1) (fun s=>run1.length - s.1) (p,c.At) rfl ⟨rfl,rfl,trivial⟩ ⟨ha0,ha1,hp,rfl⟩ (fun _ _ h=>h) ?_
  rintro ⟨i,left⟩ ⟨hl0,hl1,hi1,hnth⟩
  dsimp only at hl0 hl1 hi1 hnth ⊢
  try dsimp only [Ns,Nr,Nq,Nk]
  refine W04 ?_
  refine nK a5 rfl hq1 rfl rfl ?_
  refine W01 ?_
  refine aj rfl (fun h=>?_) (fun h=>?_)
  ·have hi2:i < run1.length:=by have:=Ny h;omega
   obtain ⟨m,rfl⟩:=hq1.lt hi2
   obtain ⟨x,hx⟩:∃x,run1[i]?=some x:=⟨_,Nz hi2⟩
   have hse:=vq E e wb m run1 i x hx
   have hst:=CG (ms:=E.ms) (ig:=e.l.Ignore) hi2 hl0
   rw [pT hx] at hst
   clear h
   refine W03 ?_
   refine b7 (xI wb (.iptr (eZ E)) (some m) run1) [eu] hse rfl rfl (Nn _) rfl fun c1 L1 ⟨hc1,hL⟩=>?_
   subst hc1;subst hL
   refine W01 ?_
   refine aj rfl (fun hb=>?_) (fun hb=>?_)
   ·rw [if_neg (by simpa using hb)] at hst
    refine W02 ?_
    exact aC (i+1,left) rfl ⟨by rw [Nv];rfl,rfl,trivial⟩ ⟨hl0,hl1,by dsimp only;omega,by rw [hnth,hst]⟩ (by dsimp only;omega) (fun _ _ h=>h)
   ·rw [if_pos (by simpa using hb)] at hst
    refine W01 ?_
    refine aj rfl (fun h0=>?_) (fun h0=>?_)
    ·have hz:=Ny h0
     subst hz
     rw [if_pos rfl] at hst
     have hcc:=hca c.Lookup i (some m) run1 hi2 hq1 hr1
     have hch:gI E.ms E.ls (kO E.ms E.ls k) e.l.Ignore p run1 c=oe E.ms E.ls (kO E.ms E.ls k) c.Lookup i run1:=by
      unfold gI
      rw [hnth,hst]
     rw [hch] at hfd
     clear h0
     refine W02 ?_
     refine b7 (ke wb E (some m) run1) [] hcc rfl (by rw [Nv];rfl) (by rw [List.append_nil]) rfl fun c2 L2 ⟨q',h1,h2⟩=>?_
     subst h2
     repeat' (first|refine Ng ?_|refine eN rfl ?_|refine NG a5 IG ?_|(apply aS;refine aR ?_)|fail)
     exact aC (n+1,q',_) rfl ⟨by rw [Nv];rfl,trivial⟩ ⟨hn2,h1,(tl (mJ k)).big hr1,hfd⟩ (by dsimp only;omega) (fun _ _ h=>by rw [List.append_nil] at h;exact h)
    ·have hz:=Nx h0
     rw [if_neg hz] at hst
     refine W02 ?_
     exact aC (i+1,left - 1) rfl ⟨by rw [Nv];rfl,rfl,trivial⟩ ⟨by dsimp only;omega,by dsimp only;omega,by dsimp only;omega,by rw [hnth,hst]⟩ (by dsimp only;omega) (fun _ _ h=>h)
  ·have hi2:run1.length≤i:=by have:=Nx h;omega
   have hch:gI E.ms E.ls (kO E.ms E.ls k) e.l.Ignore p run1 c=run1:=by
    unfold gI
    rw [hnth,FU hi2]
   rw [hch] at hfd
   clear h
   refine W02 ?_
   exact aC (n+1,q1,run1) rfl ⟨by rw [Nv];rfl,trivial⟩ ⟨hn2,hq1,hr1,hfd⟩ (by dsimp only;omega) (fun _ _ h=>h)
 ·have hn2:n=cs.length:=by have:=Nx h;omega
  subst hn2
  rw [List.drop_length] at hf
  have hf2:run1=cs.foldl (gI E.ms E.ls (kO E.ms E.ls k) e.l.Ignore p) run:=hf
  repeat' (first|refine Ng ?_|fail)
  refine JG ?_
  exact cD rfl ⟨q1,by rw [←hf2];exact hq1,by rw [←hf2];rfl⟩
set_option maxHeartbeats 4000000 in
theorem JO {deep k:Nat} (hd:deep < 4) (hca:xM E wb (deep+1) k) (e:qU) (hk:e.l.Kind=4) (r:bk) (hro:ro r) (ps:List Nat) (q:Option gV) (run:List bc) (hps:ut run ps) (hq:eG q run) (hr:run.length≤1000000):
  AC Tryz.prog 103 (kY wb e r ps deep) (ke wb E q run) (ir wb E (kO E.ms E.ls (k+1) e.l r ps run)):=by
 obtain ⟨p,ps',rfl⟩:=List.exists_cons_of_ne_nil hps.some_
 have hpl:=hps.lt p (by simp)
 have hch:=Eo wb hd hca e r.Calls hro.calls hro.at_ p (by omega) q run hq hr
 have hdv:kO E.ms E.ls (k+1) e.l r (p::ps') run=r.Calls.foldl (gI E.ms E.ls (kO E.ms E.ls k) e.l.Ignore p) run:=by
  rw [kO]
  exact if_pos hk
 rw [hdv]
 obtain ⟨⟨kd,ig,rs⟩,cls,fo,ba,fe,be⟩:=e
 dsimp only at hk
 subst hk
 have hp0:(dZ (p::ps'))[(0:Int).toNat]?=some [aK p]:=rfl
 refine aV Tryz.func103 rfl Tryz.ntmps103 rfl fun B=>?_
 refine W0v ?_
 refine aj rfl (fun h=>?_) (fun h=>?_)
 ·clear h
  refine W01 ?_
  refine b7 (ke wb E q run) [] hch rfl rfl (by rw [List.append_nil]) rfl fun c L1 ⟨q',h1,h2⟩=>?_
  subst h2
  repeat' (first|refine Ng ?_|fail)
  exact cD rfl ⟨q',h1,by rw [List.append_nil]⟩
 ·have:=Nx h
  omega
set_option maxHeartbeats 4000000 in
theorem Hm (e:qU) (hk:e.l.Kind=4) (r:bk) (ps:List Nat) (q:Option gV) (run:List bc) (hps:ut run ps) (hq:eG q run):
  AC Tryz.prog 103 (kY wb e r ps 4) (ke wb E q run) (ir wb E (kO E.ms E.ls 0 e.l r ps run)):=by
 obtain ⟨p,ps',rfl⟩:=List.exists_cons_of_ne_nil hps.some_
 have hdv:kO E.ms E.ls 0 e.l r (p::ps') run=run:=by
  rw [kO]
  dsimp only
  unfold ip
  rw [hk]
  rfl
 rw [hdv]
 obtain ⟨⟨kd,ig,rs⟩,cls,fo,ba,fe,be⟩:=e
 dsimp only at hk
 subst hk
 have hp0:(dZ (p::ps'))[(0:Int).toNat]?=some [aK p]:=rfl
 refine aV Tryz.func103 rfl Tryz.ntmps103 rfl fun B=>?_
 refine W0v ?_
 exact cD rfl ⟨q,hq,rfl⟩
theorem wj (deep k:Nat) (e:qU) (h1:1≤e.l.Kind) (h6:e.l.Kind≤6) (h4:e.l.Kind≠4) (r:bk) (hro:ro r) (ps:List Nat) (q:Option gV) (run:List bc) (hps:ut run ps) (hq:eG q run) (hr:run.length≤1000000):
  AC Tryz.prog 103 (kY wb e r ps deep) (ke wb E q run) (ir wb E (kO E.ms E.ls k e.l r ps run)):=by
 obtain ⟨p,ps',rfl⟩:=List.exists_cons_of_ne_nil hps.some_
 obtain ⟨m,rfl⟩:=hq.lt (hps.lt p (by simp))
 have hdv:kO E.ms E.ls k e.l r (p::ps') run=ip e.l r (p::ps') run:=by
  cases k with
  | zero=>rw [kO]
  | succ k=>rw [kO];exact if_neg h4
 rw [hdv]
 have hc:e.l.Kind=1∨e.l.Kind=2∨e.l.Kind=3∨e.l.Kind=5∨e.l.Kind=6:=by omega
 rcases hc with hk | hk | hk | hk | hk
 ·exact MZ hq hr hro hps deep hk
 ·exact N0 hq hr hro hps deep hk
 ·exact N1 hq hr hro hps deep hk
 ·exact N2 hq hr hro hps deep hk
 ·exact N3 hq hr hro hps deep hk
include hE in
theorem EM:∀(k deep:Nat),deep+k=4→KC E wb deep k
 | 0,deep,hd=>by
  intro e r ps q run _ h1 h6 hro hps hq hr
  have pH:deep=4:=by omega
  subst pH
  by_cases h4:e.l.Kind=4
  ·exact Hm wb e h4 r ps q run hps hq
  ·exact wj wb 4 0 e h1 h6 h4 r hro ps q run hps hq hr
 | k+1,deep,hd=>by
  intro e r ps q run _ h1 h6 hro hps hq hr
  by_cases h4:e.l.Kind=4
  ·exact JO wb (by omega) (Hc hE wb (by omega) (EM k (deep+1) (by omega))) e h4 r hro ps q run hps hq hr
  ·exact wj wb deep (k+1) e h1 h6 h4 r hro ps q run hps hq hr
end
theorem Es (run:List bc) (hr:run.length≤1000000):AC Tryz.prog 36 [.imm 6 (run.map cP)] [] fun c L=>∃q,eG q run∧c=fE q run∧L=pR q run:=by
 refine aV Tryz.func36 rfl Tryz.ntmps36 rfl fun B=>?_
 have hml:(run.map cP).length=run.length:=Nu ..
 refine W01 ?_
 refine v8 a5 rfl rfl rfl rfl rfl fun b hb=>?_
 repeat' (first|refine Ng ?_|fail)
 cases b with
 | true=>
  have hn:run=[]:=by simpa using hb rfl
  subst hn
  refine W0s ?_
  refine bf (bH (t:=2) (c':= .imm 6 []) rfl fun σ v h=>jm 6 h) ?_
  exact NM IG ⟨none,⟨fun _=>rfl,fun m h=>by cases h⟩,rfl,rfl⟩
 | false=>
  repeat' (first|refine Ng ?_|refine NG a5 IG ?_|refine z2 (d:=5) a5 rfl rfl fun _=>?_|refine bJ rfl ?_)
  rename_i b5
  refine mQ a5 0 rfl rfl rfl rfl (oT rfl rfl) rfl (Nat.zero_le _) (Nat.le_refl _) (Nat.zero_le _) (by rw [hml];unfold maxLen;omega) (by rw [hml];omega) rfl fun b' cs' cap' e1 e2 e3 e4 e5=>?_
  refine W01 ?_
  have hcs:cs'=ct run++cs'.drop (run.length * 6):=by
   conv=>lhs;rw [←List.take_append_drop (run.length * 6) cs']
   rw [Nat.zero_add,hml] at e2
   rw [e2]
   rfl
  refine NM IG ⟨some ⟨b',cap',cs'.drop (run.length * 6)⟩,⟨fun h=>(by cases h),fun m hm=>?_⟩,?_,?_⟩
  ·cases hm
   dsimp only
   rw [←hcs]
   exact ⟨by omega,e4,e1⟩
  ·unfold fE
   dsimp only
   rw [Nat.zero_add,hml]
  ·unfold pR
   dsimp only
   rw [←hcs]
   rfl
theorem rN {R:List bc}:∀{l:List Nat},R.length≤(gg l R).length+l.length
 | []=>by simp [gg]
 | z::l=>by
  have:=rN (R:=R) (l:=l)
  have h2:(gg l R).length≤((gg l R).eraseIdx z).length+1:=by rw [List.length_eraseIdx];split <;> omega
  rw [gg,List.length_cons]
  omega
theorem AW {run:List bc} {p:Nat} {q:List Nat} (h:ut run (p::q)):p+q.length≤(p::q).getLastD p∧(p::q).getLastD p < run.length∧(q≠[]↔p < (p::q).getLastD p):=by
  have key:∀(q:List Nat) (p:Nat),(p::q).Pairwise (· < ·)→p+q.length≤(p::q).getLast (by simp):=by
    intro q
    induction q with
    | nil=>intro p _;simp
    | cons a q ih=>
      intro p hp
      obtain ⟨h1,h2⟩:=List.pairwise_cons.1 hp
      have:=ih a h2
      have:=h1 a (by simp)
      rw [List.getLast_cons (by simp),List.length_cons]
      omega
  have hk:=key q p h.inc
  have he:(p::q).getLastD p=(p::q).getLast (by simp):=by rw [List.getLastD_eq_getLast?,List.getLast?_eq_some_getLast (by simp)];rfl
  rw [he]
  refine ⟨hk,h.lt _ (List.getLast_mem _),fun hq=>?_,fun hq e=>?_⟩
  · have:0 < q.length:=List.length_pos_iff.2 hq
    omega
  · subst e
    simp at hq
theorem sR {l:aY} {r:bk} {run:List bc} {p:Nat} {q:List Nat} (h:ut run (p::q)):run.length - 1 - (p::q).getLastD p≤(ip l r (p::q) run).length:=by
 obtain ⟨h1,h2,_⟩:=AW h
 unfold ip
 split
 ·unfold i7;split <;> (try split) <;> (try split) <;> (try rw [List.length_set]) <;> omega
 split
 ·unfold jJ
  split
  ·omega
  ·split
   ·omega
   ·simp only [List.length_append,List.length_take,List.length_drop,Nu,List.headD_cons]
    omega
 split
 ·unfold oF
  split
  ·rename_i heq _
   cases heq
   split
   ·rename_i x hx
    have key:∀y:bc,run.length - 1 - (p::q).getLastD p≤(gg q (run.set p y)).length:=fun y=>by
     have:=rN (R:=run.set p y) (l:=q)
     rw [List.length_set] at this
     omega
    exact key _
   ·omega
  ·omega
 split
 ·unfold tY;split <;> (try rw [List.length_set]) <;> omega
 ·omega
theorem EL {ms:List Bool} {ls:List aY} {k:Nat} {l:aY} (hk:l.Kind≠4) {r:bk} {run:List bc} {p:Nat} {q:List Nat} (h:ut run (p::q)):run.length - 1 - (p::q).getLastD p≤(kO ms ls k l r (p::q) run).length:=by
 cases k with
 | zero=>rw [kO];exact sR h
 | succ k=>rw [kO];dsimp only;rw [if_neg hk];exact sR h
end
end Go.Proofs.YtpmdfoaadejmkaaGreatDoor
