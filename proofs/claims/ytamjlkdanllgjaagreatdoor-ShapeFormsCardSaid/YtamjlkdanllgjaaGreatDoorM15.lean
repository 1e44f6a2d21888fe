/-
  Where nothing matches a run stays; no run becomes longer than 500, and clusters that never fall never do.
-/
import Derived.Test.YtamjlkdanllgjaaGreatDoorM05
import Derived.Test.YtamjlkdanllgjaaGreatDoorM14
import Derived.Scope
namespace Go.Proofs.YtamjlkdanllgjaaGreatDoor
open Go.RowKit
attribute [local irreducible] AT bz AX AO Av Kt aZ cY DA cu
set_option maxRecDepth 8000
structure Lg (run:List aM):Prop where
 len:run.length≤500
 mono:run.Pairwise fun a b=>a.Cluster≤b.Cluster
theorem kx:∀{q:List Nat} {run:List aM},(eW q run).Sublist run
 | [],_=>List.Sublist.refl _
 | p::q,run=>by rw [eW];exact (List.eraseIdx_sublist ..).trans kx
set_option maxRecDepth 8000
theorem tX {R:List aM}:∀{l:List Nat} {j:Nat},l.Pairwise (· < ·)→(∀z∈l,j < z∧z < R.length)→j < R.length→j < (eW l R).length
  | [],_,_,_,hj=>hj
  | z::l,j,hs,hl,hj=>by
    obtain ⟨h1,h2⟩:=List.pairwise_cons.1 hs
    have hz:=hl z (by simp)
    have:=tX (j:=z) h2 (fun y hy=>⟨h1 y hy,(hl y (by simp [hy])).2⟩) hz.2
    rw [eW,List.length_eraseIdx_of_lt this]
    omega
theorem ry:∀{l:List Nat} {run:List aM} {c:Int},gB run l c≤c
 | [],_,_=>Int.le_refl _
 | p::l,run,c=>by
  have:=ry (l:=l) (run:=run) (c:=np run c p)
  have h2:np run c p≤c:=by unfold np;split <;> omega
  unfold gB at this ⊢
  rw [List.foldl_cons]
  omega
theorem oM {wb:Nat} {E:ot} {m:f0} {run:List aM} {p:Nat} {y:aM}:f3 (iv wb E (some m) run) 1 (.box (bO (run.set p y)++m.junk) 56)=iv wb E (some m) (run.set p y):=by
 show [(wb,AB.box [.iptr (dZ E),.sc (.slice (some ⟨m.rb,0,none⟩) run.length m.cap)] 328),(m.rb,.box (bO (run.set p y)++m.junk) 56),cX]=[(wb,AB.box [.iptr (dZ E),.sc (.slice (some ⟨m.rb,0,none⟩) (run.set p y).length m.cap)] 328),(m.rb,.box (bO (run.set p y)++m.junk) 56),cX]
 rw [List.length_set]
theorem x2 {B:Bs} {σ:bW} {w:World} {wb:Nat} {E:ot} {m:f0} {run:List aM} {p:Nat} {y:aM} (h:cK B σ (f3 (iv wb E (some m) run) 1 (.box (bO (run.set p y)++m.junk) 56)) w):cK B σ (iv wb E (some m) (run.set p y)) w:=oM▸h
theorem cS.set {m:f0} {run:List aM} (h:cS (some m) run) (p:Nat) (y:aM):cS (some m) (run.set p y):=⟨fun e=>(by cases e),fun m' e=>by
 cases e
 obtain ⟨h1,h2,h3⟩:=h.fit m rfl
 rw [List.length_append,cJ] at h3 ⊢
 rw [List.length_set]
 exact ⟨h1,h2,h3⟩⟩
theorem Kg {a b c:Nat×AB}:[a,b,c].Perm ([b]++[a,c]):=List.Perm.swap ..
set_option maxHeartbeats 4000000 in
theorem EL (E:ot) (wb:Nat) (m:f0) (run:List aM) (hq:cS (some m) run) (hr:run.length≤1000000) (p:Nat) (q:List Nat) (hp:∀j∈p::q,j < run.length) (hs:(p::q).Pairwise (· < ·)) (x:aM) (hx:run[p]?=some x) (r:bh) (g:Int) (gs:List Int) (hg:r.Out=g::gs):AC Tryz.prog 327 [eZ wb,.imm 1 (df (p::q)),aF g] (iv wb E (some m) run) fun _ L=>∃q',cS q' (mg r (p::q) run)∧L=iv wb E q' (mg r (p::q) run):=by
  refine aI Tryz.func327 rfl Tryz.ntmps327 rfl fun B=>?_
  refine cF 1 rfl rfl fun hlen=>?_
  have hil:=(Mq hx).1
  have hnl:=kH (p::q)
  rw [hnl] at hlen
  have hql:q.length+1≤9223372036854775807:=hlen
  obtain ⟨h1,h2,h3⟩:=hq.fit m rfl
  have hfl:=cJ run
  have hlv:mg r (p::q) run=eW q (run.set p { x with Glyph:=g,Cluster:=gB run (p::q) x.Cluster }):=by
    unfold mg
    rw [hg]
    dsimp only
    rw [hx]
  rw [hlv]
  have hflj:∀y:aM,(bO (run.set p y)++m.junk).length=(bO run++m.junk).length:=fun y=>by rw [List.length_append,cJ,List.length_set,List.length_append,hfl]
  have hp0:(df (p::q))[(0:Int).toNat]?=some [aF p]:=rfl
  have hst:=jU (j:=0) { x with Glyph:=g } (aF g) m.junk hx (by omega) rfl
  repeat' (first|refine ae ?_)
  refine bB 7 [(0,.v),(1,.v),(2,.v),(3,.l),(4,.v),(5,.v),(6,.v)] none ?_ trivial rfl (by kernel_rfl) (by kernel_rfl) (by kernel_rfl) mixed (by kernel_rfl) rfl
  repeat' (first|refine aJ ?_|refine bw a7 ?_|(apply cq;refine cQ a7 ?_)|refine cn a7 0 rfl rfl rfl rfl (by first|trivial|rfl) ?_)
  refine MG [0,1,2,13,16] LL ?_
  repeat' (first|refine ae ?_|refine a6 ?_|refine a8 ?_|refine aa ?_|refine LR a7 LL ?_|(apply aL;first|refine aK a7 ?_|refine aH a7 ?_)|fail)
  refine aj a7 1 rfl rfl rfl rfl rfl rfl (Nat.ble_eq_true_of_le (by rw [Int.toNat_natCast];simp;omega)) ?_
  rw [hst]
  repeat' (first|refine ae ?_|refine a6 ?_|refine ar ?_|refine a8 ?_|refine aa ?_|refine LR a7 LL ?_)
  refine aN [0,1,6,22,23] (α:=Nat) (fun k=>[(24,aF k)]) (fun k=>k≤(p::q).length) (fun k=>iv wb E (some m) (run.set p { x with Glyph:=g,Cluster:=gB run ((p::q).take k) x.Cluster })) (fun k=>(p::q).length - k) 0 rfl ⟨rfl,trivial⟩ (Nat.zero_le _) (fun _ _ h=>x2 h) fun k hk=>?_
  · try dsimp only [Mt,Ms,Mr,Mn]
    repeat' (first|refine ae ?_|refine a6 ?_|refine a8 ?_|refine aa ?_|refine LR a7 LL ?_)
    refine aB rfl (fun h=>?_) (fun h=>?_)
    · have hk2:k < (p::q).length:=by have:=Mz h;omega
      obtain ⟨j,hj⟩:∃z,(p::q)[k]?=some z:=⟨_,Ia hk2⟩
      have hjg:(df (p::q))[k]?=some [aF j]:=by unfold df;exact bH (by rw [List.getElem?_map,hj];rfl)
      have hjl:=hp j (Mx hj)
      obtain ⟨y,hy⟩:∃z,run[j]?=some z:=⟨_,Ia hjl⟩
      have htk:(p::q).take (k+1)=(p::q).take k++[j]:=by rw [List.take_add_one,hj];rfl
      have hle:=ry (l:=(p::q).take k) (run:=run) (c:=x.Cluster)
      have hnew:gB run ((p::q).take (k+1)) x.Cluster=min (gB run ((p::q).take k) x.Cluster) y.Cluster:=by
        unfold gB
        rw [htk,List.foldl_append]
        show np run _ j=_
        unfold np
        rw [hy]
      generalize gB run ((p::q).take k) x.Cluster=c at *
      have hxp:(run.set p { x with Glyph:=g,Cluster:=c })[p]?=some { x with Glyph:=g,Cluster:=c }:=List.getElem?_set_self hil
      obtain ⟨y2,hy2,hyc⟩:∃y2,(run.set p { x with Glyph:=g,Cluster:=c })[j]?=some y2∧min c y2.Cluster=min c y.Cluster:=by
        by_cases hjp:j=p
        · subst hjp
          rw [hx] at hy
          cases hy
          exact ⟨_,hxp,by dsimp only;omega⟩
        · exact ⟨y,by rw [List.getElem?_set_ne (fun e=>hjp e.symm)];exact hy,rfl⟩
      have hf1:=m4 (j:=1) m.junk hxp rfl
      have hf2:=m4 (j:=1) m.junk hy2 rfl
      have hst2:=jU (j:=1) { x with Glyph:=g,Cluster:=min c y2.Cluster } (aF (min c y2.Cluster)) m.junk hxp (by omega) rfl
      have hsl:(run.set p { x with Glyph:=g,Cluster:=c }).length=run.length:=List.length_set ..
      have hfl2:=hflj { x with Glyph:=g,Cluster:=c }
      clear h
      repeat' (first|refine ae ?_|refine a6 ?_|refine ar ?_|refine aq ?_|refine a8 ?_|refine aa ?_|refine LR a7 LL ?_|(apply aL;first|refine aK a7 ?_|refine aH a7 ?_)|fail)
      refine bB 14 [(0,.v),(1,.v),(2,.v),(3,.v),(4,.l),(5,.v),(6,.v),(7,.v),(8,.l),(9,.v),(10,.v),(11,.v),(12,.l),(13,.v)] none ?_ trivial rfl (by kernel_rfl) (by kernel_rfl) (by kernel_rfl) mixed (by kernel_rfl) rfl
      repeat' (first|refine aJ ?_|refine bw a7 ?_|fail)
      refine cn a7 1 rfl rfl rfl hf1 trivial ?_
      repeat' (first|refine aJ ?_|refine bw a7 ?_|refine cn a7 0 rfl rfl rfl rfl (by first|trivial|rfl) ?_)
      refine cx a7 rfl rfl rfl ⟨by omega,by omega⟩ trivial ?_
      repeat' (first|refine aJ ?_|refine bw a7 ?_|fail)
      refine cn a7 1 rfl rfl rfl hf2 trivial ?_
      repeat' (first|refine aJ ?_|refine bw a7 ?_|fail)
      refine MG [0,1,6,22,23,24,28,41] LL ?_
      repeat' (first|refine LR a7 LL ?_)
      refine aj a7 1 rfl rfl rfl rfl rfl rfl (Nat.ble_eq_true_of_le (by rw [Int.toNat_natCast];simp only [hfl2];simp;omega)) ?_
      rw [hst2]
      repeat' (first|refine a6 ?_|refine a8 ?_|refine aP ?_|refine aa ?_|refine LR a7 LL ?_|(apply aY;refine aX ?_)|fail)
      refine aE (k+1) rfl ⟨by rw [Mw];rfl,trivial⟩ (by omega) (by omega) (fun _ _ h=>?_)
      have h4:=x2 h
      rw [List.set_set] at h4
      rw [hnew,←hyc]
      exact h4
    · have hke:k=(p::q).length:=by have:=My h;omega
      subst hke
      rw [List.take_length]
      clear h
      have hR:(run.set p { x with Glyph:=g,Cluster:=gB run (p::q) x.Cluster }).length=run.length:=List.length_set ..
      have hqR:=hq.set p { x with Glyph:=g,Cluster:=gB run (p::q) x.Cluster }
      generalize run.set p { x with Glyph:=g,Cluster:=gB run (p::q) x.Cluster }=R at *
      obtain ⟨g1,g2,g3⟩:=hqR.fit m rfl
      repeat' (first|refine ae ?_|refine a6 ?_|refine ar ?_|refine aO ?_|refine a8 ?_|refine av ?_|refine aC ?_|refine aA ?_|refine aa ?_|refine LR a7 LL ?_|(apply aY;refine aX ?_)|fail)
      refine aN [0,1] (α:=Nat×List AV) (fun s=>[(9,aF s.1)]) (fun s=>s.1≤q.length∧m.cap * 6≤(bO (eW (q.drop s.1) R)++s.2).length) (fun s=>iv wb E (some ⟨m.rb,m.cap,s.2⟩) (eW (q.drop s.1) R)) (fun s=>s.1) (q.length,m.junk) rfl ⟨by rw [hnl];simp;rfl,trivial⟩ ⟨Nat.le_refl _,by rw [List.drop_length];exact g3⟩ (fun _ _ h=>by rw [List.drop_length];exact h) ?_
      rintro ⟨n,junk⟩ ⟨hn,hj⟩
      dsimp only at hn hj ⊢
      try dsimp only [Mt,Ms,Mr,Mn]
      repeat' (first|refine ae ?_|refine a6 ?_|refine a8 ?_|refine aa ?_|refine LR a7 LL ?_)
      refine aB rfl (fun h=>?_) (fun h=>?_)
      · have hn0:0 < n:=by have:=Mz h;omega
        obtain ⟨k,rfl⟩:∃k,n=k+1:=⟨n - 1,by omega⟩
        obtain ⟨z,hz⟩:∃z,q[k]?=some z:=⟨_,Ia (by omega)⟩
        have hzg:(df (p::q))[((k+1:Nat):Int).toNat]?=some [aF z]:=by rw [Int.toNat_natCast];unfold df;exact bH (by rw [Mr,List.getElem?_cons_succ,List.getElem?_map,hz];rfl)
        have hqd:q.drop k=z::q.drop (k+1):=by rw [List.drop_eq_getElem_cons (by omega),(Mq hz).2]
        have hqp:=(List.pairwise_cons.1 hs).2
        have hdp:(z::q.drop (k+1)).Pairwise (· < ·):=by rw [←hqd];exact hqp.sublist (List.drop_sublist ..)
        obtain ⟨d1,d2⟩:=List.pairwise_cons.1 hdp
        have hqm:∀y∈q,y < R.length:=fun y hy=>by rw [hR];exact hp y (by simp [hy])
        have hzl:=tX (R:=R) d2 (fun y hy=>⟨d1 y hy,hqm y (List.mem_of_mem_drop hy)⟩) (hqm z (Mx hz))
        have hdl:(eW (q.drop (k+1)) R).length≤R.length:=kx.length_le
        have hdel:=yx m.rb m.cap (eW (q.drop (k+1)) R) junk z hzl (by omega) h2 hj (by omega)
        have her:(eW (q.drop (k+1)) R).eraseIdx z=eW (q.drop k) R:=by rw [hqd];rfl
        rw [her] at hdel
        clear h
        repeat' (first|refine ae ?_|refine ar ?_|refine aq ?_|refine a8 ?_)
        refine bB 15 [(0,.v),(1,.v),(2,.v),(3,.v),(4,.l),(5,.v),(6,.v),(7,.v),(8,.v),(9,.v),(10,.v),(11,.v),(12,.v),(13,.v),(14,.e)] none ?_ trivial rfl (by kernel_rfl) (by kernel_rfl) (by kernel_rfl) mixed (by kernel_rfl) rfl
        repeat' (first|refine aJ ?_|refine bw a7 ?_|(apply iq;refine kT ?_)|(apply cq;refine cQ a7 ?_)|refine cn a7 0 rfl rfl rfl rfl (by first|trivial|rfl) ?_)
        refine ku [(m.rb,.box (bO (eW (q.drop (k+1)) R)++junk) 56)] [(wb,.box [.iptr (dZ E),cG (some ⟨m.rb,m.cap,junk⟩) (eW (q.drop (k+1)) R)] 328),cX] hdel rfl rfl Kg trivial fun c L1 ⟨hc,junk',hj',hL⟩=>?_
        subst hc;subst hL
        repeat' (first|fail)
        refine MG [0,1,9,52,66] LL ?_
        refine bq (b8 HE) ?_
        repeat' (first|refine a6 ?_|refine a8 ?_|refine aP ?_|refine aa ?_|refine LR a7 LL ?_|(apply aY;refine aX ?_)|(apply aU;first|refine LU a7 0 LP ?_|refine LU a7 1 LP ?_|refine LU a7 2 LP ?_|refine LU a7 3 LP ?_|fail))
        refine aE (k,junk') rfl ⟨?_,trivial⟩ ⟨by omega,hj'⟩ (by dsimp only;omega) (fun _ _ h=>h)
        show some (aF (((k+1:Nat):Int) - 1))=some (aF (k:Int))
        rw [show ((k+1:Nat):Int) - 1=(k:Int) by omega]
      · have hn0:n=0:=by have:=My h;omega
        subst hn0
        rw [List.drop_zero] at hj ⊢
        clear h
        repeat' (first|refine aO ?_|refine av ?_|refine aC ?_|refine aA ?_)
        have hdl:=(kx (q:=q) (run:=R)).length_le
        have hok:cS (some ⟨m.rb,m.cap,junk⟩) (eW q R):=⟨fun e=>(by cases e),fun m' e=>by
          cases e
          exact ⟨by dsimp only;omega,h2,hj⟩⟩
        exact bT rfl ⟨some ⟨m.rb,m.cap,junk⟩,hok,rfl⟩
set_option maxRecDepth 8000
section
variable {P:Program} {tt:TT} {l:List Oper} {fr:bP} {fin:jz} {sk:lE} {acc:bP} {L:AL} {k:Nat} {dd:Option Tmp} {ty t t':TypeId} {pos:String} {af:Array Edge} {g:Option (Nat×Bool)} {x y:Operand} {u:AV}
theorem GS {q:IntKind} {a b:Int} (hx:bc (cE l.toArray acc fr af.toList) x=some (.sc (.int q a))) (hy:bc (cE l.toArray acc fr af.toList) y=some (.sc (.int q b))) (hg:jt ⟨dd,.binOp .add t x y t',ty,pos,af,g⟩ acc) (h:DA P l fr fin sk ((k,.sc (.int q (q.wrap (a+b))))::acc) L):cu P l fr fin k .v ⟨dd,.binOp .add t x y t',ty,pos,af,g⟩ sk acc L:=fI hg (Dp (FM hx hy)) h
end
structure rX (run:List aM) (ps:List Nat):Prop where
  some_:ps≠[]
  lt:∀j∈ps,j < run.length
  inc:ps.Pairwise (· < ·)
structure oS (r:bh):Prop where
 some_:r.In≠[]
 out:r.Out.length≤1000000
 calls:r.Calls.length≤1000000
 at_:∀c∈r.Calls,0≤c.At∧c.At≤1000000
abbrev j4 (wb:Nat) (e:oB) (r:bh) (ps:List Nat) (deep:Nat):List AV:=[eZ wb,.iptr (f4 e),.iptr (bR (eC r)),.imm 1 (df ps),aF deep]
def fZ (wb:Nat) (E:ot) (run':List aM):AV→AL→Prop:=fun _ L=>∃q',cS q' run'∧L=iv wb E q' run'
section
variable {E:ot} {wb:Nat} {m:f0} {run:List aM} (hq:cS (some m) run) (hr:run.length≤1000000) {e:oB} {r:bh} (hro:oS r) {ps:List Nat} (hps:rX run ps) (deep:Nat)
include hq hr hro hps
set_option maxHeartbeats 4000000 in
theorem Lm (hk:e.l.Kind=2):AC Tryz.prog 285 (j4 wb e r ps deep) (iv wb E (some m) run) (fZ wb E (fW e.l r ps run)):=by
 obtain ⟨⟨kd,ig,rs⟩,cls,fo,ba,fe,be⟩:=e
 dsimp only at hk
 subst hk
 obtain ⟨p,q,rfl⟩:=List.exists_cons_of_ne_nil hps.some_
 have hpl:=hps.lt p (by simp)
 obtain ⟨x,hx⟩:∃x,run[p]?=some x:=⟨_,Ia hpl⟩
 have hp0:(df (p::q))[(0:Int).toNat]?=some [aF p]:=rfl
 have hm:=C3 E wb m run hq hr p x hx r hro.out
 refine aI Tryz.func285 rfl Tryz.ntmps285 rfl fun B=>?_
 repeat' (first|refine ae ?_|refine a6 ?_|refine ar ?_|refine a8 ?_|refine aa ?_|refine LR a7 LL ?_|(apply aL;first|refine aK a7 ?_|refine aH a7 ?_)|refine bI rfl ?_|refine bo rfl ?_)
 refine aW (iv wb E (some m) run) [] hm rfl rfl (by rw [List.append_nil]) rfl fun c L1 ⟨q',h1,h2⟩=>?_
 subst h2
 repeat' (first|refine aP ?_|refine aa ?_)
 exact bT rfl ⟨q',h1,by rw [List.append_nil];rfl⟩
set_option maxHeartbeats 4000000 in
theorem Ll (hk:e.l.Kind=1):AC Tryz.prog 285 (j4 wb e r ps deep) (iv wb E (some m) run) (fZ wb E (fW e.l r ps run)):=by
 have _:=hr
 obtain ⟨⟨kd,ig,rs⟩,cls,fo,ba,fe,be⟩:=e
 dsimp only at hk
 subst hk
 obtain ⟨p,q,rfl⟩:=List.exists_cons_of_ne_nil hps.some_
 have hpl:=hps.lt p (by simp)
 obtain ⟨x,hx⟩:∃x,run[p]?=some x:=⟨_,Ia hpl⟩
 have hp0:(df (p::q))[(0:Int).toNat]?=some [aF p]:=rfl
 obtain ⟨i0,is,hin⟩:=List.exists_cons_of_ne_nil hro.some_
 have hin0:(bj (eC r).In)[(0:Int).toNat]?=some [.imm 1 (aT i0)]:=by
  show (bj r.In)[0]?=_
  rw [hin]
  rfl
 have hsv:fW ⟨1,ig,rs⟩ r (p::q) run=eU r p run:=rfl
 rw [hsv]
 have hsg:eU r p run=match r.Out[i0.idxOf x.Glyph]? with
   | none=>run
   | some g=>if i0.idxOf x.Glyph < i0.length then run.set p { x with Glyph:=g } else run:=by
  unfold eU
  rw [hx,hin]
  rfl
 have hol:=b7 r.Out
 have h0:=m4 (j:=0) m.junk hx rfl
 obtain ⟨g1,g2,g3⟩:=hq.fit m rfl
 have hfl:=cJ run
 refine aI Tryz.func285 rfl Tryz.ntmps285 rfl fun B=>?_
 repeat' (first|refine ae ?_|refine a6 ?_|refine ar ?_|refine aq ?_|refine a8 ?_|refine aa ?_|refine LR a7 LL ?_|(apply aL;first|refine aK a7 ?_|refine aH a7 ?_)|refine bI rfl ?_)
 refine bB 15 [(0,.v),(1,.v),(2,.v),(3,.v),(4,.v),(5,.v),(6,.v),(7,.v),(8,.v),(9,.l),(10,.v),(11,.v),(12,.v),(13,.l),(14,.v)] none ?_ trivial rfl (by kernel_rfl) (by kernel_rfl) (by kernel_rfl) mixed (by kernel_rfl) rfl
 repeat' (first|refine aJ ?_|refine bw a7 ?_|(apply cq;refine cQ a7 ?_)|refine cn a7 0 rfl rfl rfl rfl (by first|trivial|rfl) ?_)
 refine cx a7 rfl rfl rfl ⟨by omega,by omega⟩ trivial ?_
 repeat' (first|refine aJ ?_|refine bw a7 ?_|fail)
 refine cn a7 1 rfl rfl rfl h0 trivial ?_
 repeat' (first|refine aJ ?_|(apply cM;refine dc ?_)|fail)
 refine MG [0,2,10,37] LL ?_
 repeat' (first|refine ae ?_|refine a6 ?_|refine a8 ?_|refine aa ?_|refine LR a7 LL ?_)
 have hst:(eC r).Out=r.Out:=rfl
 generalize hn:(if x.Glyph∈i0 then ((i0.idxOf x.Glyph:Nat):Int) else -1)=n
 refine bN [0,2,10,11] (0≤n∧n < r.Out.length) rfl (fun Q' K=>?_) (fun hC=>?_) (fun hC=>?_)
 ·repeat' (first|refine aa ?_|refine LR a7 LL ?_|refine MB LL ?_|refine MC LN ?_|refine MD LM (fun _=>?_) (fun _=>?_))
  all_goals exact K _ _ rfl rfl (by rw [hst,hol] at *;simp_all <;> omega)
 ·have hm:x.Glyph∈i0:=Classical.byContradiction fun hm=>by rw [if_neg hm] at hn;omega
  rw [if_pos hm] at hn
  subst hn
  have hlt:i0.idxOf x.Glyph < r.Out.length:=by omega
  obtain ⟨g,hg⟩:∃g,r.Out[i0.idxOf x.Glyph]?=some g:=⟨_,Ia hlt⟩
  have hgg:(aT (eC r).Out)[((i0.idxOf x.Glyph:Nat):Int).toNat]?=some [aF g]:=by rw [Int.toNat_natCast];exact bH hg
  rw [hg] at hsg
  dsimp only at hsg
  rw [if_pos (List.idxOf_lt_length_of_mem hm)] at hsg
  rw [hsg]
  have hst:=jU (j:=0) { x with Glyph:=g } (aF g) m.junk hx (by omega) rfl
  repeat' (first|fail)
  refine bB 12 [(0,.v),(1,.v),(2,.v),(3,.l),(4,.v),(5,.v),(6,.v),(7,.v),(8,.v),(9,.v),(10,.v),(11,.v)] none ?_ trivial rfl (by kernel_rfl) (by kernel_rfl) (by kernel_rfl) mixed (by kernel_rfl) rfl
  repeat' (first|refine aJ ?_|refine bw a7 ?_|(apply cq;refine cQ a7 ?_)|refine cn a7 0 rfl rfl rfl rfl (by first|trivial|rfl) ?_)
  refine MG [52,53,60] LL ?_
  repeat' (first|refine LR a7 LL ?_|(apply aL;first|refine aK a7 ?_|refine aH a7 ?_)|fail)
  refine aj a7 1 rfl rfl rfl rfl rfl rfl (Nat.ble_eq_true_of_le (by rw [Int.toNat_natCast];simp;omega)) ?_
  rw [hst]
  repeat' (first|refine aP ?_|refine aa ?_)
  exact bT rfl ⟨some m,hq.set p _,oM⟩
 ·have hsg2:eU r p run=run:=by
   rw [hsg]
   split
   ·rfl
   ·rename_i g hg
    rw [if_neg]
    intro h
    rw [if_pos (List.idxOf_lt_length_iff.1 h)] at hn
    have:=(Mq hg).1
    omega
  rw [hsg2]
  repeat' (first|refine aq ?_|refine aP ?_)
  exact bT rfl ⟨some m,hq,rfl⟩
set_option maxHeartbeats 4000000 in
theorem Lo (hk:e.l.Kind=5):AC Tryz.prog 285 (j4 wb e r ps deep) (iv wb E (some m) run) (fZ wb E (fW e.l r ps run)):=by
 have _:=hr
 obtain ⟨⟨kd,ig,rs⟩,cls,fo,ba,fe,be⟩:=e
 dsimp only at hk
 subst hk
 obtain ⟨p,q,rfl⟩:=List.exists_cons_of_ne_nil hps.some_
 have hpl:=hps.lt p (by simp)
 obtain ⟨x,hx⟩:∃x,run[p]?=some x:=⟨_,Ia hpl⟩
 have hp0:(df (p::q))[(0:Int).toNat]?=some [aF p]:=rfl
 obtain ⟨i0,is,hin⟩:=List.exists_cons_of_ne_nil hro.some_
 have hin0:(bj (eC r).In)[(0:Int).toNat]?=some [.imm 1 (aT i0)]:=by
  show (bj r.In)[0]?=_
  rw [hin]
  rfl
 have hsv:fW ⟨5,ig,rs⟩ r (p::q) run=eU r p run:=rfl
 rw [hsv]
 have hsg:eU r p run=match r.Out[i0.idxOf x.Glyph]? with
   | none=>run
   | some g=>if i0.idxOf x.Glyph < i0.length then run.set p { x with Glyph:=g } else run:=by
  unfold eU
  rw [hx,hin]
  rfl
 have hol:=b7 r.Out
 have h0:=m4 (j:=0) m.junk hx rfl
 obtain ⟨g1,g2,g3⟩:=hq.fit m rfl
 have hfl:=cJ run
 refine aI Tryz.func285 rfl Tryz.ntmps285 rfl fun B=>?_
 repeat' (first|refine ae ?_|refine a6 ?_|refine ar ?_|refine a8 ?_|refine aa ?_|refine LR a7 LL ?_|(apply aL;first|refine aK a7 ?_|refine aH a7 ?_)|refine bI rfl ?_|refine bo rfl ?_)
 refine bB 15 [(0,.v),(1,.v),(2,.v),(3,.v),(4,.v),(5,.v),(6,.v),(7,.v),(8,.v),(9,.l),(10,.v),(11,.v),(12,.v),(13,.l),(14,.v)] none ?_ trivial rfl (by kernel_rfl) (by kernel_rfl) (by kernel_rfl) mixed (by kernel_rfl) rfl
 repeat' (first|refine aJ ?_|refine bw a7 ?_|(apply cq;refine cQ a7 ?_)|refine cn a7 0 rfl rfl rfl rfl (by first|trivial|rfl) ?_)
 refine cx a7 rfl rfl rfl ⟨by omega,by omega⟩ trivial ?_
 repeat' (first|refine aJ ?_|refine bw a7 ?_|fail)
 refine cn a7 1 rfl rfl rfl h0 trivial ?_
 repeat' (first|refine aJ ?_|(apply cM;refine dc ?_)|fail)
 refine MG [0,2,10,37] LL ?_
 repeat' (first|refine ae ?_|refine a6 ?_|refine a8 ?_|refine aa ?_|refine LR a7 LL ?_)
 have hst:(eC r).Out=r.Out:=rfl
 generalize hn:(if x.Glyph∈i0 then ((i0.idxOf x.Glyph:Nat):Int) else -1)=n
 refine bN [0,2,10,11] (0≤n∧n < r.Out.length) rfl (fun Q' K=>?_) (fun hC=>?_) (fun hC=>?_)
 ·repeat' (first|refine aa ?_|refine LR a7 LL ?_|refine MB LL ?_|refine MC LN ?_|refine MD LM (fun _=>?_) (fun _=>?_))
  all_goals exact K _ _ rfl rfl (by rw [hst,hol] at *;simp_all <;> omega)
 ·have hm:x.Glyph∈i0:=Classical.byContradiction fun hm=>by rw [if_neg hm] at hn;omega
  rw [if_pos hm] at hn
  subst hn
  have hlt:i0.idxOf x.Glyph < r.Out.length:=by omega
  obtain ⟨g,hg⟩:∃g,r.Out[i0.idxOf x.Glyph]?=some g:=⟨_,Ia hlt⟩
  have hgg:(aT (eC r).Out)[((i0.idxOf x.Glyph:Nat):Int).toNat]?=some [aF g]:=by rw [Int.toNat_natCast];exact bH hg
  rw [hg] at hsg
  dsimp only at hsg
  rw [if_pos (List.idxOf_lt_length_of_mem hm)] at hsg
  rw [hsg]
  have hst:=jU (j:=0) { x with Glyph:=g } (aF g) m.junk hx (by omega) rfl
  repeat' (first|fail)
  refine bB 12 [(0,.v),(1,.v),(2,.v),(3,.l),(4,.v),(5,.v),(6,.v),(7,.v),(8,.v),(9,.v),(10,.v),(11,.v)] none ?_ trivial rfl (by kernel_rfl) (by kernel_rfl) (by kernel_rfl) mixed (by kernel_rfl) rfl
  repeat' (first|refine aJ ?_|refine bw a7 ?_|(apply cq;refine cQ a7 ?_)|refine cn a7 0 rfl rfl rfl rfl (by first|trivial|rfl) ?_)
  refine MG [52,53,60] LL ?_
  repeat' (first|refine LR a7 LL ?_|(apply aL;first|refine aK a7 ?_|refine aH a7 ?_)|fail)
  refine aj a7 1 rfl rfl rfl rfl rfl rfl (Nat.ble_eq_true_of_le (by rw [Int.toNat_natCast];simp;omega)) ?_
  rw [hst]
  repeat' (first|refine aP ?_|refine aa ?_)
  exact bT rfl ⟨some m,hq.set p _,oM⟩
 ·have hsg2:eU r p run=run:=by
   rw [hsg]
   split
   ·rfl
   ·rename_i g hg
    rw [if_neg]
    intro h
    rw [if_pos (List.idxOf_lt_length_iff.1 h)] at hn
    have:=(Mq hg).1
    omega
  rw [hsg2]
  repeat' (first|refine aq ?_|refine aP ?_)
  exact bT rfl ⟨some m,hq,rfl⟩
set_option maxHeartbeats 4000000 in
theorem Ln (hk:e.l.Kind=3):AC Tryz.prog 285 (j4 wb e r ps deep) (iv wb E (some m) run) (fZ wb E (fW e.l r ps run)):=by
 have _:=hro
 obtain ⟨⟨kd,ig,rs⟩,cls,fo,ba,fe,be⟩:=e
 dsimp only at hk
 subst hk
 obtain ⟨p,q,rfl⟩:=List.exists_cons_of_ne_nil hps.some_
 have hpl:=hps.lt p (by simp)
 obtain ⟨x,hx⟩:∃x,run[p]?=some x:=⟨_,Ia hpl⟩
 have hp0:(df (p::q))[(0:Int).toNat]?=some [aF p]:=rfl
 have hol:=b7 (eC r).Out
 have hst:(eC r).Out=r.Out:=rfl
 rw [hst] at hol
 refine aI Tryz.func285 rfl Tryz.ntmps285 rfl fun B=>?_
 repeat' (first|refine ae ?_|refine a6 ?_|refine ar ?_|refine a8 ?_|refine aa ?_|refine LR a7 LL ?_|(apply aL;first|refine aK a7 ?_|refine aH a7 ?_)|refine bI rfl ?_|refine bo rfl ?_)
 refine aB rfl (fun h=>?_) (fun h=>?_)
 ·have hne:r.Out≠[]:=fun e=>by rw [hst,e] at h;cases h
  obtain ⟨g,gs,hg⟩:=List.exists_cons_of_ne_nil hne
  have hj:=EL E wb m run hq hr p q hps.lt hps.inc x hx r g gs hg
  have hg0:(aT (eC r).Out)[(0:Int).toNat]?=some [aF g]:=by rw [hst,hg];rfl
  clear h
  repeat' (first|refine a6 ?_|refine LR a7 LL ?_|(apply aL;first|refine aK a7 ?_|refine aH a7 ?_)|fail)
  refine aW (iv wb E (some m) run) [] hj rfl rfl (by rw [List.append_nil]) rfl fun c L1 ⟨q',h1,h2⟩=>?_
  subst h2
  repeat' (first|refine aP ?_|refine aa ?_)
  exact bT rfl ⟨q',h1,by rw [List.append_nil];rfl⟩
 ·have hz:r.Out=[]:=List.eq_nil_of_length_eq_zero (by have:=My h;rw [hst] at this;omega)
  have hsv:fW ⟨3,ig,rs⟩ r (p::q) run=run:=by
   show mg r (p::q) run=run
   unfold mg
   rw [hz]
  rw [hsv]
  repeat' (first|refine aq ?_|refine aP ?_)
  exact bT rfl ⟨some m,hq,rfl⟩
set_option maxHeartbeats 4000000 in
theorem Lp (hk:e.l.Kind=6):AC Tryz.prog 285 (j4 wb e r ps deep) (iv wb E (some m) run) (fZ wb E (fW e.l r ps run)):=by
 have _:=hr
 have _:=hro
 obtain ⟨⟨kd,ig,rs⟩,cls,fo,ba,fe,be⟩:=e
 dsimp only at hk
 subst hk
 obtain ⟨p,q,rfl⟩:=List.exists_cons_of_ne_nil hps.some_
 have hpl:=hps.lt p (by simp)
 obtain ⟨x,hx⟩:∃x,run[p]?=some x:=⟨_,Ia hpl⟩
 have hp0:(df (p::q))[(0:Int).toNat]?=some [aF p]:=rfl
 have hsv:fW ⟨6,ig,rs⟩ r (p::q) run=run.set p { x with Advance:=IntKind.i64.wrap (x.Advance+r.X) }:=by
  show rF r p run=_
  unfold rF
  rw [hx]
 rw [hsv]
 have h3:=m4 (j:=3) m.junk hx rfl
 have hst:=jU (j:=3) { x with Advance:=IntKind.i64.wrap (x.Advance+r.X) } (aF (IntKind.i64.wrap (x.Advance+r.X))) m.junk hx (by omega) rfl
 obtain ⟨g1,g2,g3⟩:=hq.fit m rfl
 have hfl:=cJ run
 refine aI Tryz.func285 rfl Tryz.ntmps285 rfl fun B=>?_
 repeat' (first|refine ae ?_|refine a6 ?_|refine ar ?_|refine a8 ?_|refine aa ?_|refine LR a7 LL ?_|(apply aL;first|refine aK a7 ?_|refine aH a7 ?_)|refine bI rfl ?_|refine bo rfl ?_)
 refine bB 13 [(0,.v),(1,.v),(2,.v),(3,.l),(4,.v),(5,.v),(6,.v),(7,.l),(8,.v),(9,.v),(10,.v),(11,.v),(12,.v)] none ?_ trivial rfl (by kernel_rfl) (by kernel_rfl) (by kernel_rfl) mixed (by kernel_rfl) rfl
 repeat' (first|refine aJ ?_|refine bw a7 ?_|refine cn a7 0 rfl rfl rfl rfl (by first|trivial|rfl) ?_)
 refine cx a7 rfl rfl rfl ⟨by omega,by omega⟩ trivial ?_
 repeat' (first|refine aJ ?_|refine bw a7 ?_|fail)
 refine cn a7 1 rfl rfl rfl h3 trivial ?_
 repeat' (first|refine aJ ?_|refine bw a7 ?_|fail)
 refine GS rfl rfl trivial ?_
 repeat' (first|fail)
 refine MG [107,108,116] LL ?_
 repeat' (first|refine LR a7 LL ?_|(apply aL;first|refine aK a7 ?_|refine aH a7 ?_)|fail)
 refine aj a7 1 rfl rfl rfl rfl rfl rfl (Nat.ble_eq_true_of_le (by rw [Int.toNat_natCast];simp;omega)) ?_
 have hsx:(eC r).X=r.X:=rfl
 rw [hsx,hst]
 repeat' (first|refine aP ?_|refine aa ?_)
 exact bT rfl ⟨some m,hq.set p _,oM⟩
end
end Go.Proofs.YtamjlkdanllgjaaGreatDoor
namespace Go.Proofs.YtamjlkdanllgjaaGreatDoor
open Go.RowKit
section
variable {P:Program} {b:Frame} {a:Act} {k:List Item} {cs:List Frame} {w:World} {Q:Exit→Act→World→Prop} {F:Fence} {n:Nat}
theorem fB {c:Code}:step P (lone (b.atR a (.code (.scope c)::k)) cs w)= .next (lone (b.atR a (.code c:: .inScope c::k)) cs w):=
 step_lone_go (by simp [stepG,stepG.exec,Frame.atR])
theorem qP {c:Code}:step P (lone (b.atR a (.inScope c::k)) cs w)= .next (lone (b.atR a k) cs w):=
 step_lone_go (by simp [stepG,stepG.exec,Frame.atR])
theorem wL {c:Code} (h:c.wpIn F n P (Exit.noGoto Q) a w):(Code.scope c).wpIn F n P Q a w:=by
 intro b k cs hro hb hr
 have h0:(lone (b.atR a (.code (.scope c)::k)) cs w).fenced P F:=fenced_calm hb hr rfl
 obtain ⟨e,a₁,w₁,hq,harr⟩:=h b (.inScope c::k) cs hro hb hr
 cases e with
 | normal=>exact ⟨.normal,a₁,w₁,hq,.head h0 fB (StepsIn.trans harr (.one (fenced_calm hb hr rfl) qP))⟩
 | exit id=>
  have hx:exitTo id (.inScope c::k)=exitTo id k:=by simp [exitTo]
  exact ⟨.exit id,a₁,w₁,hq,fun k' hk=> .head h0 fB (harr.1 k' (by rw [hx];exact hk)),
   fun hr' hk=>let ⟨k₁,h1,h2⟩:=harr.2 hr' (by rw [hx];exact hk);⟨k₁,h1,.head h0 fB h2⟩⟩
 | goto l=>exact hq.elim
 | ret=>exact ⟨_,a₁,w₁,hq,.of_steps (.one h0 fB) harr⟩
 | panic ch=>exact ⟨_,a₁,w₁,hq,.of_steps (.one h0 fB) harr⟩
 | outgrown=>exact ⟨_,a₁,w₁,hq,.of_steps (.one h0 fB) harr⟩
end
section
variable {P:Program} {r:Option Nat} {Q:Exit→Act→World→Prop} {nt:Nat} {D:List Deferred} {fr:bP} {B:Bs} {L:AL}
theorem Ay {c:Code} (h:AT P r c (Exit.noGoto Q) nt D fr B L):AT P r (.scope c) Q nt D fr B L:=fun σ a w ha hw=>wL (h σ a w ha hw)
theorem GO (h:AX P .normal Q nt D fr B L):AX P .normal (Exit.noGoto Q) nt D fr B L:=fun σ a w ha hw=>h σ a w ha hw
end
end Go.Proofs.YtamjlkdanllgjaaGreatDoor
namespace Go.Proofs.YtamjlkdanllgjaaGreatDoor
open Go.RowKit
attribute [local irreducible] AT bz AX AO Av Kt aZ cY DA cu
set_option maxRecDepth 8000
structure lF (E:ot):Prop where
 auto:∀e∈E.lks,1≤e.l.Kind→e.l.Kind≤6→jI e
 rule:∀e∈E.lks,∀r∈e.l.Rules,r.In≠[]→oS r
abbrev ot.ls (E:ot):List b6:=E.lks.map (·.l)
theorem zf {ms:List Bool} {ig:Bool} {run:List aM} {i:Nat} (hi:i < run.length) {n:Int} (h0:0≤n):sL ms ig run i n=if jn ms ig run i=true then (if n=0 then some i else sL ms ig run (i+1) (n - 1)) else sL ms ig run (i+1) n:=by
 unfold sL
 rw [if_pos h0,jb hi]
 split
 ·split
  ·rename_i hn
   subst hn
   rfl
  ·rw [if_pos (by omega),show n.toNat=(n - 1).toNat+1 by omega,List.getElem?_cons_succ]
 ·rfl
theorem Ck {ms:List Bool} {ig:Bool} {run:List aM} {i:Nat} (hi:run.length≤i) (n:Int):sL ms ig run i n=none:=by
 unfold sL
 rw [rj hi]
 split <;> simp
theorem yI {ms:List Bool} {ig:Bool} {run:List aM} {i:Nat}:(dU ms ig run i).Pairwise (· < ·):=by
  unfold dU
  exact List.Pairwise.filter _ (List.pairwise_lt_range' ..)
theorem HN {ms:List Bool} {l:b6} {run:List aM} {i:Nat} {forms:List Int} {r:bh} (h:ej ms l run i forms=some r):rX run (dm ms l run i r)∧r∈l.Rules∧r.In≠[]∧i < run.length∧(dm ms l run i r).head?=some i:=by
 unfold ej at h
 split at h
 ·rename_i hb
  have hm:=List.mem_of_find?_eq_some h
  obtain ⟨h1,h2⟩:=og (List.find?_some h)
  unfold il at hb
  split at hb
  ·rename_i x hx
   have hil:=(Mq hx).1
   rw [Bool.and_eq_true] at hb
   have hs:jn ms l.Ignore run i=true:=by rw [kL hx];exact hb.1
   have hf:dU ms l.Ignore run i=i::dU ms l.Ignore run (i+1):=by rw [jb hil,if_pos hs]
   obtain ⟨n,hn⟩:∃n,r.In.length=n+1:=⟨r.In.length - 1,by omega⟩
   have hp:dm ms l run i r=i::(dU ms l.Ignore run (i+1)).take n:=by unfold dm;rw [hf,hn,List.take_succ_cons]
   refine ⟨⟨by rw [hp];simp,fun j hj=>(Bp j (List.mem_of_mem_take hj)).2.1,?_⟩,hm,fun e=>by rw [e] at h1;simp at h1,hil,by rw [hp];rfl⟩
   exact yI.sublist (List.take_sublist ..)
  ·cases hb
 ·cases h
def fM (a b:Nat):Prop:=b≤max a 500
theorem rN {l:b6} {r:bh} {ps:List Nat} {run:List aM}:fM run.length (fW l r ps run).length:=by
 unfold fW fM
 split
 ·unfold eU;split <;> (try split) <;> (try split) <;> (try rw [List.length_set]) <;> omega
 split
 ·unfold gX
  split
  ·omega
  ·split
   ·omega
   ·rename_i x hx hh
    have:=(Mq hx).1
    simp only [List.length_append,List.length_take,List.length_drop,Mv]
    omega
 split
 ·unfold mg
  split
  ·split
   ·refine Nat.le_trans kx.length_le ?_
    rw [List.length_set];omega
   ·omega
  ·omega
 split
 ·unfold rF;split <;> (try rw [List.length_set]) <;> omega
 ·omega
theorem fM.trans {a b c:Nat} (h:fM a b) (k:fM b c):fM a c:=by unfold fM at *;omega
theorem qX {ms:List Bool} {ls:List b6} {d:JC} (hd:∀l r ps run,fM run.length (d l r ps run).length) {n:Int} {i:Nat} {run:List aM}:fM run.length (lS ms ls d n i run).length:=by
 unfold lS
 split
 ·unfold fM;omega
 ·split
  ·unfold fM;omega
  ·split
   ·unfold fM;omega
   ·split
    ·unfold fM;omega
    ·exact hd ..
theorem kv {ms:List Bool} {ls:List b6}:∀(k:Nat) (l:b6) (r:bh) (ps:List Nat) (run:List aM),fM run.length (iA ms ls k l r ps run).length
 | 0,_,_,_,_=>rN
 | k+1,l,r,ps,run=>by
  unfold iA
  split
  ·have key:∀(cs:List jr) (run:List aM),fM run.length (cs.foldl (fm ms ls (iA ms ls k) l.Ignore (ps.headD 0)) run).length:=by
    intro cs
    induction cs with
    | nil=>intro run;unfold fM;simp;omega
    | cons c cs ih=>
     intro run
     rw [List.foldl_cons]
     refine fM.trans ?_ (ih _)
     unfold fm
     split
     ·unfold fM;omega
     ·exact qX (kv k)
   exact key _ _
  ·exact rN
theorem fM.big {a b:Nat} (h:fM a b) (ha:a≤1000000):b≤1000000:=by unfold fM at h;omega
section
variable {E:ot} (hE:lF E) (wb:Nat)
def Ie (E:ot) (wb deep k:Nat):Prop:=∀(e:oB) (r:bh) (ps:List Nat) (q:Option f0) (run:List aM),e∈E.lks→1≤e.l.Kind→e.l.Kind≤6→oS r→rX run ps→cS q run→run.length≤1000000→
 AC Tryz.prog 285 (j4 wb e r ps deep) (iv wb E q run) (fZ wb E (iA E.ms E.ls k e.l r ps run))
def v8 (E:ot) (wb deep k:Nat):Prop:=∀(n:Int) (i:Nat) (q:Option f0) (run:List aM),i < run.length→cS q run→run.length≤1000000→
 AC Tryz.prog 357 [eZ wb,aF n,aF i,aF deep] (iv wb E q run) (fZ wb E (lS E.ms E.ls (iA E.ms E.ls k) n i run))
theorem qW (E:ot):(E.lks.map f4).length=E.lks.length:=by simp
include hE in
set_option maxHeartbeats 4000000 in
theorem E0 {deep k:Nat} (hd:deep≤4) (hdo:Ie E wb deep k):v8 E wb deep k:=by
 intro n i q run hi hq hr
 refine aI Tryz.func357 rfl Tryz.ntmps357 rfl fun B=>?_
 have hll:=qW E
 repeat' (first|refine ae ?_|refine a6 ?_|refine LR a7 LL ?_)
 refine bN [0,1,2,3] (n < 0∨(E.lks.length:Int)≤n) rfl (fun Q' K=>?_) (fun hC=>?_) (fun hC=>?_)
 ·repeat' (first|refine aa ?_|refine LR a7 LL ?_|refine MB LL ?_|refine MC LN ?_|(apply bL;first|refine LV a7 0 LO ?_|refine LV a7 1 LO ?_|refine LV a7 2 LO ?_|refine LV a7 3 LO ?_|refine LW a7 0 LO ?_|refine LW a7 1 LO ?_|refine LW a7 2 LO ?_|refine LZ a7 1 LM (by assumption) rfl ?_|refine LZ a7 0 LM (by assumption) rfl ?_|fail)|refine MD LM (fun _=>?_) (fun _=>?_))
  all_goals exact K _ _ rfl rfl (by simp_all <;> omega)
 ·have hv:lS E.ms E.ls (iA E.ms E.ls k) n i run=run:=by
   unfold lS
   by_cases h0:n < 0
   ·rw [if_pos h0]
   ·rw [if_neg h0,List.getElem?_eq_none (by rw [Mv];omega)]
  rw [hv]
  repeat' (first|refine am ?_|refine az ?_)
  exact kr rfl ⟨q,hq,rfl⟩
 obtain ⟨e,he⟩:∃e,E.lks[n.toNat]?=some e:=⟨_,Ia (by omega)⟩
 have heg:(E.lks.map f4)[n.toNat]?=some (f4 e):=by simp [he]
 have hem:=Mx he
 have hcv:lS E.ms E.ls (iA E.ms E.ls k) n i run=if e.l.Kind < 1∨4 < e.l.Kind then run else match ej E.ms e.l run i [] with
   | none=>run
   | some r=>iA E.ms E.ls k e.l r (dm E.ms e.l run i r) run:=by
  unfold lS
  rw [if_neg (by omega),List.getElem?_map,he]
  rfl
 repeat' (first|refine ae ?_|refine a6 ?_|refine aq ?_|refine a8 ?_|refine aa ?_|refine LR a7 LL ?_|(apply bL;first|refine LV a7 0 LO ?_|refine LV a7 1 LO ?_|refine LV a7 2 LO ?_|refine LV a7 3 LO ?_|refine LW a7 0 LO ?_|refine LW a7 1 LO ?_|refine LW a7 2 LO ?_|refine LZ a7 1 LM (by assumption) rfl ?_|refine LZ a7 0 LM (by assumption) rfl ?_|fail)|(apply aL;first|refine aK a7 ?_|refine aH a7 ?_)|fail)
 refine bN [0,2,3,8] (e.l.Kind < 1∨4 < e.l.Kind) rfl (fun Q' K=>?_) (fun hC2=>?_) (fun hC2=>?_)
 ·repeat' (first|refine aa ?_|refine LR a7 LL ?_|refine MB LL ?_|refine MC LN ?_|refine MD LM (fun _=>?_) (fun _=>?_))
  all_goals exact K _ _ rfl rfl (by simp_all <;> omega)
 ·rw [if_pos hC2] at hcv
  rw [hcv]
  repeat' (first|refine am ?_|refine az ?_)
  exact kr rfl ⟨q,hq,rfl⟩
 rw [if_neg hC2] at hcv
 rw [hcv]
 have hau:=hE.auto e hem (by omega) (by omega)
 have hma:=AC.args (a:=[eZ wb,.iptr (f4 e),aF i,.sc (.slice none 0 0)]) (pP E e hau wb q run hq hr i (by omega) []) ⟨d4.refl _,d4.refl _,d4.refl _,d4.nil 1,trivial⟩
 repeat' (first|refine ae ?_|refine a6 ?_|refine aq ?_|refine a8 ?_|refine LR a7 LL ?_)
 refine aW (iv wb E q run) [] hma rfl rfl (by rw [List.append_nil]) rfl fun c L1 ⟨hc,hL⟩=>?_
 subst hc;subst hL
 unfold jZ
 cases hmv:ej E.ms e.l run i [] with
 | none=>
  dsimp only
  repeat' (first|refine ae ?_|refine a6 ?_|refine a8 ?_|refine aa ?_|refine LR a7 LL ?_)
  refine sH Tryz.underlying389 rfl rfl rfl rfl ?_
  repeat' (first|refine aq ?_|refine a8 ?_|refine aa ?_|refine bo rfl ?_)
  exact bT rfl ⟨q,hq,by rw [List.append_nil]⟩
 | some r=>
  dsimp only
  obtain ⟨hps,hrm,hin,_,_⟩:=HN hmv
  have hdc:=hdo e r (dm E.ms e.l run i r) q run hem (by omega) (by omega) (hE.rule e hem r hrm hin) hps hq hr
  repeat' (first|refine ae ?_|refine a6 ?_|refine a8 ?_|refine aa ?_|refine LR a7 LL ?_)
  refine sH Tryz.underlying389 rfl rfl rfl rfl ?_
  repeat' (first|refine a6 ?_|refine a8 ?_|refine aa ?_|refine LR a7 LL ?_|refine bI rfl ?_)
  refine aW (iv wb E q run) [] hdc rfl rfl (by rw [List.append_nil]) rfl fun c L1 ⟨q',h1,h2⟩=>?_
  subst h2
  repeat' (first|refine aa ?_)
  exact bT rfl ⟨q',h1,by rw [List.append_nil]⟩
set_option maxHeartbeats 4000000 in
theorem B0 {deep k:Nat} (hd:deep < 4) (hca:v8 E wb (deep+1) k) (e:oB) (cs:List jr) (hcs:cs.length≤1000000) (hca0:∀c∈cs,0≤c.At∧c.At≤1000000) (p:Nat) (hp:p≤1000000) (q:Option f0) (run:List aM) (hq:cS q run) (hr:run.length≤1000000):
  AC Tryz.prog 328 [eZ wb,.iptr (f4 e),.imm 2 (cs.map gu),aF p,aF deep] (iv wb E q run) (fZ wb E (cs.foldl (fm E.ms E.ls (iA E.ms E.ls k) e.l.Ignore p) run)):=by
 refine aI Tryz.func328 rfl Tryz.ntmps328 rfl fun B=>?_
 have hcl:(cs.map gu).length=cs.length:=by simp
 repeat' (first|fail)
 refine Ay ?_
 repeat' (first|refine ae ?_|refine a6 ?_|refine ar ?_|refine Aw ?_|refine a8 ?_|refine aa ?_|refine LR a7 LL ?_)
 refine aN [0,1,3,4,14,15] (α:=Nat×Option f0×List aM) (fun s=>[(16,aF s.1)]) (fun s=>s.1≤cs.length∧cS s.2.1 s.2.2∧s.2.2.length≤1000000∧(cs.drop s.1).foldl (fm E.ms E.ls (iA E.ms E.ls k) e.l.Ignore p) s.2.2=cs.foldl (fm E.ms E.ls (iA E.ms E.ls k) e.l.Ignore p) run) (fun s=>iv wb E s.2.1 s.2.2) (fun s=>cs.length - s.1) (0,q,run) rfl ⟨rfl,trivial⟩ ⟨Nat.zero_le _,hq,hr,rfl⟩ (fun _ _ h=>h) ?_
 rintro ⟨n,q1,run1⟩ ⟨hn,hq1,hr1,hf⟩
 dsimp only at hn hq1 hr1 hf ⊢
 try dsimp only [Mt,Ms,Mr,Mn]
 repeat' (first|refine ae ?_|refine a6 ?_|refine a8 ?_|refine aa ?_|refine LR a7 LL ?_)
 refine aB rfl (fun h=>?_) (fun h=>?_)
 ·have hn2:n < cs.length:=by have:=Mz h;omega
  obtain ⟨c,hc⟩:∃c,cs[n]?=some c:=⟨_,Ia hn2⟩
  have hcg:(cs.map gu)[n]?=some (gu c):=by simp [hc]
  obtain ⟨ha0,ha1⟩:=hca0 c (Mx hc)
  have hfd:(cs.drop (n+1)).foldl (fm E.ms E.ls (iA E.ms E.ls k) e.l.Ignore p) (fm E.ms E.ls (iA E.ms E.ls k) e.l.Ignore p run1 c)=cs.foldl (fm E.ms E.ls (iA E.ms E.ls k) e.l.Ignore p) run:=by
   rw [←hf,List.drop_eq_getElem_cons hn2,List.foldl_cons,(Mq hc).2]
  clear h
  repeat' (first|refine ae ?_|refine a6 ?_|refine ar ?_|refine aq ?_|refine a8 ?_|refine aa ?_|refine LR a7 LL ?_|(apply aL;first|refine aK a7 ?_|refine aH a7 ?_)|(apply aU;first|refine LT 11 a7 0 LQ ?_|refine LT 11 a7 1 LQ ?_|refine LT 11 a7 2 LQ ?_|refine LU a7 0 LP ?_|refine LU a7 1 LP ?_|refine LU a7 2 LP ?_|refine LU a7 3 LP ?_|fail)|refine bf a7 fun _=>?_|fail)
  refine aN [0,1,3,4,11,14,15,16] (α:=Nat×Int) (fun s=>[(13,aF s.1),(12,aF s.2)]) (fun s=>0≤s.2∧s.2≤1000000∧s.1≤1000000∧sL E.ms e.l.Ignore run1 p c.At=sL E.ms e.l.Ignore run1 s.1 s.2) (fun s=>iv wb E q1 run1) (fun s=>run1.length - s.1) (p,c.At) rfl ⟨rfl,rfl,trivial⟩ ⟨ha0,ha1,hp,rfl⟩ (fun _ _ h=>h) ?_
  rintro ⟨i,left⟩ ⟨hl0,hl1,hi1,hnth⟩
  dsimp only at hl0 hl1 hi1 hnth ⊢
  try dsimp only [Mt,Ms,Mr,Mn]
  repeat' (first|refine ae ?_|refine a6 ?_|refine LR a7 LL ?_|(apply bL;first|refine LV a7 0 LO ?_|refine LV a7 1 LO ?_|refine LV a7 2 LO ?_|refine LV a7 3 LO ?_|refine LW a7 0 LO ?_|refine LW a7 1 LO ?_|refine LW a7 2 LO ?_|refine LZ a7 1 LM (by assumption) rfl ?_|refine LZ a7 0 LM (by assumption) rfl ?_|fail)|fail)
  refine lr a7 rfl hq1 rfl rfl ?_
  repeat' (first|refine a8 ?_|refine aa ?_|refine LR a7 LL ?_)
  refine aB rfl (fun h=>?_) (fun h=>?_)
  ·have hi2:i < run1.length:=by have:=Mz h;omega
   obtain ⟨m,rfl⟩:=hq1.lt hi2
   obtain ⟨x,hx⟩:∃x,run1[i]?=some x:=⟨_,Ia hi2⟩
   have hse:=sY E e wb m run1 i x hx
   have hst:=zf (ms:=E.ms) (ig:=e.l.Ignore) hi2 hl0
   rw [kL hx] at hst
   clear h
   repeat' (first|refine ae ?_|refine a6 ?_|refine ar ?_|refine aq ?_|refine a8 ?_|refine LR a7 LL ?_)
   refine aW (uY wb (.iptr (dZ E)) (some m) run1) [cX] hse rfl rfl (Mp _) rfl fun c1 L1 ⟨hc1,hL⟩=>?_
   subst hc1;subst hL
   repeat' (first|refine a8 ?_|refine aa ?_|refine LR a7 LL ?_)
   refine aB rfl (fun hb=>?_) (fun hb=>?_)
   ·rw [if_neg (by simpa using hb)] at hst
    repeat' (first|refine a6 ?_|refine aO ?_|refine a8 ?_|refine av ?_|refine aC ?_|refine aa ?_|refine LR a7 LL ?_|(apply aY;refine aX ?_)|fail)
    exact aE (i+1,left) rfl ⟨by rw [Mw];rfl,rfl,trivial⟩ ⟨hl0,hl1,by dsimp only;omega,by rw [hnth,hst]⟩ (by dsimp only;omega) (fun _ _ h=>h)
   ·rw [if_pos (by simpa using hb)] at hst
    repeat' (first|refine ae ?_|refine a6 ?_|refine aq ?_|refine a8 ?_|refine aa ?_|refine LR a7 LL ?_)
    refine aB rfl (fun h0=>?_) (fun h0=>?_)
    ·have hz:=Mz h0
     subst hz
     rw [if_pos rfl] at hst
     have hcc:=hca c.Lookup i (some m) run1 hi2 hq1 hr1
     have hch:fm E.ms E.ls (iA E.ms E.ls k) e.l.Ignore p run1 c=lS E.ms E.ls (iA E.ms E.ls k) c.Lookup i run1:=by
      unfold fm
      rw [hnth,hst]
     rw [hch] at hfd
     clear h0
     repeat' (first|refine ae ?_|refine a6 ?_|refine LR a7 LL ?_|(apply aY;refine aX ?_)|fail)
     refine aW (iv wb E (some m) run1) [] hcc rfl (by rw [Mw];rfl) (by rw [List.append_nil]) rfl fun c2 L2 ⟨q',h1,h2⟩=>?_
     subst h2
     repeat' (first|refine a6 ?_|refine aO ?_|refine a8 ?_|refine av ?_|refine aC ?_|refine dN rfl ?_|refine aA ?_|refine aa ?_|refine LR a7 LL ?_|(apply aY;refine aX ?_)|fail)
     exact aE (n+1,q',_) rfl ⟨by rw [Mw];rfl,trivial⟩ ⟨hn2,h1,(qX (kv k)).big hr1,hfd⟩ (by dsimp only;omega) (fun _ _ h=>by rw [List.append_nil] at h;exact h)
    ·have hz:=My h0
     rw [if_neg hz] at hst
     repeat' (first|refine a6 ?_|refine aq ?_|refine a8 ?_|refine aP ?_|refine aa ?_|refine LR a7 LL ?_|(apply aY;refine aX ?_)|fail)
     exact aE (i+1,left - 1) rfl ⟨by rw [Mw];rfl,rfl,trivial⟩ ⟨by dsimp only;omega,by dsimp only;omega,by dsimp only;omega,by rw [hnth,hst]⟩ (by dsimp only;omega) (fun _ _ h=>h)
  ·have hi2:run1.length≤i:=by have:=My h;omega
   have hch:fm E.ms E.ls (iA E.ms E.ls k) e.l.Ignore p run1 c=run1:=by
    unfold fm
    rw [hnth,Ck hi2]
   rw [hch] at hfd
   clear h
   repeat' (first|refine a6 ?_|refine aO ?_|refine a8 ?_|refine av ?_|refine aP ?_|refine aC ?_|refine aA ?_|refine aa ?_|refine LR a7 LL ?_|(apply aY;refine aX ?_)|fail)
   exact aE (n+1,q1,run1) rfl ⟨by rw [Mw];rfl,trivial⟩ ⟨hn2,hq1,hr1,hfd⟩ (by dsimp only;omega) (fun _ _ h=>h)
 ·have hn2:n=cs.length:=by have:=My h;omega
  subst hn2
  rw [List.drop_length] at hf
  have hf2:run1=cs.foldl (fm E.ms E.ls (iA E.ms E.ls k) e.l.Ignore p) run:=hf
  repeat' (first|refine aO ?_|refine av ?_|refine aC ?_|refine aA ?_)
  refine GO ?_
  exact bT rfl ⟨q1,by rw [←hf2];exact hq1,by rw [←hf2];rfl⟩
set_option maxHeartbeats 4000000 in
theorem GY {deep k:Nat} (hd:deep < 4) (hca:v8 E wb (deep+1) k) (e:oB) (hk:e.l.Kind=4) (r:bh) (hro:oS r) (ps:List Nat) (q:Option f0) (run:List aM) (hps:rX run ps) (hq:cS q run) (hr:run.length≤1000000):
  AC Tryz.prog 285 (j4 wb e r ps deep) (iv wb E q run) (fZ wb E (iA E.ms E.ls (k+1) e.l r ps run)):=by
 obtain ⟨p,ps',rfl⟩:=List.exists_cons_of_ne_nil hps.some_
 have hpl:=hps.lt p (by simp)
 have hch:=B0 wb hd hca e r.Calls hro.calls hro.at_ p (by omega) q run hq hr
 have hdv:iA E.ms E.ls (k+1) e.l r (p::ps') run=r.Calls.foldl (fm E.ms E.ls (iA E.ms E.ls k) e.l.Ignore p) run:=by
  rw [iA]
  exact if_pos hk
 rw [hdv]
 obtain ⟨⟨kd,ig,rs⟩,cls,fo,ba,fe,be⟩:=e
 dsimp only at hk
 subst hk
 have hp0:(df (p::ps'))[(0:Int).toNat]?=some [aF p]:=rfl
 refine aI Tryz.func285 rfl Tryz.ntmps285 rfl fun B=>?_
 repeat' (first|refine ae ?_|refine a6 ?_|refine ar ?_|refine a8 ?_|refine aa ?_|refine LR a7 LL ?_|(apply aL;first|refine aK a7 ?_|refine aH a7 ?_)|refine bI rfl ?_|refine bo rfl ?_)
 refine aB rfl (fun h=>?_) (fun h=>?_)
 ·clear h
  repeat' (first|refine a6 ?_|refine LR a7 LL ?_)
  refine aW (iv wb E q run) [] hch rfl rfl (by rw [List.append_nil]) rfl fun c L1 ⟨q',h1,h2⟩=>?_
  subst h2
  repeat' (first|refine aP ?_|refine aa ?_)
  exact bT rfl ⟨q',h1,by rw [List.append_nil]⟩
 ·have:=My h
  omega
set_option maxHeartbeats 4000000 in
theorem Eb (e:oB) (hk:e.l.Kind=4) (r:bh) (ps:List Nat) (q:Option f0) (run:List aM) (hps:rX run ps) (hq:cS q run):
  AC Tryz.prog 285 (j4 wb e r ps 4) (iv wb E q run) (fZ wb E (iA E.ms E.ls 0 e.l r ps run)):=by
 obtain ⟨p,ps',rfl⟩:=List.exists_cons_of_ne_nil hps.some_
 have hdv:iA E.ms E.ls 0 e.l r (p::ps') run=run:=by
  rw [iA]
  dsimp only
  unfold fW
  rw [hk]
  rfl
 rw [hdv]
 obtain ⟨⟨kd,ig,rs⟩,cls,fo,ba,fe,be⟩:=e
 dsimp only at hk
 subst hk
 have hp0:(df (p::ps'))[(0:Int).toNat]?=some [aF p]:=rfl
 refine aI Tryz.func285 rfl Tryz.ntmps285 rfl fun B=>?_
 repeat' (first|refine ae ?_|refine a6 ?_|refine ar ?_|refine aq ?_|refine a8 ?_|refine aP ?_|refine aa ?_|refine LR a7 LL ?_|(apply aL;first|refine aK a7 ?_|refine aH a7 ?_)|refine bI rfl ?_|refine bo rfl ?_)
 exact bT rfl ⟨q,hq,rfl⟩
theorem tW (deep k:Nat) (e:oB) (h1:1≤e.l.Kind) (h6:e.l.Kind≤6) (h4:e.l.Kind≠4) (r:bh) (hro:oS r) (ps:List Nat) (q:Option f0) (run:List aM) (hps:rX run ps) (hq:cS q run) (hr:run.length≤1000000):
  AC Tryz.prog 285 (j4 wb e r ps deep) (iv wb E q run) (fZ wb E (iA E.ms E.ls k e.l r ps run)):=by
 obtain ⟨p,ps',rfl⟩:=List.exists_cons_of_ne_nil hps.some_
 obtain ⟨m,rfl⟩:=hq.lt (hps.lt p (by simp))
 have hdv:iA E.ms E.ls k e.l r (p::ps') run=fW e.l r (p::ps') run:=by
  cases k with
  | zero=>rw [iA]
  | succ k=>rw [iA];exact if_neg h4
 rw [hdv]
 have hc:e.l.Kind=1∨e.l.Kind=2∨e.l.Kind=3∨e.l.Kind=5∨e.l.Kind=6:=by omega
 rcases hc with hk | hk | hk | hk | hk
 ·exact Ll hq hr hro hps deep hk
 ·exact Lm hq hr hro hps deep hk
 ·exact Ln hq hr hro hps deep hk
 ·exact Lo hq hr hro hps deep hk
 ·exact Lp hq hr hro hps deep hk
include hE in
theorem Bd:∀(k deep:Nat),deep+k=4→Ie E wb deep k
 | 0,deep,hd=>by
  intro e r ps q run _ h1 h6 hro hps hq hr
  have hd4:deep=4:=by omega
  subst hd4
  by_cases h4:e.l.Kind=4
  ·exact Eb wb e h4 r ps q run hps hq
  ·exact tW wb 4 0 e h1 h6 h4 r hro ps q run hps hq hr
 | k+1,deep,hd=>by
  intro e r ps q run _ h1 h6 hro hps hq hr
  by_cases h4:e.l.Kind=4
  ·exact GY wb (by omega) (E0 hE wb (by omega) (Bd k (deep+1) (by omega))) e h4 r hro ps q run hps hq hr
  ·exact tW wb deep (k+1) e h1 h6 h4 r hro ps q run hps hq hr
end
end Go.Proofs.YtamjlkdanllgjaaGreatDoor
