/-
  What an engine's rules do with a run: many become one.
-/
import Derived.Test.YtpmdfoaadejmkaaGreatDoorM17
import Derived.Test.YtpmdfoaadejmkaaGreatDoorM05
namespace Go.Proofs.YtpmdfoaadejmkaaGreatDoor
open Go.RowKit
attribute [local irreducible] AT br AX AO Av Kt bb df DA cC
theorem vm {run:List aK} {i:Nat} (hi:i < run.length):bY (run.eraseIdx i)=bY (run.take i)++bY (run.drop (i+1)):=by
 rw [List.eraseIdx_eq_take_drop_succ,hY]
set_option maxHeartbeats 2000000 in
theorem xV (b cap:Nat) (run:List aK) (junk:List AV) (i:Nat) (hi:i < run.length) (hc:run.length≤cap) (hm:cap≤maxLen) (hf:cap * 6≤(bY run++junk).length) (hr:run.length≤1000000):AC Tryz.prog 260 [.sc (.slice (some ⟨b,0,none⟩) run.length cap),aF i,aF ((i:Int)+1)] [(b,.box (bY run++junk) 67)] fun c L=>
  c= .sc (.slice (some ⟨b,0,none⟩) (run.eraseIdx i).length cap)∧∃junk',cap * 6≤(bY (run.eraseIdx i)++junk').length∧L=[(b,.box (bY (run.eraseIdx i)++junk') 67)]:=by
 refine aN Tryz.func260 rfl Tryz.ntmps260 rfl fun B=>?_
 have hfl:=d9 run
 have hel:=List.length_eraseIdx_of_lt hi
 unfold maxLen at hm
 have hsrc:∀fr y B,bc fr y=some (.sc (.slice (some ⟨b,if cap=i+1 then 0 else (i+1) * 6,none⟩) (run.length - (i+1)) (cap - (i+1))))→uK fr B [(b,.box (bY run++junk) 67)] y 6 (run.length - (i+1)) (bY (run.drop (i+1))):=by
  intro fr y B hy
  by_cases hz:run.length - (i+1)=0
  ·rw [hz] at hy ⊢
   rw [List.drop_eq_nil_of_le (by omega)]
   exact rH hy
  ·have hs:=uu (B:=B) (sz:=6) (L:=[(b,.box (bY run++junk) 67)]) 0 hy rfl (by split <;> omega)
   rw [if_neg (by omega),rc run junk hi] at hs
   exact hs
 repeat' (first|refine If ?_|refine IF a5 FN ?_)
 refine Fo a5 i (i+1) run.length rfl rfl rfl rfl rfl (by omega) rfl rfl (by omega) hi hc rfl ?_
 repeat' (first|refine If ?_|refine IF a5 FN ?_)
 refine aq rfl (fun h=>?_) (fun _=>?_)
 ·have:=Iy h
  omega
 repeat' (first|refine If ?_|refine IF a5 FN ?_)
 refine bz 6 [(0,.v),(1,.v),(2,.v),(3,.v),(4,.v),(5,.v)] none ?_ trivial rfl (by kernel_rfl) (by kernel_rfl) (by kernel_rfl) bT (by kernel_rfl) rfl
 repeat' (first|refine aC ?_|refine b6 a5 ?_|fail)
 refine CN a5 i rfl rfl rfl rfl (by omega) trivial ?_
 repeat' (first|refine aC ?_|refine b6 a5 ?_|fail)
 refine wE a5 (i+1) rfl rfl rfl (by omega) hi hc trivial ?_
 repeat' (first|fail)
 refine IQ [7,22,25] FN ?_
 repeat' (first|fail)
 refine la a5 0 rfl rfl rfl rfl (hsrc _ _ _ rfl) rfl hf (by omega) (by unfold maxLen;omega) (by unfold maxLen;omega) (by omega) rfl fun b' cs' cap' e1 e2 e3 e4 e5=>?_
 obtain ⟨e6,e7,e8⟩:=e5 (by omega)
 subst e6;subst e7
 repeat' (first|refine If ?_|refine IF a5 FN ?_)
 have hn1:i+(run.length - (i+1))=(run.eraseIdx i).length:=by omega
 rw [hn1] at e2 ⊢
 refine Fn a5 (run.eraseIdx i).length run.length rfl rfl rfl rfl rfl rfl (by omega) hc rfl ?_
 repeat' (first|fail)
 have hcl:cap' * 6≤cs'.length:=e1
 have hce:cs'.take ((run.eraseIdx i).length * 6)=bY (run.eraseIdx i):=by
  rw [e2,nl run junk (by omega),vm hi]
 refine Bm a5 0 (m:=(run.eraseIdx i).length) rfl rfl rfl rfl (.inl rfl) rfl ?_ fun cs2 g1 g2=>?_
 ·have h1:(run.eraseIdx i).length * 6+(run.length - (run.eraseIdx i).length) * 6=run.length * 6:=by omega
  rw [h1]
  omega
 repeat' (first|refine If ?_|refine IF a5 FN ?_)
 refine IL FN ⟨rfl,cs2.drop ((run.eraseIdx i).length * 6),?_⟩
 have hj:bY (run.eraseIdx i)++cs2.drop ((run.eraseIdx i).length * 6)=cs2:=by
  rw [←hce,←g2,List.take_append_drop]
 rw [hj]
 exact ⟨by omega,rfl⟩
structure dt (run:List aK):Prop where
 len:run.length≤500
 mono:run.Pairwise fun a b=>a.Cluster≤b.Cluster
theorem vZ {run:List aK} {i:Nat} {x y:aK} (h:run.Pairwise fun a b=>a.Cluster≤b.Cluster) (hi:run[i]?=some x) (hc:y.Cluster=x.Cluster):(run.set i y).Pairwise fun a b=>a.Cluster≤b.Cluster:=by
 rw [←List.pairwise_map (f:=aK.Cluster) (R:=fun a b=>a≤b)] at h ⊢
 rw [List.map_set,hc]
 have:(run.map aK.Cluster).set i x.Cluster=run.map aK.Cluster:=by
  refine List.ext_getElem? fun j=>?_
  rw [List.getElem?_set]
  split
  ·rename_i e
   subst e
   split
   ·rw [List.getElem?_map,hi];rfl
   ·rename_i hn
    rw [List.getElem?_eq_none (by omega)]
  ·rfl
 rwa [this]
theorem dt.single {run:List aK} (h:dt run) (r:b8) (i:Nat):dt (fm r i run):=by
 unfold fm
 split
 ·exact h
 ·rename_i x hx
  split
  ·exact h
  ·split
   ·exact ⟨by rw [List.length_set];exact h.len,vZ h.mono hx rfl⟩
   ·exact h
theorem dt.pair {run:List aK} (h:dt run) (r:b8) (i:Nat):dt (oe r i run):=by
 unfold oe
 split
 ·rename_i x hx
  exact ⟨by rw [List.length_set];exact h.len,vZ h.mono hx rfl⟩
 ·exact h
theorem dt.multi {run:List aK} (h:dt run) (r:b8) (i:Nat):dt (gw r i run):=by
 unfold gw
 split
 ·exact h
 ·rename_i x hx
  have hil:=(Ip hx).1
  split
  ·exact h
  ·rename_i hn
   constructor
   ·have:=h.len
    simp only [List.length_append,List.length_take,Iu,List.length_drop]
    omega
   ·have hm:=h.mono
    have e:run=run.take i++x::run.drop (i+1):=by
     have:=List.getElem_cons_drop hil
     rw [(Ip hx).2] at this
     rw [this,List.take_append_drop]
    rw [e] at hm
    rw [List.pairwise_append] at hm
    obtain ⟨h1,h2,h3⟩:=hm
    obtain ⟨h4,h5⟩:=List.pairwise_cons.1 h2
    rw [List.append_assoc,List.pairwise_append]
    refine ⟨h1,?_,fun a ha b hb=>?_⟩
    ·rw [List.pairwise_append]
     refine ⟨?_,h5,fun a ha b hb=>?_⟩
     ·rw [List.pairwise_map]
      exact List.pairwise_of_forall fun _ _=>Int.le_refl _
     ·obtain ⟨g,_,rfl⟩:=List.mem_map.1 ha
      exact h4 b hb
    ·rcases Im hb with hb | hb
     ·obtain ⟨g,_,rfl⟩:=List.mem_map.1 hb
      exact h3 a ha x (List.mem_cons_self ..)
     ·exact h3 a ha b (It _ hb)
theorem iX:∀{q:List Nat} {run:List aK},(fp q run).Sublist run
 | [],_=>List.Sublist.refl _
 | p::q,run=>by rw [fp];exact (List.eraseIdx_sublist ..).trans iX
theorem rm {run:List aK} (h:run.Pairwise fun a b=>a.Cluster≤b.Cluster) {p:Nat} {x:aK} (hx:run[p]?=some x):∀{q:List Nat},(∀j∈q,p≤j)→fx run q x.Cluster=x.Cluster
 | [],_=>rfl
 | j::q,hq=>by
  unfold fx
  rw [List.foldl_cons]
  have hj:=hq j (List.mem_cons_self ..)
  have e:kH run x.Cluster j=x.Cluster:=by
   unfold kH
   cases hy:run[j]? with
   | none=>rfl
   | some y=>
    dsimp only
    by_cases hpj:p=j
    ·subst hpj
     rw [hx] at hy
     cases hy
     exact Int.min_self _
    ·have:=List.pairwise_iff_getElem.1 h p j (Ip hx).1 (Ip hy).1 (by omega)
     rw [(Ip hx).2,(Ip hy).2] at this
     exact Int.min_eq_left this
  rw [e]
  exact rm h hx fun j hj=>hq j (It _ hj)
theorem dt.liga {run:List aK} (h:dt run) (r:b8) {ps:List Nat} (hp:ps.Pairwise (·≤ ·)):dt (kI r ps run):=by
  unfold kI
  split
  · rename_i p q g o _
    split
    · rename_i x hx
      have h1:fx run (p::q) x.Cluster=x.Cluster:=rm h.mono hx fun j hj=>by
        rcases List.mem_cons.1 hj with rfl | hj
        · exact Nat.le_refl _
        · exact (List.pairwise_cons.1 hp).1 j hj
      have hs:=iX (q:=q) (run:=run.set p { x with Glyph:=g,Cluster:=fx run (p::q) x.Cluster })
      refine ⟨?_,?_⟩
      · have:=hs.length_le
        rw [List.length_set] at this
        have:=h.len
        omega
      · exact (vZ h.mono hx (by rw [h1])).sublist hs
    · exact h
  · exact h
theorem s8 (ms:List Bool) (ig:Bool) (run:List aK) (i:Nat):(dJ ms ig run i).Pairwise (·≤ ·):=by
  unfold dJ
  refine List.Pairwise.sublist List.filter_sublist ?_
  exact List.pairwise_le_range'
theorem iu (ms:List Bool) (l:aL) (run:List aK) (i:Nat) (r:b8):(di ms l run i r).Pairwise (·≤ ·):=(s8 ms l.Ignore run i).sublist (List.take_sublist ..)
theorem dt.step {run:List aK} (h:dt run) (l:aL) (r:b8) {ps:List Nat} (hp:ps.Pairwise (·≤ ·)):dt (fq l r ps run):=by
  unfold fq
  split
  · exact h.single r _
  · split
    · exact h.multi r _
    · split
      · exact h.liga r hp
      · split
        · exact h.pair r _
        · exact h
theorem dt.call {ms:List Bool} {ls:List aL} {d:FM} (hd:∀l r ps run,dt run→ps.Pairwise (·≤ ·)→dt (d l r ps run)) {run:List aK} (h:dt run) (n:Int) (i:Nat):dt (kq ms ls d n i run):=by
  unfold kq
  split
  · exact h
  · split
    · exact h
    · split
      · exact h
      · split
        · exact h
        · exact hd _ _ _ _ h (iu ..)
theorem dt.chain {ms:List Bool} {ls:List aL} {d:FM} (hd:∀l r ps run,dt run→ps.Pairwise (·≤ ·)→dt (d l r ps run)) {ig:Bool} {i:Nat}:∀{cs:List gD} {run:List aK},dt run→dt (cs.foldl (eU ms ls d ig i) run)
  | [],_,h=>h
  | c::cs,run,h=>by
    rw [List.foldl_cons]
    refine dt.chain hd ?_
    unfold eU
    split
    · exact h
    · exact dt.call hd h _ _
theorem dt.does {ms:List Bool} {ls:List aL}:∀(k:Nat) (l:aL) (r:b8) (ps:List Nat) (run:List aK),dt run→ps.Pairwise (·≤ ·)→dt (iG ms ls k l r ps run)
  | 0,l,r,ps,run,h,hp=>h.step l r hp
  | k+1,l,r,ps,run,h,hp=>by
    rw [iG]
    dsimp only
    split
    · exact dt.chain (dt.does k) h
    · exact h.step l r hp
theorem dt.on {ms:List Bool} {ls:List aL} {l:aL} {forms:List Int}:∀(k i:Nat) {run:List aK},dt run→dt (uE ms ls l forms k i run)
 | 0,_,_,h=>h
 | k+1,i,run,h=>by
  rw [uE]
  split
  ·split
   ·exact dt.on k _ h
   ·exact dt.on k _ (dt.does 4 _ _ _ _ h (iu ..))
  ·exact h
theorem dt.down {ms:List Bool} {ls:List aL} {l:aL} {forms:List Int}:∀(k:Nat) {run:List aK},dt run→dt (iH ms ls l forms k run)
 | 0,_,h=>h
 | k+1,run,h=>by
  rw [iH]
  refine dt.down k ?_
  split
  ·exact h
  ·exact dt.does 4 _ _ _ _ h (iu ..)
theorem dt.apply {ms:List Bool} {ls:List aL} {n:Int} {forms:List Int} {run:List aK} (h:dt run):dt (dL ms ls n run forms):=by
 unfold dL
 split
 ·exact h
 ·split
  ·exact h
  ·split
   ·exact h
   ·split
    ·exact dt.down _ h
    ·exact dt.on _ _ h
theorem tF {R:List aK}:∀{l:List Nat} {j:Nat},l.Pairwise (· < ·)→(∀z∈l,j < z∧z < R.length)→j < R.length→j < (fp l R).length
  | [],_,_,_,hj=>hj
  | z::l,j,hs,hl,hj=>by
    obtain ⟨h1,h2⟩:=List.pairwise_cons.1 hs
    have hz:=hl z (by simp)
    have:=tF (j:=z) h2 (fun y hy=>⟨h1 y hy,(hl y (by simp [hy])).2⟩) hz.2
    rw [fp,List.length_eraseIdx_of_lt this]
    omega
theorem ro:∀{l:List Nat} {run:List aK} {c:Int},fx run l c≤c
 | [],_,_=>Int.le_refl _
 | p::l,run,c=>by
  have:=ro (l:=l) (run:=run) (c:=kH run c p)
  have h2:kH run c p≤c:=by unfold kH;split <;> omega
  unfold fx at this ⊢
  rw [List.foldl_cons]
  omega
theorem oT {wb:Nat} {E:ow} {m:fW} {run:List aK} {p:Nat} {y:aK}:fa (iT wb E (some m) run) 1 (.box (bY (run.set p y)++m.junk) 67)=iT wb E (some m) (run.set p y):=by
 show [(wb,AB.box [.iptr (dR E),.sc (.slice (some ⟨m.rb,0,none⟩) run.length m.cap)] 102),(m.rb,.box (bY (run.set p y)++m.junk) 67),dv]=[(wb,AB.box [.iptr (dR E),.sc (.slice (some ⟨m.rb,0,none⟩) (run.set p y).length m.cap)] 102),(m.rb,.box (bY (run.set p y)++m.junk) 67),dv]
 rw [List.length_set]
theorem wy {B:Bs} {σ:cj} {w:World} {wb:Nat} {E:ow} {m:fW} {run:List aK} {p:Nat} {y:aK} (h:cW B σ (fa (iT wb E (some m) run) 1 (.box (bY (run.set p y)++m.junk) 67)) w):cW B σ (iT wb E (some m) (run.set p y)) w:=oT▸h
theorem dI.set {m:fW} {run:List aK} (h:dI (some m) run) (p:Nat) (y:aK):dI (some m) (run.set p y):=⟨fun e=>(by cases e),fun m' e=>by
 cases e
 obtain ⟨h1,h2,h3⟩:=h.fit m rfl
 rw [List.length_append,d9] at h3 ⊢
 rw [List.length_set]
 exact ⟨h1,h2,h3⟩⟩
theorem Hn {a b c:Nat×AB}:[a,b,c].Perm ([b]++[a,c]):=List.Perm.swap ..
set_option maxHeartbeats 4000000 in
theorem Dj (E:ow) (wb:Nat) (m:fW) (run:List aK) (hq:dI (some m) run) (hr:run.length≤1000000) (p:Nat) (q:List Nat) (hp:∀j∈p::q,j < run.length) (hs:(p::q).Pairwise (· < ·)) (x:aK) (hx:run[p]?=some x) (r:b8) (g:Int) (gs:List Int) (hg:r.Out=g::gs):AC Tryz.prog 192 [fT wb,.imm 1 (cZ (p::q)),aF g] (iT wb E (some m) run) fun _ L=>∃q',dI q' (kI r (p::q) run)∧L=iT wb E q' (kI r (p::q) run):=by
  refine aN Tryz.func192 rfl Tryz.ntmps192 rfl fun B=>?_
  refine cK 1 rfl rfl fun hlen=>?_
  have hil:=(Ip hx).1
  have hnl:=lb (p::q)
  rw [hnl] at hlen
  have hql:q.length+1≤9223372036854775807:=hlen
  obtain ⟨h1,h2,h3⟩:=hq.fit m rfl
  have hfl:=d9 run
  have hlv:kI r (p::q) run=fp q (run.set p { x with Glyph:=g,Cluster:=fx run (p::q) x.Cluster }):=by
    unfold kI
    rw [hg]
    dsimp only
    rw [hx]
  rw [hlv]
  have hflj:∀y:aK,(bY (run.set p y)++m.junk).length=(bY run++m.junk).length:=fun y=>by rw [List.length_append,d9,List.length_set,List.length_append,hfl]
  have hp0:(cZ (p::q))[(0:Int).toNat]?=some [aF p]:=rfl
  have hst:=ky (j:=0) { x with Glyph:=g } (aF g) m.junk hx (by omega) rfl
  repeat' (first|refine If ?_|fail)
  refine bz 7 [(0,.v),(1,.v),(2,.v),(3,.l),(4,.v),(5,.v),(6,.v)] none ?_ trivial rfl (by kernel_rfl) (by kernel_rfl) (by kernel_rfl) bT (by kernel_rfl) rfl
  repeat' (first|refine aC ?_|refine b6 a5 ?_|(apply cB;refine cS a5 ?_)|refine bZ a5 0 rfl rfl rfl rfl (by first|trivial|rfl) ?_)
  refine IQ [0,1,2,13,16] FN ?_
  repeat' (first|refine If ?_|refine a7 ?_|refine IF a5 FN ?_|(apply aS;first|refine aR a5 ?_|refine aH a5 ?_)|fail)
  refine aa a5 1 rfl rfl rfl rfl rfl rfl (Nat.ble_eq_true_of_le (by rw [Int.toNat_natCast];simp;omega)) ?_
  rw [hst]
  repeat' (first|refine If ?_|refine ak ?_|refine IF a5 FN ?_)
  refine aO [0,1,6,22,23] (α:=Nat) (fun k=>[(24,aF k)]) (fun k=>k≤(p::q).length) (fun k=>iT wb E (some m) (run.set p { x with Glyph:=g,Cluster:=fx run ((p::q).take k) x.Cluster })) (fun k=>(p::q).length - k) 0 rfl ⟨rfl,trivial⟩ (Nat.zero_le _) (fun _ _ h=>wy h) fun k hk=>?_
  · try dsimp only [Is,Ir,Iq,Ik]
    repeat' (first|refine If ?_|refine IF a5 FN ?_)
    refine aq rfl (fun h=>?_) (fun h=>?_)
    · have hk2:k < (p::q).length:=by have:=Iy h;omega
      obtain ⟨j,hj⟩:∃z,(p::q)[k]?=some z:=⟨_,Iz hk2⟩
      have hjg:(cZ (p::q))[k]?=some [aF j]:=by unfold cZ;exact bR (by rw [List.getElem?_map,hj];rfl)
      have hjl:=hp j (Iw hj)
      obtain ⟨y,hy⟩:∃z,run[j]?=some z:=⟨_,Iz hjl⟩
      have htk:(p::q).take (k+1)=(p::q).take k++[j]:=by rw [List.take_add_one,hj];rfl
      have hle:=ro (l:=(p::q).take k) (run:=run) (c:=x.Cluster)
      have hnew:fx run ((p::q).take (k+1)) x.Cluster=min (fx run ((p::q).take k) x.Cluster) y.Cluster:=by
        unfold fx
        rw [htk,List.foldl_append]
        show kH run _ j=_
        unfold kH
        rw [hy]
      generalize fx run ((p::q).take k) x.Cluster=c at *
      have hxp:(run.set p { x with Glyph:=g,Cluster:=c })[p]?=some { x with Glyph:=g,Cluster:=c }:=List.getElem?_set_self hil
      obtain ⟨y2,hy2,hyc⟩:∃y2,(run.set p { x with Glyph:=g,Cluster:=c })[j]?=some y2∧min c y2.Cluster=min c y.Cluster:=by
        by_cases hjp:j=p
        · subst hjp
          rw [hx] at hy
          cases hy
          exact ⟨_,hxp,by dsimp only;omega⟩
        · exact ⟨y,by rw [List.getElem?_set_ne (fun e=>hjp e.symm)];exact hy,rfl⟩
      have hf1:=nX (j:=1) m.junk hxp rfl
      have hf2:=nX (j:=1) m.junk hy2 rfl
      have hst2:=ky (j:=1) { x with Glyph:=g,Cluster:=min c y2.Cluster } (aF (min c y2.Cluster)) m.junk hxp (by omega) rfl
      have hsl:(run.set p { x with Glyph:=g,Cluster:=c }).length=run.length:=List.length_set ..
      have hfl2:=hflj { x with Glyph:=g,Cluster:=c }
      clear h
      repeat' (first|refine If ?_|refine ak ?_|refine IF a5 FN ?_|(apply aS;first|refine aR a5 ?_|refine aH a5 ?_)|fail)
      refine bz 14 [(0,.v),(1,.v),(2,.v),(3,.v),(4,.l),(5,.v),(6,.v),(7,.v),(8,.l),(9,.v),(10,.v),(11,.v),(12,.l),(13,.v)] none ?_ trivial rfl (by kernel_rfl) (by kernel_rfl) (by kernel_rfl) bT (by kernel_rfl) rfl
      repeat' (first|refine aC ?_|refine b6 a5 ?_|fail)
      refine bZ a5 1 rfl rfl rfl hf1 trivial ?_
      repeat' (first|refine aC ?_|refine b6 a5 ?_|refine bZ a5 0 rfl rfl rfl rfl (by first|trivial|rfl) ?_)
      refine d8 a5 rfl rfl rfl ⟨by omega,by omega⟩ trivial ?_
      repeat' (first|refine aC ?_|refine b6 a5 ?_|fail)
      refine bZ a5 1 rfl rfl rfl hf2 trivial ?_
      repeat' (first|refine aC ?_|refine b6 a5 ?_|fail)
      refine IQ [0,1,6,22,23,24,28,41] FN ?_
      repeat' (first|refine IF a5 FN ?_)
      refine aa a5 1 rfl rfl rfl rfl rfl rfl (Nat.ble_eq_true_of_le (by rw [Int.toNat_natCast];simp only [hfl2];simp;omega)) ?_
      rw [hst2]
      repeat' (first|refine If ?_|refine IF a5 FN ?_|(apply aV;refine aU ?_)|fail)
      refine aD (k+1) rfl ⟨by rw [Iv];rfl,trivial⟩ (by omega) (by omega) (fun _ _ h=>?_)
      have h4:=wy h
      rw [List.set_set] at h4
      rw [hnew,←hyc]
      exact h4
    · have hke:k=(p::q).length:=by have:=Ix h;omega
      subst hke
      rw [List.take_length]
      clear h
      have hR:(run.set p { x with Glyph:=g,Cluster:=fx run (p::q) x.Cluster }).length=run.length:=List.length_set ..
      have hqR:=hq.set p { x with Glyph:=g,Cluster:=fx run (p::q) x.Cluster }
      generalize run.set p { x with Glyph:=g,Cluster:=fx run (p::q) x.Cluster }=R at *
      obtain ⟨g1,g2,g3⟩:=hqR.fit m rfl
      repeat' (first|refine If ?_|refine ak ?_|refine IF a5 FN ?_|(apply aV;refine aU ?_)|fail)
      refine aO [0,1] (α:=Nat×List AV) (fun s=>[(9,aF s.1)]) (fun s=>s.1≤q.length∧m.cap * 6≤(bY (fp (q.drop s.1) R)++s.2).length) (fun s=>iT wb E (some ⟨m.rb,m.cap,s.2⟩) (fp (q.drop s.1) R)) (fun s=>s.1) (q.length,m.junk) rfl ⟨by rw [hnl];simp;rfl,trivial⟩ ⟨Nat.le_refl _,by rw [List.drop_length];exact g3⟩ (fun _ _ h=>by rw [List.drop_length];exact h) ?_
      rintro ⟨n,junk⟩ ⟨hn,hj⟩
      dsimp only at hn hj ⊢
      try dsimp only [Is,Ir,Iq,Ik]
      repeat' (first|refine If ?_|refine IF a5 FN ?_)
      refine aq rfl (fun h=>?_) (fun h=>?_)
      · have hn0:0 < n:=by have:=Iy h;omega
        obtain ⟨k,rfl⟩:∃k,n=k+1:=⟨n - 1,by omega⟩
        obtain ⟨z,hz⟩:∃z,q[k]?=some z:=⟨_,Iz (by omega)⟩
        have hzg:(cZ (p::q))[((k+1:Nat):Int).toNat]?=some [aF z]:=by rw [Int.toNat_natCast];unfold cZ;exact bR (by rw [Iq,List.getElem?_cons_succ,List.getElem?_map,hz];rfl)
        have hqd:q.drop k=z::q.drop (k+1):=by rw [List.drop_eq_getElem_cons (by omega),(Ip hz).2]
        have hqp:=(List.pairwise_cons.1 hs).2
        have hdp:(z::q.drop (k+1)).Pairwise (· < ·):=by rw [←hqd];exact hqp.sublist (List.drop_sublist ..)
        obtain ⟨d1,d2⟩:=List.pairwise_cons.1 hdp
        have hqm:∀y∈q,y < R.length:=fun y hy=>by rw [hR];exact hp y (by simp [hy])
        have hzl:=tF (R:=R) d2 (fun y hy=>⟨d1 y hy,hqm y (List.mem_of_mem_drop hy)⟩) (hqm z (Iw hz))
        have hdl:(fp (q.drop (k+1)) R).length≤R.length:=iX.length_le
        have hdel:=xV m.rb m.cap (fp (q.drop (k+1)) R) junk z hzl (by omega) h2 hj (by omega)
        have her:(fp (q.drop (k+1)) R).eraseIdx z=fp (q.drop k) R:=by rw [hqd];rfl
        rw [her] at hdel
        clear h
        repeat' (first|refine If ?_|refine ak ?_)
        refine bz 15 [(0,.v),(1,.v),(2,.v),(3,.v),(4,.l),(5,.v),(6,.v),(7,.v),(8,.v),(9,.v),(10,.v),(11,.v),(12,.v),(13,.v),(14,.e)] none ?_ trivial rfl (by kernel_rfl) (by kernel_rfl) (by kernel_rfl) bT (by kernel_rfl) rfl
        repeat' (first|refine aC ?_|refine b6 a5 ?_|(apply dW;refine fz ?_)|(apply cB;refine cS a5 ?_)|refine bZ a5 0 rfl rfl rfl rfl (by first|trivial|rfl) ?_)
        refine jx [(m.rb,.box (bY (fp (q.drop (k+1)) R)++junk) 67)] [(wb,.box [.iptr (dR E),eM (some ⟨m.rb,m.cap,junk⟩) (fp (q.drop (k+1)) R)] 102),dv] hdel rfl rfl Hn trivial fun c L1 ⟨hc,junk',hj',hL⟩=>?_
        subst hc;subst hL
        repeat' (first|fail)
        refine IQ [0,1,9,52,66] FN ?_
        refine aJ (aI FA) ?_
        repeat' (first|refine If ?_|refine IF a5 FN ?_|(apply aV;refine aU ?_)|(apply aM;first|refine IG a5 0 ID ?_|refine IG a5 1 ID ?_|refine IG a5 2 ID ?_|refine IG a5 3 ID ?_|fail))
        refine aD (k,junk') rfl ⟨?_,trivial⟩ ⟨by omega,hj'⟩ (by dsimp only;omega) (fun _ _ h=>h)
        show some (aF (((k+1:Nat):Int) - 1))=some (aF (k:Int))
        rw [show ((k+1:Nat):Int) - 1=(k:Int) by omega]
      · have hn0:n=0:=by have:=Ix h;omega
        subst hn0
        rw [List.drop_zero] at hj ⊢
        clear h
        repeat' (first|refine If ?_|fail)
        have hdl:=(iX (q:=q) (run:=R)).length_le
        have hok:dI (some ⟨m.rb,m.cap,junk⟩) (fp q R):=⟨fun e=>(by cases e),fun m' e=>by
          cases e
          exact ⟨by dsimp only;omega,h2,hj⟩⟩
        exact cA rfl ⟨some ⟨m.rb,m.cap,junk⟩,hok,rfl⟩
section
variable {P:Program} {tt:TT} {l:List Oper} {fr:bW} {fin:jn} {sk:lW} {acc:bW} {L:AL} {k:Nat} {dd:Option Tmp} {ty t t':TypeId} {pos:String} {af:Array Edge} {g:Option (Nat×Bool)} {x y:Operand} {u:AV}
theorem F7 {q:IntKind} {a b:Int} (hx:bc (ct l.toArray acc fr af.toList) x=some (.sc (.int q a))) (hy:bc (ct l.toArray acc fr af.toList) y=some (.sc (.int q b))) (hg:iA ⟨dd,.binOp .add t x y t',ty,pos,af,g⟩ acc) (h:DA P l fr fin sk ((k,.sc (.int q (q.wrap (a+b))))::acc) L):cC P l fr fin k .v ⟨dd,.binOp .add t x y t',ty,pos,af,g⟩ sk acc L:=eW hg (yq (Ea hx hy)) h
end
structure ox (run:List aK) (ps:List Nat):Prop where
  some_:ps≠[]
  lt:∀j∈ps,j < run.length
  inc:ps.Pairwise (· < ·)
structure ke (r:b8):Prop where
 some_:r.In≠[]
 out:r.Out.length≤1000000
 calls:r.Calls.length≤1000000
 at_:∀c∈r.Calls,0≤c.At∧c.At≤1000000
abbrev jz (wb:Nat) (e:oE) (r:b8) (ps:List Nat) (deep:Nat):List AV:=[fT wb,.iptr (fv e),.iptr (bA (eN r)),.imm 1 (cZ ps),aF deep]
def gr (wb:Nat) (E:ow) (run':List aK):AV→AL→Prop:=fun _ L=>∃q',dI q' run'∧L=iT wb E q' run'
section
variable {E:ow} {wb:Nat} {m:fW} {run:List aK} (hq:dI (some m) run) (hr:run.length≤1000000) {e:oE} {r:b8} (hro:ke r) {ps:List Nat} (hps:ox run ps) (deep:Nat)
include hq hr hro hps
set_option maxHeartbeats 4000000 in
theorem I0 (hk:e.l.Kind=2):AC Tryz.prog 103 (jz wb e r ps deep) (iT wb E (some m) run) (gr wb E (fq e.l r ps run)):=by
 obtain ⟨⟨kd,ig,rs⟩,cls,fo,ba,fe,be⟩:=e
 dsimp only at hk
 subst hk
 obtain ⟨p,q,rfl⟩:=List.exists_cons_of_ne_nil hps.some_
 have hpl:=hps.lt p (by simp)
 obtain ⟨x,hx⟩:∃x,run[p]?=some x:=⟨_,Iz hpl⟩
 have hp0:(cZ (p::q))[(0:Int).toNat]?=some [aF p]:=rfl
 have hm:=Bj E wb m run hq hr p x hx r hro.out
 refine aN Tryz.func103 rfl Tryz.ntmps103 rfl fun B=>?_
 repeat' (first|refine If ?_|refine ak ?_|refine IF a5 FN ?_|(apply aS;first|refine aR a5 ?_|refine aH a5 ?_)|refine bQ rfl ?_|refine bI rfl ?_)
 refine b9 (iT wb E (some m) run) [] hm rfl rfl (by rw [List.append_nil]) rfl fun c L1 ⟨q',h1,h2⟩=>?_
 subst h2
 repeat' (first|refine If ?_|fail)
 exact cA rfl ⟨q',h1,by rw [List.append_nil];rfl⟩
set_option maxHeartbeats 4000000 in
theorem HZ (hk:e.l.Kind=1):AC Tryz.prog 103 (jz wb e r ps deep) (iT wb E (some m) run) (gr wb E (fq e.l r ps run)):=by
 have _:=hr
 obtain ⟨⟨kd,ig,rs⟩,cls,fo,ba,fe,be⟩:=e
 dsimp only at hk
 subst hk
 obtain ⟨p,q,rfl⟩:=List.exists_cons_of_ne_nil hps.some_
 have hpl:=hps.lt p (by simp)
 obtain ⟨x,hx⟩:∃x,run[p]?=some x:=⟨_,Iz hpl⟩
 have hp0:(cZ (p::q))[(0:Int).toNat]?=some [aF p]:=rfl
 obtain ⟨i0,is,hin⟩:=List.exists_cons_of_ne_nil hro.some_
 have hin0:(b7 (eN r).In)[(0:Int).toNat]?=some [.imm 1 (aT i0)]:=by
  show (b7 r.In)[0]?=_
  rw [hin]
  rfl
 have hsv:fq ⟨1,ig,rs⟩ r (p::q) run=fm r p run:=rfl
 rw [hsv]
 have hsg:fm r p run=match r.Out[i0.idxOf x.Glyph]? with
   | none=>run
   | some g=>if i0.idxOf x.Glyph < i0.length then run.set p { x with Glyph:=g } else run:=by
  unfold fm
  rw [hx,hin]
  rfl
 have hol:=aZ r.Out
 have h0:=nX (j:=0) m.junk hx rfl
 obtain ⟨g1,g2,g3⟩:=hq.fit m rfl
 have hfl:=d9 run
 refine aN Tryz.func103 rfl Tryz.ntmps103 rfl fun B=>?_
 repeat' (first|refine If ?_|refine ak ?_|refine IF a5 FN ?_|(apply aS;first|refine aR a5 ?_|refine aH a5 ?_)|refine bQ rfl ?_)
 refine bz 15 [(0,.v),(1,.v),(2,.v),(3,.v),(4,.v),(5,.v),(6,.v),(7,.v),(8,.v),(9,.l),(10,.v),(11,.v),(12,.v),(13,.l),(14,.v)] none ?_ trivial rfl (by kernel_rfl) (by kernel_rfl) (by kernel_rfl) bT (by kernel_rfl) rfl
 repeat' (first|refine aC ?_|refine b6 a5 ?_|(apply cB;refine cS a5 ?_)|refine bZ a5 0 rfl rfl rfl rfl (by first|trivial|rfl) ?_)
 refine d8 a5 rfl rfl rfl ⟨by omega,by omega⟩ trivial ?_
 repeat' (first|refine aC ?_|refine b6 a5 ?_|fail)
 refine bZ a5 1 rfl rfl rfl h0 trivial ?_
 repeat' (first|refine aC ?_|(apply dy;refine eh ?_)|fail)
 refine IQ [0,2,10,37] FN ?_
 repeat' (first|refine If ?_|refine a7 ?_|refine IF a5 FN ?_)
 have hst:(eN r).Out=r.Out:=rfl
 generalize hn:(if x.Glyph∈i0 then ((i0.idxOf x.Glyph:Nat):Int) else -1)=n
 refine c9 [0,2,10,11] (0≤n∧n < r.Out.length) rfl (fun Q' K=>?_) (fun hC=>?_) (fun hC=>?_)
 ·repeat' (first|refine If ?_|refine IF a5 FN ?_|refine IN FN ?_|refine IP IB ?_|refine IR IA (fun _=>?_) (fun _=>?_))
  all_goals exact K _ _ rfl rfl (by rw [hst,hol] at *;simp_all <;> omega)
 ·have hm:x.Glyph∈i0:=Classical.byContradiction fun hm=>by rw [if_neg hm] at hn;omega
  rw [if_pos hm] at hn
  subst hn
  have hlt:i0.idxOf x.Glyph < r.Out.length:=by omega
  obtain ⟨g,hg⟩:∃g,r.Out[i0.idxOf x.Glyph]?=some g:=⟨_,Iz hlt⟩
  have hgg:(aT (eN r).Out)[((i0.idxOf x.Glyph:Nat):Int).toNat]?=some [aF g]:=by rw [Int.toNat_natCast];exact bR hg
  rw [hg] at hsg
  dsimp only at hsg
  rw [if_pos (List.idxOf_lt_length_of_mem hm)] at hsg
  rw [hsg]
  have hst:=ky (j:=0) { x with Glyph:=g } (aF g) m.junk hx (by omega) rfl
  repeat' (first|fail)
  refine bz 12 [(0,.v),(1,.v),(2,.v),(3,.l),(4,.v),(5,.v),(6,.v),(7,.v),(8,.v),(9,.v),(10,.v),(11,.v)] none ?_ trivial rfl (by kernel_rfl) (by kernel_rfl) (by kernel_rfl) bT (by kernel_rfl) rfl
  repeat' (first|refine aC ?_|refine b6 a5 ?_|(apply cB;refine cS a5 ?_)|refine bZ a5 0 rfl rfl rfl rfl (by first|trivial|rfl) ?_)
  refine IQ [52,53,60] FN ?_
  repeat' (first|refine IF a5 FN ?_|(apply aS;first|refine aR a5 ?_|refine aH a5 ?_)|fail)
  refine aa a5 1 rfl rfl rfl rfl rfl rfl (Nat.ble_eq_true_of_le (by rw [Int.toNat_natCast];simp;omega)) ?_
  rw [hst]
  repeat' (first|refine If ?_|fail)
  exact cA rfl ⟨some m,hq.set p _,oT⟩
 ·have hsg2:fm r p run=run:=by
   rw [hsg]
   split
   ·rfl
   ·rename_i g hg
    rw [if_neg]
    intro h
    rw [if_pos (List.idxOf_lt_length_iff.1 h)] at hn
    have:=(Ip hg).1
    omega
  rw [hsg2]
  repeat' (first|refine If ?_|fail)
  exact cA rfl ⟨some m,hq,rfl⟩
set_option maxHeartbeats 4000000 in
theorem I2 (hk:e.l.Kind=5):AC Tryz.prog 103 (jz wb e r ps deep) (iT wb E (some m) run) (gr wb E (fq e.l r ps run)):=by
 have _:=hr
 obtain ⟨⟨kd,ig,rs⟩,cls,fo,ba,fe,be⟩:=e
 dsimp only at hk
 subst hk
 obtain ⟨p,q,rfl⟩:=List.exists_cons_of_ne_nil hps.some_
 have hpl:=hps.lt p (by simp)
 obtain ⟨x,hx⟩:∃x,run[p]?=some x:=⟨_,Iz hpl⟩
 have hp0:(cZ (p::q))[(0:Int).toNat]?=some [aF p]:=rfl
 obtain ⟨i0,is,hin⟩:=List.exists_cons_of_ne_nil hro.some_
 have hin0:(b7 (eN r).In)[(0:Int).toNat]?=some [.imm 1 (aT i0)]:=by
  show (b7 r.In)[0]?=_
  rw [hin]
  rfl
 have hsv:fq ⟨5,ig,rs⟩ r (p::q) run=fm r p run:=rfl
 rw [hsv]
 have hsg:fm r p run=match r.Out[i0.idxOf x.Glyph]? with
   | none=>run
   | some g=>if i0.idxOf x.Glyph < i0.length then run.set p { x with Glyph:=g } else run:=by
  unfold fm
  rw [hx,hin]
  rfl
 have hol:=aZ r.Out
 have h0:=nX (j:=0) m.junk hx rfl
 obtain ⟨g1,g2,g3⟩:=hq.fit m rfl
 have hfl:=d9 run
 refine aN Tryz.func103 rfl Tryz.ntmps103 rfl fun B=>?_
 repeat' (first|refine If ?_|refine ak ?_|refine IF a5 FN ?_|(apply aS;first|refine aR a5 ?_|refine aH a5 ?_)|refine bQ rfl ?_|refine bI rfl ?_)
 refine bz 15 [(0,.v),(1,.v),(2,.v),(3,.v),(4,.v),(5,.v),(6,.v),(7,.v),(8,.v),(9,.l),(10,.v),(11,.v),(12,.v),(13,.l),(14,.v)] none ?_ trivial rfl (by kernel_rfl) (by kernel_rfl) (by kernel_rfl) bT (by kernel_rfl) rfl
 repeat' (first|refine aC ?_|refine b6 a5 ?_|(apply cB;refine cS a5 ?_)|refine bZ a5 0 rfl rfl rfl rfl (by first|trivial|rfl) ?_)
 refine d8 a5 rfl rfl rfl ⟨by omega,by omega⟩ trivial ?_
 repeat' (first|refine aC ?_|refine b6 a5 ?_|fail)
 refine bZ a5 1 rfl rfl rfl h0 trivial ?_
 repeat' (first|refine aC ?_|(apply dy;refine eh ?_)|fail)
 refine IQ [0,2,10,37] FN ?_
 repeat' (first|refine If ?_|refine a7 ?_|refine IF a5 FN ?_)
 have hst:(eN r).Out=r.Out:=rfl
 generalize hn:(if x.Glyph∈i0 then ((i0.idxOf x.Glyph:Nat):Int) else -1)=n
 refine c9 [0,2,10,11] (0≤n∧n < r.Out.length) rfl (fun Q' K=>?_) (fun hC=>?_) (fun hC=>?_)
 ·repeat' (first|refine If ?_|refine IF a5 FN ?_|refine IN FN ?_|refine IP IB ?_|refine IR IA (fun _=>?_) (fun _=>?_))
  all_goals exact K _ _ rfl rfl (by rw [hst,hol] at *;simp_all <;> omega)
 ·have hm:x.Glyph∈i0:=Classical.byContradiction fun hm=>by rw [if_neg hm] at hn;omega
  rw [if_pos hm] at hn
  subst hn
  have hlt:i0.idxOf x.Glyph < r.Out.length:=by omega
  obtain ⟨g,hg⟩:∃g,r.Out[i0.idxOf x.Glyph]?=some g:=⟨_,Iz hlt⟩
  have hgg:(aT (eN r).Out)[((i0.idxOf x.Glyph:Nat):Int).toNat]?=some [aF g]:=by rw [Int.toNat_natCast];exact bR hg
  rw [hg] at hsg
  dsimp only at hsg
  rw [if_pos (List.idxOf_lt_length_of_mem hm)] at hsg
  rw [hsg]
  have hst:=ky (j:=0) { x with Glyph:=g } (aF g) m.junk hx (by omega) rfl
  repeat' (first|fail)
  refine bz 12 [(0,.v),(1,.v),(2,.v),(3,.l),(4,.v),(5,.v),(6,.v),(7,.v),(8,.v),(9,.v),(10,.v),(11,.v)] none ?_ trivial rfl (by kernel_rfl) (by kernel_rfl) (by kernel_rfl) bT (by kernel_rfl) rfl
  repeat' (first|refine aC ?_|refine b6 a5 ?_|(apply cB;refine cS a5 ?_)|refine bZ a5 0 rfl rfl rfl rfl (by first|trivial|rfl) ?_)
  refine IQ [52,53,60] FN ?_
  repeat' (first|refine IF a5 FN ?_|(apply aS;first|refine aR a5 ?_|refine aH a5 ?_)|fail)
  refine aa a5 1 rfl rfl rfl rfl rfl rfl (Nat.ble_eq_true_of_le (by rw [Int.toNat_natCast];simp;omega)) ?_
  rw [hst]
  repeat' (first|refine If ?_|fail)
  exact cA rfl ⟨some m,hq.set p _,oT⟩
 ·have hsg2:fm r p run=run:=by
   rw [hsg]
   split
   ·rfl
   ·rename_i g hg
    rw [if_neg]
    intro h
    rw [if_pos (List.idxOf_lt_length_iff.1 h)] at hn
    have:=(Ip hg).1
    omega
  rw [hsg2]
  repeat' (first|refine If ?_|fail)
  exact cA rfl ⟨some m,hq,rfl⟩
set_option maxHeartbeats 4000000 in
theorem I1 (hk:e.l.Kind=3):AC Tryz.prog 103 (jz wb e r ps deep) (iT wb E (some m) run) (gr wb E (fq e.l r ps run)):=by
 have _:=hro
 obtain ⟨⟨kd,ig,rs⟩,cls,fo,ba,fe,be⟩:=e
 dsimp only at hk
 subst hk
 obtain ⟨p,q,rfl⟩:=List.exists_cons_of_ne_nil hps.some_
 have hpl:=hps.lt p (by simp)
 obtain ⟨x,hx⟩:∃x,run[p]?=some x:=⟨_,Iz hpl⟩
 have hp0:(cZ (p::q))[(0:Int).toNat]?=some [aF p]:=rfl
 have hol:=aZ (eN r).Out
 have hst:(eN r).Out=r.Out:=rfl
 rw [hst] at hol
 refine aN Tryz.func103 rfl Tryz.ntmps103 rfl fun B=>?_
 repeat' (first|refine If ?_|refine ak ?_|refine IF a5 FN ?_|(apply aS;first|refine aR a5 ?_|refine aH a5 ?_)|refine bQ rfl ?_|refine bI rfl ?_)
 refine aq rfl (fun h=>?_) (fun h=>?_)
 ·have hne:r.Out≠[]:=fun e=>by rw [hst,e] at h;cases h
  obtain ⟨g,gs,hg⟩:=List.exists_cons_of_ne_nil hne
  have hj:=Dj E wb m run hq hr p q hps.lt hps.inc x hx r g gs hg
  have hg0:(aT (eN r).Out)[(0:Int).toNat]?=some [aF g]:=by rw [hst,hg];rfl
  clear h
  repeat' (first|refine If ?_|refine IF a5 FN ?_|(apply aS;first|refine aR a5 ?_|refine aH a5 ?_)|fail)
  refine b9 (iT wb E (some m) run) [] hj rfl rfl (by rw [List.append_nil]) rfl fun c L1 ⟨q',h1,h2⟩=>?_
  subst h2
  repeat' (first|refine If ?_|fail)
  exact cA rfl ⟨q',h1,by rw [List.append_nil];rfl⟩
 ·have hz:r.Out=[]:=List.eq_nil_of_length_eq_zero (by have:=Ix h;rw [hst] at this;omega)
  have hsv:fq ⟨3,ig,rs⟩ r (p::q) run=run:=by
   show kI r (p::q) run=run
   unfold kI
   rw [hz]
  rw [hsv]
  repeat' (first|refine If ?_|fail)
  exact cA rfl ⟨some m,hq,rfl⟩
set_option maxHeartbeats 4000000 in
theorem I3 (hk:e.l.Kind=6):AC Tryz.prog 103 (jz wb e r ps deep) (iT wb E (some m) run) (gr wb E (fq e.l r ps run)):=by
 have _:=hr
 have _:=hro
 obtain ⟨⟨kd,ig,rs⟩,cls,fo,ba,fe,be⟩:=e
 dsimp only at hk
 subst hk
 obtain ⟨p,q,rfl⟩:=List.exists_cons_of_ne_nil hps.some_
 have hpl:=hps.lt p (by simp)
 obtain ⟨x,hx⟩:∃x,run[p]?=some x:=⟨_,Iz hpl⟩
 have hp0:(cZ (p::q))[(0:Int).toNat]?=some [aF p]:=rfl
 have hsv:fq ⟨6,ig,rs⟩ r (p::q) run=run.set p { x with Advance:=IntKind.i64.wrap (x.Advance+r.X) }:=by
  show oe r p run=_
  unfold oe
  rw [hx]
 rw [hsv]
 have h3:=nX (j:=3) m.junk hx rfl
 have hst:=ky (j:=3) { x with Advance:=IntKind.i64.wrap (x.Advance+r.X) } (aF (IntKind.i64.wrap (x.Advance+r.X))) m.junk hx (by omega) rfl
 obtain ⟨g1,g2,g3⟩:=hq.fit m rfl
 have hfl:=d9 run
 refine aN Tryz.func103 rfl Tryz.ntmps103 rfl fun B=>?_
 repeat' (first|refine If ?_|refine ak ?_|refine IF a5 FN ?_|(apply aS;first|refine aR a5 ?_|refine aH a5 ?_)|refine bQ rfl ?_|refine bI rfl ?_)
 refine bz 13 [(0,.v),(1,.v),(2,.v),(3,.l),(4,.v),(5,.v),(6,.v),(7,.l),(8,.v),(9,.v),(10,.v),(11,.v),(12,.v)] none ?_ trivial rfl (by kernel_rfl) (by kernel_rfl) (by kernel_rfl) bT (by kernel_rfl) rfl
 repeat' (first|refine aC ?_|refine b6 a5 ?_|refine bZ a5 0 rfl rfl rfl rfl (by first|trivial|rfl) ?_)
 refine d8 a5 rfl rfl rfl ⟨by omega,by omega⟩ trivial ?_
 repeat' (first|refine aC ?_|refine b6 a5 ?_|fail)
 refine bZ a5 1 rfl rfl rfl h3 trivial ?_
 repeat' (first|refine aC ?_|refine b6 a5 ?_|fail)
 refine F7 rfl rfl trivial ?_
 repeat' (first|fail)
 refine IQ [107,108,116] FN ?_
 repeat' (first|refine IF a5 FN ?_|(apply aS;first|refine aR a5 ?_|refine aH a5 ?_)|fail)
 refine aa a5 1 rfl rfl rfl rfl rfl rfl (Nat.ble_eq_true_of_le (by rw [Int.toNat_natCast];simp;omega)) ?_
 have hsx:(eN r).X=r.X:=rfl
 rw [hsx,hst]
 repeat' (first|refine If ?_|fail)
 exact cA rfl ⟨some m,hq.set p _,oT⟩
end
end Go.Proofs.YtpmdfoaadejmkaaGreatDoor
