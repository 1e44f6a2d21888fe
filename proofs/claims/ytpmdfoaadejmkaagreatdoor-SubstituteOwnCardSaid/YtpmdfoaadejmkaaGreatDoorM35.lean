/-
  Rows that were taken over: numbers, texts and truths may be written over; where it is allowed, a row may be let go.
-/
import Derived.Test.YtpmdfoaadejmkaaGreatDoorM33
import Derived.Test.YtpmdfoaadejmkaaGreatDoorM05
import Derived.Test.YtpmdfoaadejmkaaGreatDoorM32
import Derived.Test.YtpmdfoaadejmkaaGreatDoorM34
import Derived.Test.YtpmdfoaadejmkaaGreatDoorM20
namespace Go.Proofs.YtpmdfoaadejmkaaGreatDoor
open Go.RowKit
def gI (S:Prop) (u u':Value):Prop:=mA u u'∨(S∧(∃A n c,u= .slice A n c)∧u'= .slice none 0 0)
def gJ (S:Nat→Prop) (τ:Mem) (b:Nat) (o:Obj):Prop:=∃(cur:Array Value) (t:TypeId),o= .cells cur t (0,0)∧∀off u,τ b off=some u→∃u',cur[off]?=some u'∧gI (S b) u u'
theorem wz.likeT {S:Nat→Prop} {τ:Mem} {b:Nat} {o:Obj} (h:wz τ b o):gJ S τ b o:=by
 obtain ⟨cur,t,ho,h⟩:=h
 exact ⟨cur,t,ho,fun off u hu=>⟨u,h off u hu,.inl (mA.refl u)⟩⟩
theorem gI.one {S:Prop} {v v':Value} (h:gI S v v') (h1:v.oneCell'=true):v'.oneCell'=true:=by
 rcases h with h | ⟨_,_,rfl⟩
 ·exact h.one h1
 ·rfl
theorem gI.not {S:Prop} {v v':Value} (h:gI S v v') (hS:¬S):mA v v':=h.elim id fun h=>absurd h.1 hS
section
variable {B:Bs}
theorem Bi (S:Nat→Prop) (τ:Mem) (L1 L2:AL):∃L1':AL,(∀b,(b,AB.raw (wz τ b))∈L1→(b,AB.raw (gJ S τ b))∈L1')∧∀(nt:Nat) (D:List Deferred) (B:Bs) (fr:bT),jn nt D B fr (L1++L2) fr (L1'++L2):=by
 classical
 refine ⟨L1.map fun p=>if p.2=AB.raw (wz τ p.1) then (p.1,AB.raw (gJ S τ p.1)) else p,fun b hb=>List.mem_map.2 ⟨_,hb,if_pos rfl⟩,fun nt D B fr σ a w ha hw=>⟨σ,ha,?_⟩⟩
 have hf:∀p:Nat×AB,(if p.2=AB.raw (wz τ p.1) then (p.1,AB.raw (gJ S τ p.1)) else p).1=p.1:=fun p=>by split <;> rfl
 have hm:((L1.map fun p=>if p.2=AB.raw (wz τ p.1) then (p.1,AB.raw (gJ S τ p.1)) else p)++L2).map (·.1)=(L1++L2).map (·.1):=by
  rw [List.map_append,List.map_append,List.map_map]
  congr 1
  exact List.map_congr_left fun p _=>hf p
 have hin:∀p∈(L1.map fun p=>if p.2=AB.raw (wz τ p.1) then (p.1,AB.raw (gJ S τ p.1)) else p)++L2,∃p0∈L1++L2,p0.1=p.1∧(∀o,p0.2.holds σ o→p.2.holds σ o)∧∀off,p.2.mut off→p0.2.mut off:=fun p hp=>by
  rcases Ll hp with hp | hp
  ·obtain ⟨p0,h0,rfl⟩:=List.mem_map.1 hp
   refine ⟨p0,List.mem_append_left _ h0,(hf p0).symm,fun o ho=>?_,fun off ho=>?_⟩
   ·split
    ·rename_i e
     rw [e] at ho
     exact wz.likeT ho
    ·exact ho
   ·split at ho
    ·rename_i e
     rw [e]
     trivial
    ·exact ho
  ·exact ⟨p,List.mem_append_right _ hp,rfl,fun _ h=>h,fun _ h=>h⟩
 refine ⟨hw.os,hw.tape,hw.output,hw.size,hw.old,fun p hp=>?_,fun p hp=>?_,?_,hw.froz,fun p hp off ho=>?_,hw.grow,hw.same,hw.cold⟩
 ·obtain ⟨p0,h0,h1,h2,_⟩:=hin p hp
  obtain ⟨o,ho,hh⟩:=hw.here p0 h0
  exact ⟨o,h1▸ho,h2 o hh⟩
 ·obtain ⟨p0,h0,h1,_,_⟩:=hin p hp
  exact h1▸hw.mine p0 h0
 ·rw [hm]
  exact hw.apart
 ·obtain ⟨p0,h0,h1,_,h3⟩:=hin p hp
  exact h1▸hw.free p0 h0 off (h3 off ho)
end
section
variable {P:Program} {fr:bT} {B:Bs} {L:AL} {d:Option Tmp} {ty t:TypeId} {pos:String} {af:Array Edge} {g:Option (Nat×Bool)} {x y:Operand} {u:AV} {τ:Mem} {S:Nat→Prop}
theorem cL.takenCell {σ τ:Mem} {w:World} (hw:cL B σ L w) {b:Nat} (hL:(b,AB.raw (gJ S τ b))∈L):∃(cur:Array Value) (t:TypeId),w.heap[b]?=some (.cells cur t (0,0))∧∀off u,τ b off=some u→∃u',cur[off]?=some u'∧gI (S b) u u':=by
 obtain ⟨o,ho,hh⟩:=hw.here _ hL
 obtain ⟨cur,t,rfl,h⟩:=(hh:gJ S τ b o)
 exact ⟨cur,t,ho,h⟩
theorem v9 {b k:Nat} {v:Value} (h:EV P t) (hx:bh fr x=some (.sc (.pointer (some ⟨b,k,none⟩)))) (hL:(b,AB.raw (gJ S τ b))∈L) (hc:τ b k=some v):AO P ⟨d,.load t x,ty,pos,af,g⟩ fr B L (fun c L'=>∃v',gI (S b) v v'∧c= .sc v'∧L'=L):=by
 intro σ ρ w hρ hw
 obtain ⟨cur,e,hb,hk⟩:=hw.takenCell hL
 obtain ⟨v',hv,hl⟩:=hk k v hc
 have hcell:w.cell? ⟨b,k,none⟩=some v':=by simp [World.cell?,hb,hv]
 unfold gT
 rw [show (execOp ρ ⟨d,.load t x,ty,pos,af,g⟩).run P w= .ok (.value v') w by simp [execOp,(hρ x _ hx).sc_inv,Instr.loadAt,Instr.sureAddr,fJ hcell]]
 exact ⟨σ,.sc v',L,Mem.le_refl _,.sc _,hw,v',hl,rfl,rfl⟩
theorem zS {b k n:Nat} {us:List Value} (h:GN P t n) (hx:bh fr x=some (.sc (.pointer (some ⟨b,k,none⟩)))) (hL:(b,AB.raw (gJ S τ b))∈L) (hn:us.length=n) (h1:∀u∈us,u.oneCell'=true) (hc:∀(j:Nat) (v:Value),us[j]?=some v→τ b (k+j)=some v):AO P ⟨d,.load t x,ty,pos,af,g⟩ fr B L (fun c L'=>∃vs:List Value,vs.length=n∧(∀(j:Nat) (v v':Value),us[j]?=some v→vs[j]?=some v'→gI (S b) v v')∧c= .agg (vs.map AV.sc)∧L'=L):=by
 intro σ ρ w hρ hw
 obtain ⟨cur,e,hb,hk⟩:=hw.takenCell hL
 have hall:∀(j:Nat) (v:Value),us[j]?=some v→∃v',cur[k+j]?=some v'∧gI (S b) v v':=fun j v hj=>hk _ v (hc j v hj)
 let vs:List Value:=(List.range n).map fun j=>(cur[k+j]?).getD undef
 have hvl:vs.length=n:=by simp [vs]
 have hvg:∀(j:Nat) (v:Value),us[j]?=some v→∃v',vs[j]?=some v'∧cur[k+j]?=some v'∧gI (S b) v v':=fun j v hj=>by
  obtain ⟨v',h2,h3⟩:=hall j v hj
  have hjn:j < n:=by rw [←hn];exact (Ln hj).1
  exact ⟨v',by simp [vs,hjn,h2],h2,h3⟩
 have hone:∀u∈vs,u.oneCell'=true:=fun u hu=>by
  obtain ⟨j,hj⟩:=List.mem_iff_getElem?.1 hu
  have hjn:j < n:=by rw [←hvl];exact (Ln hj).1
  obtain ⟨v,hv⟩:∃v,us[j]?=some v:=⟨_,Iy (by omega)⟩
  obtain ⟨v',h2,_,h3⟩:=hvg j v hv
  rw [hj] at h2
  injection h2 with h2
  subst h2
  exact h3.one (h1 v (Lw hv))
 have hrun:=fI (h:=h) (P:=P) (t:=t) (w:=w) (b:=b) (o:=k) (cs:=vs) hvl (fun j v hj=>by
  have hjn:j < n:=by rw [←hvl];exact (Ln hj).1
  obtain ⟨v0,hv0⟩:∃v,us[j]?=some v:=⟨_,Iy (by omega)⟩
  obtain ⟨v',h2,h3,_⟩:=hvg j v0 hv0
  rw [hj] at h2
  injection h2 with h2
  subst h2
  simp [World.cell?,hb,h3])
 unfold gT
 rw [show (execOp ρ ⟨d,.load t x,ty,pos,af,g⟩).run P w= .ok (.value (.agg vs.toArray)) w by simp only [execOp,(hρ x _ hx).sc_inv,Instr.loadAt,Instr.sureAddr,Sem.run_bind,Sem.run_pure,Result.andThen,hrun]]
 refine ⟨σ,.agg (vs.map AV.sc),L,Mem.le_refl _,.agg _ vs (Lu ..) (fun i c u hc hu=>?_) hone,hw,vs,hvl,fun j v v' hj hj'=>?_,rfl,rfl⟩
 ·rw [List.getElem?_map,hu] at hc
  simp only [Option.map_some,Option.some.injEq] at hc
  subst hc
  exact .sc _
 ·obtain ⟨v2,h2,_,h3⟩:=hvg j v hj
  rw [hj'] at h2
  injection h2 with h2
  subst h2
  exact h3
theorem sx (i:Nat) {b k n:Nat} {vs':List Value} (hs:(P.info? t).map (·.size)=some n) (hx:bh fr x=some (.sc (.pointer (some ⟨b,k,none⟩)))) (hy:bh fr y=some u) (hu:u.cells=some (vs'.map AV.sc)) (hn:vs'.length=n) (h0:0 < n) (hL:L[i]?=some (b,AB.raw (gJ S τ b))) (hc:∀j,j < n→∃v,τ b (k+j)=some v) (hl:∀(j:Nat) (v v':Value),τ b (k+j)=some v→vs'[j]?=some v'→gI (S b) v v'):
  AO P ⟨d,.store t x y,ty,pos,af,g⟩ fr B L (fun _ L'=>L'=L):=by
 intro σ ρ w hρ hw
 obtain ⟨cur,e,hb,hk⟩:=hw.takenCell (Lw hL)
 obtain ⟨v0,hv0⟩:=hc (n - 1) (by omega)
 obtain ⟨v1,hv1,_⟩:=hk _ v0 hv0
 have hkl:=(Array.getElem?_eq_some_iff.1 hv1).1
 obtain ⟨hcs,hc1⟩:=(hρ y u hy).cells hu
 have hcl:(ρ y).cells.toList=vs':=by
  apply List.ext_getElem?
  intro j
  have hl0:=hcs.1
  rw [Lu] at hl0
  by_cases hj:j < vs'.length
  ·obtain ⟨v,hv⟩:∃v,vs'[j]?=some v:=⟨_,Iy hj⟩
   obtain ⟨z,hz⟩:∃z,(ρ y).cells.toList[j]?=some z:=⟨_,Iy (by omega)⟩
   have:=hcs.2 j (.sc v) z (by rw [List.getElem?_map,hv];rfl) hz
   rw [hz,hv,this.sc_inv]
  ·rw [List.getElem?_eq_none (by omega),List.getElem?_eq_none (by omega)]
 have hsz:(ρ y).cells.size=n:=by rw [←hn,←hcl];simp
 have hrun:=nZ (P:=P) (t:=t) (w:=w) (b:=b) (k:=k) hs hsz hc1 hb (by omega)
 unfold gT
 rw [show (execOp ρ ⟨d,.store t x y,ty,pos,af,g⟩).run P w= .ok .skip (w.setCells b k (ρ y).cells.toList) by simp only [execOp,(hρ x _ hx).sc_inv,Instr.storeAt,Instr.sureAddr,Sem.run_bind,Sem.run_pure,Result.andThen,hrun]]
 obtain ⟨hg,cs',hh,hs',hj⟩:=i7 b (ρ y).cells.toList k w _ e (0,0) hb
 have hq:eF L i (AB.raw (gJ S τ b))=L:=sA L i hL
 refine ⟨σ,.sc undef,L,Mem.le_refl _,.sc _,?_,rfl⟩
 have:=hw.putAt (a':=AB.raw (gJ S τ b)) hL (fun _=>trivial) hg hh ⟨cs',e,rfl,fun off u hu=>?_⟩
 ·rw [hq] at this;exact this
 ·rw [hj off,hcl]
  by_cases ho:k≤off∧off < k+vs'.length
  ·obtain ⟨v',hv'⟩:∃v',vs'[off - k]?=some v':=⟨_,Iy (by omega)⟩
   refine ⟨v',by rw [if_pos (by omega)];exact hv',hl (off - k) u v' (by rw [show k+(off - k)=off by omega];exact hu) hv'⟩
  ·obtain ⟨u',h2,h3⟩:=hk off u hu
   exact ⟨u',by rw [if_neg (by omega)];exact h2,h3⟩
end
section
variable {P:Program} {tt:TT} {r:Option Nat} {ops:Array Oper} {Q:Exit→Act→World→Prop} {nt:Nat} {D:List Deferred} {fr:bT} {B:Bs} {L:AL} {rest:List Oper} {d:Nat} {ty t:TypeId} {pos:String} {af:Array Edge} {x y:Operand} {u:AV} {τ:Mem} {S:Nat→Prop}
def kw (S:Prop) (us vs:List Value):Prop:=us.length=vs.length∧∀(j:Nat) (v v':Value),us[j]?=some v→vs[j]?=some v'→gI S v v'
theorem kw.cons {S:Prop} {u:Value} {us vs:List Value} (h:kw S (u::us) vs):∃v ws,vs=v::ws∧gI S u v∧kw S us ws:=by
 cases vs with
 | nil=>have:=h.1;simp at this
 | cons v ws=>exact ⟨v,ws,rfl,h.2 0 u v rfl rfl,by have:=h.1;simpa using this,fun j x y hx hy=>h.2 (j+1) x y (by simpa using hx) (by simpa using hy)⟩
theorem kw.nil {S:Prop} {vs:List Value} (h:kw S [] vs):vs=[]:=by
 have:=h.1
 cases vs with
 | nil=>rfl
 | cons _ _=>simp at this
theorem qb (ok:eu P tt) {b k:Nat} {v:Value} (ht:Iu tt t=true) (hx:bh fr x=some (.sc (.pointer (some ⟨b,k,none⟩)))) (hL:(b,AB.raw (gJ S τ b))∈L) (hc:τ b k=some v) (hd:Nat.ble nt d=false) (h:∀v',gI (S b) v v'→br P r ops Q nt D rest ((d,.sc v')::fr) B L):
  br P r ops Q nt D (⟨some d,.load t x,ty,pos,af,none⟩::rest) fr B L:=cw hd rfl (v9 (cV ok ht) hx hL hc) fun c' L' ⟨v',h1,h2,h3⟩=>by
 subst h2;subst h3
 exact h v' h1
theorem DZ (ok:eu P tt) {b k n:Nat} (us:List Value) (ht:HM tt t=some n) (hx:bh fr x=some (.sc (.pointer (some ⟨b,k,none⟩)))) (hL:(b,AB.raw (gJ S τ b))∈L) (hn:us.length=n) (hc:∀(j:Nat) (v:Value),us[j]?=some v→τ b (k+j)=some v∧v.oneCell'=true) (hd:Nat.ble nt d=false) (h:∀vs,kw (S b) us vs→br P r ops Q nt D rest ((d,.agg (vs.map AV.sc))::fr) B L):
  br P r ops Q nt D (⟨some d,.load t x,ty,pos,af,none⟩::rest) fr B L:=cw hd rfl (zS (us:=us) (ee ok ht) hx hL hn (fun u hu=>by
   obtain ⟨j,hj⟩:=List.mem_iff_getElem?.1 hu
   exact (hc j u hj).2) fun j v hj=>(hc j v hj).1) fun c' L' ⟨vs,h1,h2,h3,h4⟩=>by
 subst h3;subst h4
 exact h vs ⟨hn.trans h1.symm,h2⟩
theorem E0 (ok:eu P tt) {b k n:Nat} (vs':List Value) (ht:Hb tt t=some n) (hx:bh fr x=some (.sc (.pointer (some ⟨b,k,none⟩)))) (hy:bh fr y=some u) (hu:u.cells=some (vs'.map AV.sc)) (hn:Nat.beq vs'.length n=true) (h0:Nat.ble 1 n=true) (hL:(b,AB.raw (gJ S τ b))∈L) (us:List Value) (hus:us.length=n) (hc:∀(j:Nat) (v:Value),us[j]?=some v→τ b (k+j)=some v∧v.oneCell'=true) (hl:kw (S b) us vs') (h:br P r ops Q nt D rest fr B L):
  br P r ops Q nt D (⟨none,.store t x y,ty,pos,af,none⟩::rest) fr B L:=by
 rw [Nat.beq_eq] at hn
 rw [Nat.ble_eq] at h0
 obtain ⟨i,hi⟩:=List.mem_iff_getElem?.1 hL
 have hex:∀j,j < n→∃v,us[j]?=some v:=fun j hj=>⟨_,Iy (by omega)⟩
 refine iV rfl (sx i (ki ok ht) hx hy hu hn h0 hi (fun j hj=>?_) fun j v v' hv hv'=>?_) fun c L' h1=>by subst h1;exact h
 ·obtain ⟨v,hv⟩:=hex j hj
  exact ⟨v,(hc j v hv).1⟩
 ·obtain ⟨v0,hv0⟩:=hex j (by have:=(Ln hv').1;omega)
  have h2:=(hc j v0 hv0).1
  rw [hv] at h2
  injection h2 with h2
  subst h2
  exact hl.2 j _ v' hv0 hv'
theorem jX (ok:eu P tt) {b k:Nat} {v v':Value} (ht:Hb tt t=some 1) (hx:bh fr x=some (.sc (.pointer (some ⟨b,k,none⟩)))) (hy:bh fr y=some (.sc v')) (hu:(AV.sc v').cells=some [.sc v']) (hL:(b,AB.raw (gJ S τ b))∈L) (hc:τ b k=some v) (hl:gI (S b) v v') (h:br P r ops Q nt D rest fr B L):
  br P r ops Q nt D (⟨none,.store t x y,ty,pos,af,none⟩::rest) fr B L:=by
 obtain ⟨i,hi⟩:=List.mem_iff_getElem?.1 hL
 refine iV rfl (sx i (vs':=[v']) (ki ok ht) hx hy hu rfl (Nat.le_refl 1) hi (fun j hj=>⟨v,?_⟩) fun j w w' hw hw'=>?_) fun c L' h1=>by subst h1;exact h
 ·rw [show j=0 by omega]
  exact hc
 ·have hj:j=0:=by have:=(Ln hw').1;simp at this;exact this
  subst hj
  rw [Nat.add_zero,hc] at hw
  injection hw with hw
  subst hw
  simp at hw'
  subst hw'
  exact hl
end
section
variable {P:Program} {tt:TT} {l:List Oper} {fr:bT} {fin:iR} {sk:m6} {acc:bT} {L:AL} {k:Nat} {dd:Option Tmp} {ty t:TypeId} {pos:String} {af:Array Edge} {g:Option (Nat×Bool)} {x:Operand} {τ:Mem} {S:Nat→Prop}
theorem yJ (ok:eu P tt) {b o:Nat} {v:Value} (ht:Iu tt t=true) (hx:bh (cx l.toArray acc fr af.toList) x=some (.sc (.pointer (some ⟨b,o,none⟩)))) (hL:(b,AB.raw (gJ S τ b))∈L) (hc:τ b o=some v) (hg:it ⟨dd,.load t x,ty,pos,af,g⟩ acc) (h:∀v',gI (S b) v v'→DA P l fr fin sk ((k,.sc v')::acc) L):
  cA P l fr fin k .e ⟨dd,.load t x,ty,pos,af,g⟩ sk acc L:=
 yK hg (fun _ _=>v9 (cV ok ht) hx hL hc) fun c L' ⟨v',h1,h2,h3⟩=>by
  subst h2;subst h3
  exact h v' h1
end
section
variable {P:Program} {tt:TT} {r:Option Nat} {ops:Array Oper} {Q:Exit→Act→World→Prop} {nt:Nat} {D:List Deferred} {fr:bT} {B:Bs} {L:AL} {rest:List Oper} {d:Nat} {ty:TypeId} {pos:String} {af:Array Edge}
theorem xL (i:Nat) {z e0:Nat} {cs0:List AV} (hz:L[i]?=some (z,.box cs0 e0)) {f:FuncId} {args:Array Operand} {ts:Array TypeId} {cs ds:List AV} {Post:Mem→AV→Prop} [bD P f] (hc:Jy P f ds Post) (hv:dy fr args.toList=some cs) (hi:gN cs=some ds) (hd:Nat.ble nt d=false) (h:∀(σ1 τ:Mem) (v:Value) (c0:AV) (L1:AL),Post σ1 c0→VR τ c0 v→(∀b off u,τ b off=some u→σ1 b off=some u∨(b,AB.raw (wz τ b))∈L1)→br P r ops Q nt D rest ((d,.sc v)::fr) B (L1++eF L i (gh σ1 (.box cs0 e0)))):
  br P r ops Q nt D (⟨some d,.call ⟨.value (.func f),args,ts⟩,ty,pos,af,none⟩::rest) fr B L:=by
 refine cw hd rfl (v6 i hz hv hi hc) fun c L' ⟨σ1,τ,v,c0,L1,h1,h2,h3,h4,h5⟩=>?_
 subst h1;subst h5
 exact h σ1 τ v c0 L1 h2 h3 h4
theorem xM {f:FuncId} {args:Array Operand} {ts:Array TypeId} {vs0:List Value} {ds:List AV} {Post:Mem→AV→AL→Prop} (z:Nat) (σ1 τ:Mem) (Q':AB) [bD P f] (hc:JH P f ds Post) (hv:dy fr args.toList=some (vs0.map AV.sc)) (hds:cS τ ds vs0) (hz:(z,gh σ1 Q')∈L) (hτ:∀b off u,τ b off=some u→σ1 b off=some u∨(b,AB.raw (wz τ b))∈L) (hd:Nat.ble nt d=false) (h:∀(σ2:Mem) (c:AV) (L1:AL),Post σ2 c L1→br P r ops Q nt D rest ((d,c)::fr) B (L1++L)):
  br P r ops Q nt D (⟨some d,.call ⟨.value (.func f),args,ts⟩,ty,pos,af,none⟩::rest) fr B L:=
 cw hd rfl (v7 hv hds hz hτ hc) fun c L' ⟨σ2,L1,_,h2,h3⟩=>by
  subst h3
  exact h σ2 c L1 h2
end
end Go.Proofs.YtpmdfoaadejmkaaGreatDoor
namespace Go.Proofs.YtpmdfoaadejmkaaGreatDoor
open Go.RowKit
attribute [local irreducible] AT br AX AO Av Kt b7 dm DA cA
def tE (τ:Mem) (q:Nat→Prop) (sz:Nat) (l:List (List AV)) (A:Option Addr) (n:Nat):Prop:=n≤l.length∧∀(i:Nat) (e:List AV),i < n→l[i]?=some e→∃(b cap:Nat) (us:List Value),A=some ⟨b,0,none⟩∧VR τ (.new q sz l) (.slice (some ⟨b,0,none⟩) l.length cap)∧q b∧us.length=sz∧cS τ e us∧∀(j:Nat) (w:Value),us[j]?=some w→τ b (0+i * sz+j)=some w∧w.oneCell'=true
theorem VR.newRow {τ:Mem} {q:Nat→Prop} {sz:Nat} {l:List (List AV)} {u:Value} (h0:VR τ (.new q sz l) u):∃A cap,u= .slice A l.length cap∧tE τ q sz l A l.length:=by
 have h00:=h0
 cases h0 with
 | new _ _ _ _ h hq=>
  cases h with
  | imm _ _ A cap hc hm hs ha hx h=>
   refine ⟨A,cap,rfl,Nat.le_refl _,fun i e _ he=>?_⟩
   have hil:i < l.length:=(Ln he).1
   have hne:l≠[]:=fun e0=>by rw [e0] at hil;simp at hil
   obtain ⟨b,off,rfl⟩:=ha hne
   obtain ⟨ho,hqb⟩:=hq b off _ _ rfl hne
   subst ho
   have hel:=hs e (Lw he)
   have hall:∀j,j < sz→∃u,τ b (0+i * sz+j)=some u∧u.oneCell'=true:=fun j hj=>hx i b 0 j rfl hil hj
   have hget:∀(j:Nat) (w:Value),((List.range sz).map fun j=>(τ b (0+i * sz+j)).getD undef)[j]?=some w→τ b (0+i * sz+j)=some w∧w.oneCell'=true:=fun j w hw=>by
    rw [List.getElem?_map] at hw
    obtain ⟨j',hj',rfl⟩:=Option.map_eq_some_iff.1 hw
    have hjs:=(Ln hj').1
    have:j'=j:=by
     have:=(Ln hj').2
     simpa using this.symm
    subst this
    rw [List.length_range] at hjs
    obtain ⟨u,hu,h1⟩:=hall j' hjs
    rw [hu]
    exact ⟨rfl,h1⟩
   exact ⟨b,cap,(List.range sz).map fun j=>(τ b (0+i * sz+j)).getD undef,rfl,h00,hqb,by simp,⟨by simp [hel],fun j c w hc hw=>h i e b 0 j c w he rfl hc (hget j w hw).1⟩,hget⟩
theorem Is {τ:Mem} {q:Nat→Prop} {S:Prop} {sz:Nat} {l:List (List AV)} {u v:Value} (h:VR τ (.new q sz l) u) (hl:gI S u v):∃A n c,v= .slice A n c∧tE τ q sz l A n:=by
 obtain ⟨A,cap,rfl,hr⟩:=h.newRow
 rcases hl with hl | ⟨_,_,rfl⟩
 ·exact ⟨A,l.length,cap,hl,hr⟩
 ·exact ⟨none,0,0,rfl,Nat.zero_le _,fun i e hi=>by omega⟩
theorem VR.first {τ:Mem} {q:Nat→Prop} {sz n cap b:Nat} {l:List (List AV)} {e:List AV} {c:AV} (h:VR τ (.new q sz l) (.slice (some ⟨b,0,none⟩) n cap)) (he:l[0]?=some e) (hc:e[0]?=some c):∃u,τ b 0=some u∧VR τ c u:=by
 obtain ⟨A,cap',hA,_,hr⟩:=h.newRow
 injection hA with hA _ _
 subst hA
 obtain ⟨b',_,us,hb,_,_,hl,hv,hu⟩:=hr 0 e (Ln he).1 he
 injection hb with hb
 injection hb with hb
 subst hb
 have h0:0 < us.length:=by rw [←hv.1];exact (Ln hc).1
 have hg:=Iy h0
 have:=(hu 0 _ hg).1
 rw [Nat.zero_mul] at this
 exact ⟨_,this,hv.2 0 c _ hc hg⟩
def SB (τ:Mem) (q:Nat→Prop) (b:Nat):Prop:=∃(rs:List b8) (n cap:Nat),rs≠[]∧VR τ (.new q 6 (rs.map (co q))) (.slice (some ⟨b,0,none⟩) n cap)
theorem SB.first {τ:Mem} {q:Nat→Prop} {b:Nat} (h:SB τ q b):∃(l:List (List Int)) (u:Value),τ b 0=some u∧VR τ (.imm 1 (bF q l)) u:=by
 obtain ⟨rs,n,cap,hne,h⟩:=h
 cases rs with
 | nil=>exact absurd rfl hne
 | cons r rs=>
  obtain ⟨u,h1,h2⟩:=h.first (e:=co q r) (c:= .imm 1 (bF q r.Back)) rfl rfl
  exact ⟨r.Back,u,h1,h2⟩
theorem B4 {τ:Mem} {q:Nat→Prop} {n cap b:Nat} {ls:List aO} (h:VR τ (.new q 3 (ls.map (cU q))) (.slice (some ⟨b,0,none⟩) n cap)) (hne:ls≠[]):¬SB τ q b:=fun hS=>by
 obtain ⟨l,u,h1,h2⟩:=hS.first
 cases ls with
 | nil=>exact hne rfl
 | cons x ls=>
  obtain ⟨u',h3,h4⟩:=h.first (e:=cU q x) (c:=aI x.Kind) rfl rfl
  rw [h1] at h3
  injection h3 with h3
  subst h3
  rw [h4.sc_inv] at h2
  cases h2
theorem G8 {τ:Mem} {q:Nat→Prop} {n cap b:Nat} {I:List (List Int)} (h:VR τ (.new q 1 (bF q I)) (.slice (some ⟨b,0,none⟩) n cap)) (hne:I≠[]) (hs:∀s∈I,0 < s.length):¬SB τ q b:=fun hS=>by
 obtain ⟨l,u,h1,h2⟩:=hS.first
 cases I with
 | nil=>exact hne rfl
 | cons s I=>
  obtain ⟨u',h3,h4⟩:=h.first (e:=[.new q 1 (aQ s)]) (c:= .new q 1 (aQ s)) rfl rfl
  rw [h1] at h3
  injection h3 with h3
  subst h3
  have hsl:=hs s (List.mem_cons_self ..)
  obtain ⟨A,cap',rfl,_,hr⟩:=h4.newRow
  cases s with
  | nil=>simp at hsl
  | cons z s=>
   obtain ⟨b2,_,us,rfl,_,_,hl,hv,hu⟩:=hr 0 [aI z] (by simp [aQ]) rfl
   obtain ⟨w,ws,rfl,hw,_⟩:=hv.inv
   have hz:=(hu 0 _ rfl).1
   rw [hw.sc_inv] at hz
   obtain ⟨A',cap2,hA,_,_,_,ha,hx,hy⟩:=h2.imm_inv
   injection hA with hA hn _
   subst hA
   cases l with
   | nil=>simp [bF,aQ] at hn
   | cons t l=>
    obtain ⟨u2,hu2,_⟩:=hx 0 b2 0 0 rfl (by simp [bF]) (by omega)
    have h5:=hy 0 [.new q 1 (aQ t)] b2 0 0 _ u2 rfl rfl rfl hu2
    rw [Nat.zero_mul] at hz hu2
    rw [hz] at hu2
    injection hu2 with hu2
    subst hu2
    obtain ⟨_,_,e,_⟩:=h5.newRow
    cases e
theorem BJ {τ:Mem} {q:Nat→Prop} {S:Prop} {g:b8} {us vs:List Value} (h:cS τ (co q g) us) (hl:kw S us vs):∃x0 A1 n1 c1 x2 A3 n3 c3 A4 n4 c4 x5,vs=[x0,.slice A1 n1 c1,x2,.slice A3 n3 c3,.slice A4 n4 c4,x5]∧tE τ q 1 (bF q g.In) A1 n1∧tE τ q 1 (aQ g.Out) A3 n3∧tE τ q 2 (g.Calls.map dC) A4 n4:=by
 obtain ⟨u0,us,rfl,k0,h⟩:=h.inv
 obtain ⟨u1,us,rfl,k1,h⟩:=h.inv
 obtain ⟨u2,us,rfl,k2,h⟩:=h.inv
 obtain ⟨u3,us,rfl,k3,h⟩:=h.inv
 obtain ⟨u4,us,rfl,k4,h⟩:=h.inv
 obtain ⟨u5,us,rfl,k5,h⟩:=h.inv
 rw [h.nil_inv] at hl
 obtain ⟨v0,vs,rfl,l0,hl⟩:=hl.cons
 obtain ⟨v1,vs,rfl,l1,hl⟩:=hl.cons
 obtain ⟨v2,vs,rfl,l2,hl⟩:=hl.cons
 obtain ⟨v3,vs,rfl,l3,hl⟩:=hl.cons
 obtain ⟨v4,vs,rfl,l4,hl⟩:=hl.cons
 obtain ⟨v5,vs,rfl,l5,hl⟩:=hl.cons
 rw [hl.nil]
 obtain ⟨A1,n1,c1,rfl,r1⟩:=Is k1 l1
 obtain ⟨A3,n3,c3,rfl,r3⟩:=Is k3 l3
 obtain ⟨A4,n4,c4,rfl,r4⟩:=Is k4 l4
 exact ⟨_,_,_,_,_,_,_,_,_,_,_,_,rfl,r1,r3,r4⟩
theorem BX {τ:Mem} {q:Nat→Prop} {S:Prop} (hS:S) {g:b8} {us:List Value} (h:cS τ (co q g) us):kw S us [.slice none 0 0,.slice none 0 0,.slice none 0 0,.slice none 0 0,.slice none 0 0,.int .i64 0]:=by
 obtain ⟨u0,us,rfl,k0,h⟩:=h.inv
 obtain ⟨u1,us,rfl,k1,h⟩:=h.inv
 obtain ⟨u2,us,rfl,k2,h⟩:=h.inv
 obtain ⟨u3,us,rfl,k3,h⟩:=h.inv
 obtain ⟨u4,us,rfl,k4,h⟩:=h.inv
 obtain ⟨u5,us,rfl,k5,h⟩:=h.inv
 rw [h.nil_inv]
 have hi:∀{sz:Nat} {l:List (List AV)} {u:Value},VR τ (.imm sz l) u→gI S u (.slice none 0 0):=fun h=>by
  obtain ⟨A,c,e,_⟩:=h.imm_inv
  exact .inr ⟨hS,⟨_,_,_,e⟩,rfl⟩
 refine ⟨rfl,fun j v v' hv hv'=>?_⟩
 match j,hv,hv' with
 | 0,hv,hv'=>simp at hv hv';subst hv;subst hv';exact hi k0
 | 1,hv,hv'=>simp at hv hv';subst hv;subst hv';exact hi k1.newIm
 | 2,hv,hv'=>simp at hv hv';subst hv;subst hv';exact hi k2
 | 3,hv,hv'=>simp at hv hv';subst hv;subst hv';exact hi k3.newIm
 | 4,hv,hv'=>simp at hv hv';subst hv;subst hv';exact hi k4.newIm
 | 5,hv,hv'=>
  simp at hv hv';subst hv;subst hv'
  rw [k5.sc_inv]
  exact .inl ⟨_,rfl⟩
 | j+6,hv,hv'=>simp at hv
theorem BI {τ:Mem} {q:Nat→Prop} {g:aO} {us:List Value} (h:cS τ (cU q g) us):∃A c,us[1]?=some (.bool g.Ignore)∧us[2]?=some (.slice A g.Rules.length c)∧VR τ (.new q 6 (g.Rules.map (co q))) (.slice A g.Rules.length c)∧tE τ q 6 (g.Rules.map (co q)) A g.Rules.length:=by
 obtain ⟨u0,us,rfl,k0,h⟩:=h.inv
 obtain ⟨u1,us,rfl,k1,h⟩:=h.inv
 obtain ⟨u2,us,rfl,k2,h⟩:=h.inv
 obtain ⟨A,c,rfl,r⟩:=k2.newRow
 rw [Lu] at r k2
 exact ⟨A,c,by rw [k1.sc_inv];rfl,by rw [Lu];rfl,k2,r⟩
theorem EH {τ:Mem} {g:bi} {us:List Value} (h:cS τ (bI g) us):us[2]?=some (.bool g.Mark):=by
 obtain ⟨u0,us,rfl,k0,h⟩:=h.inv
 obtain ⟨u1,us,rfl,k1,h⟩:=h.inv
 obtain ⟨u2,us,rfl,k2,h⟩:=h.inv
 rw [k2.sc_inv]
 rfl
theorem GF {τ:Mem} {q:Nat→Prop} {g:List Int} {us:List Value} (h:cS τ [.new q 1 (aQ g)] us):∃A c,us[0]?=some (.slice A g.length c)∧tE τ q 1 (aQ g) A g.length:=by
 obtain ⟨u0,us,rfl,k0,h⟩:=h.inv
 obtain ⟨A,c,rfl,r⟩:=k0.newRow
 rw [aX] at r
 exact ⟨A,c,by rw [aX];rfl,r⟩
theorem zu {τ:Mem} {z:Int} {us:List Value} (h:cS τ [aI z] us):us[0]?=some (.int .i64 z):=by
 obtain ⟨u0,us,rfl,k0,h⟩:=h.inv
 rw [k0.sc_inv]
 rfl
theorem EG {τ:Mem} {z:gO} {us:List Value} (h:cS τ (dC z) us):us[1]?=some (.int .i64 z.Lookup):=by
 obtain ⟨u0,us,rfl,k0,h⟩:=h.inv
 obtain ⟨u1,us,rfl,k1,h⟩:=h.inv
 rw [k1.sc_inv]
 rfl
theorem BH {τ:Mem} {q:Nat→Prop} {f:aY} {v:Value} (h:VR τ (.agg (kB q f)) v):∃A1 c1 u2 A3 c3 u4 u5 u6 u7 u8,v= .agg (List.toArray [.int .i64 f.Unit,.slice A1 f.Glyphs.length c1,u2,.slice A3 f.Lookups.length c3,u4,u5,u6,u7,u8])∧(∀σ w,VR σ (.sc v) w→VR σ (.agg [aI f.Unit,.sc (.slice A1 f.Glyphs.length c1),.sc u2,.sc (.slice A3 f.Lookups.length c3),.sc u4,.sc u5,.sc u6,.sc u7,.sc u8]) w)∧(∀σ w,VR σ (.agg [aI f.Unit,.sc (.slice A1 f.Glyphs.length c1),.sc u2,.sc (.slice A3 f.Lookups.length c3),.sc u4,.sc u5,.sc u6,.sc u7,.sc u8]) w→VR σ (.sc v) w)∧tE τ q 9 (f.Glyphs.map bI) A1 f.Glyphs.length∧tE τ q 3 (f.Lookups.map (cU q)) A3 f.Lookups.length:=by
 obtain ⟨us,rfl,h,hu1⟩:=h.agg_inv
 obtain ⟨u0,us,rfl,k0,h⟩:=h.inv
 obtain ⟨u1,us,rfl,k1,h⟩:=h.inv
 obtain ⟨u2,us,rfl,k2,h⟩:=h.inv
 obtain ⟨u3,us,rfl,k3,h⟩:=h.inv
 obtain ⟨u4,us,rfl,k4,h⟩:=h.inv
 obtain ⟨u5,us,rfl,k5,h⟩:=h.inv
 obtain ⟨u6,us,rfl,k6,h⟩:=h.inv
 obtain ⟨u7,us,rfl,k7,h⟩:=h.inv
 obtain ⟨u8,us,rfl,k8,h⟩:=h.inv
 have e:=h.nil_inv
 subst e
 have e0:=k0.sc_inv
 subst e0
 obtain ⟨A1,c1,rfl,r1⟩:=k1.newRow
 obtain ⟨A3,c3,rfl,r3⟩:=k3.newRow
 rw [Lu] at r1 r3 hu1
 rw [Lu] at hu1
 rw [Lu,Lu]
 refine ⟨A1,c1,u2,A3,c3,u4,u5,u6,u7,u8,rfl,fun σ w hw=>?_,fun σ w hw=>?_,r1,r3⟩
 ·rw [hw.sc_inv]
  have hs:cS σ [aI f.Unit,.sc (.slice A1 f.Glyphs.length c1),.sc u2,.sc (.slice A3 f.Lookups.length c3),.sc u4,.sc u5,.sc u6,.sc u7,.sc u8] [Value.int .i64 f.Unit,.slice A1 f.Glyphs.length c1,u2,.slice A3 f.Lookups.length c3,u4,u5,u6,u7,u8]:=by
   repeat' first | exact cS.nil | refine cS.cons (.sc _) ?_
  exact .agg _ _ hs.1 hs.2 hu1
 ·obtain ⟨us,rfl,h,_⟩:=hw.agg_inv
  obtain ⟨u0,us,rfl,k0,h⟩:=h.inv
  obtain ⟨u1,us,rfl,k1,h⟩:=h.inv
  obtain ⟨u2,us,rfl,k2,h⟩:=h.inv
  obtain ⟨u3,us,rfl,k3,h⟩:=h.inv
  obtain ⟨u4,us,rfl,k4,h⟩:=h.inv
  obtain ⟨u5,us,rfl,k5,h⟩:=h.inv
  obtain ⟨u6,us,rfl,k6,h⟩:=h.inv
  obtain ⟨u7,us,rfl,k7,h⟩:=h.inv
  obtain ⟨u8,us,rfl,k8,h⟩:=h.inv
  have e:=h.nil_inv
  subst e
  rw [k0.sc_inv,k1.sc_inv,k2.sc_inv,k3.sc_inv,k4.sc_inv,k5.sc_inv,k6.sc_inv,k7.sc_inv,k8.sc_inv]
  exact .sc _
theorem BV (q:Nat→Prop) (r:b8):iS (co q r) (bV r):=⟨c6.imm (s7.map (a:=fun s=>[AV.new q 1 (aQ s)]) (b:=fun s=>[AV.imm 1 (aQ s)]) (fun _=>⟨c6.newIm,trivial⟩) r.Back),oe q _,c6.imm (s7.map (a:=fun s=>[AV.new q 1 (aQ s)]) (b:=fun s=>[AV.imm 1 (aQ s)]) (fun _=>⟨c6.newIm,trivial⟩) r.Ahead),c6.newIm,c6.newIm,c6.refl _,trivial⟩
theorem BT (q:Nat→Prop) (l:aO):iS (cU q l) (bJ l):=⟨c6.refl _,c6.refl _,c6.trans c6.newIm (c6.imm (s7.map (BV q) l.Rules)),trivial⟩
theorem BS (q:Nat→Prop) (f:aY):iS (kB q f) (cG f):=⟨c6.refl _,c6.newIm,c6.refl _,c6.trans c6.newIm (c6.imm (s7.map (BT q) f.Lookups)),c6.refl _,c6.refl _,c6.refl _,c6.refl _,c6.refl _,trivial⟩
section
variable {E:n8} (hE:mx E)
include hE
set_option maxHeartbeats 8000000 in
theorem sy (n:Int) (run:List aR) (hr:run.length≤1000000) (forms:List Int):AC Tryz.prog 18 [.iptr (eh E),aI n,.imm 6 (run.map bS),.imm 1 (aQ forms)] [ct] fun c L=>∃q,dN q (dh E.ms E.ls n run forms)∧c=ew q (dh E.ms E.ls n run forms)∧L=jF q (dh E.ms E.ls n run forms)++[ct]:=by
 refine aS Tryz.func18 rfl Tryz.ntmps18 rfl fun B=>?_
 have hll:=oD E
 have hcl:=x8 run hr
 refine W01 ?_
 refine b9 [] [ct] hcl rfl rfl (Lm _) rfl fun c L1 ⟨q,hq,hc,hL⟩=>?_
 subst hc;subst hL
 repeat' (first|fail)
 refine ci (u:= .agg [.iptr (eh E),ew q run]) (kZ a5 (by cases q <;> rfl)) rfl rfl ?_
 refine W23 ?_
 intros
 refine oQ Tryz.underlying34 rfl rfl rfl rfl ?_
 by_cases hin:0≤n∧n < E.lks.length
 ·obtain ⟨e,he⟩:∃e,E.lks[n.toNat]?=some e:=⟨_,Iy (by omega)⟩
  have heg:(E.lks.map fw)[n.toNat]?=some (fw e):=by simp [he]
  have hem:=Lw he
  refine ce [0,1,3,9] (¬(1≤e.l.Kind∧e.l.Kind≤6)) rfl (fun Q' K=>?_) (fun hC=>?_) (fun hC=>?_)
  ·repeat' (first|refine a7 ?_|refine LG a5 KZ ?_|refine LO KZ ?_|refine LP LB ?_|(apply aL;first|refine aJ a5 ?_|refine aF a5 ?_)|(apply bw;refine bn ?_)|refine LR LA (fun _=>?_) (fun _=>?_))
   all_goals exact K _ _ rfl rfl (by simp_all <;> omega)
  ·have hv:dh E.ms E.ls n run forms=run:=by
    unfold dh
    rw [if_neg (by omega),List.getElem?_map,he]
    show (if e.l.Kind < 1∨6 < e.l.Kind then run else _)=run
    rw [if_pos (by omega)]
   rw [hv]
   refine W0q ?_
   refine dc (List.sublist_cons_self ..) ?_
   exact LM KZ ⟨q,hq,rfl,rfl⟩
  ·have hC:1≤e.l.Kind∧e.l.Kind≤6:=Classical.not_not.1 hC
   have hv:dh E.ms E.ls n run forms=if e.l.Kind=5 then jL E.ms E.ls e.l forms run.length run else xS E.ms E.ls e.l forms run.length 0 run:=by
    unfold dh
    rw [if_neg (by omega),List.getElem?_map,he]
    show (if e.l.Kind < 1∨6 < e.l.Kind then run else _)=_
    rw [if_neg (by omega)]
   rw [hv]
   rename_i wb _
   have hdn:=vw hE wb e hem hC.1 hC.2 forms q run hq hr
   have hon:=H6 hE wb e hem hC.1 hC.2 forms q run hq hr
   refine W10 ?_
   refine ar rfl (fun h5=>?_) (fun h5=>?_)
   ·rw [if_pos (Lz h5)]
    refine W1q ?_
    refine fN (jo wb E q run) [] (i9.fnB (f:=38) (fs:=[eO wb]) (caps:=[]) hdn) rfl rfl (by rw [List.append_nil];exact Lm _) rfl rfl fun c L1 ⟨q',g1,g2⟩=>?_
    subst g2
    refine W0s ?_
    refine bc (aH (List.Perm.of_eq (List.append_nil _))) ?_
    refine dc (List.sublist_cons_self ..) ?_
    exact LM KZ ⟨q',g1,rfl,rfl⟩
   ·rw [if_neg (Ly h5)]
    refine W1V ?_
    refine fN (jo wb E q run) [] (i9.fnB (f:=37) (fs:=[eO wb]) (caps:=[]) hon) rfl rfl (by rw [List.append_nil];exact Lm _) rfl rfl fun c L1 ⟨q',g1,g2⟩=>?_
    subst g2
    refine W0s ?_
    refine bc (aH (List.Perm.of_eq (List.append_nil _))) ?_
    refine dc (List.sublist_cons_self ..) ?_
    exact LM KZ ⟨q',g1,rfl,rfl⟩
 ·have hv:dh E.ms E.ls n run forms=run:=by
   unfold dh
   by_cases h0:n < 0
   ·rw [if_pos h0]
   ·rw [if_neg h0,List.getElem?_eq_none (by rw [Lu];omega)]
  rw [hv]
  refine ce [0,1,3,9] True rfl (fun Q' K=>?_) (fun hC=>?_) (fun hC=>absurd trivial hC)
  ·repeat' (first|refine a7 ?_|refine LG a5 KZ ?_|refine LO KZ ?_|refine LP LB ?_|refine LR LA (fun _=>?_) (fun _=>?_))
   all_goals first | exact K _ _ rfl rfl (by simp_all <;> omega) | (exfalso;simp_all <;> omega)
  ·refine W0q ?_
   refine dc (List.sublist_cons_self ..) ?_
   exact LM KZ ⟨q,hq,rfl,rfl⟩
end
structure KB (u:AV) (ap:Int→List aR→List Int→List aR):Prop where
 ac:∀(n:Int) (run:List aR) (forms:List Int),run.length≤1000000→AC Tryz.prog 18 [u,aI n,.imm 6 (run.map bS),.imm 1 (aQ forms)] [ct] fun c L=>∃q,dN q (ap n run forms)∧c=ew q (ap n run forms)∧L=jF q (ap n run forms)++[ct]
 len:∀(n:Int) (run:List aR) (forms:List Int),run.length≤1000000→(ap n run forms).length≤1000000
theorem KE {E:n8} (hE:mx E):KB (.iptr (eh E)) (dh E.ms E.ls):=⟨fun n run forms hr=>sy hE n run hr forms,fun _ _ _ hr=>qy.big hr⟩
end Go.Proofs.YtpmdfoaadejmkaaGreatDoor
