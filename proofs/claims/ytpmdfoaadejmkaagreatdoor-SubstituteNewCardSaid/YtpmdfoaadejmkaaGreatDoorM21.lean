/-
  A row that is written, grown ahead: in a block of its own, where there is no room.
-/
import Derived.Test.YtpmdfoaadejmkaaGreatDoorM20
import Derived.Scope
import Derived.WalkSpells
namespace Go.Proofs.YtpmdfoaadejmkaaGreatDoor
open Go.RowKit
theorem lI {P:Program} (w:World) (t tn ty e:TypeId) (i:TypeInfo) (z:Value) (k kn:IntKind) (ht:P.underlying t=some (.slice e)) (htn:P.underlying tn=some (.int kn)) (hi:P.info? e=some i) (hz:i.zero=some z)
  (b:Addr) (sLen sCap:Nat) (olds:List Value) (hlo:olds.length=sLen * i.size) (holds:∀j v,olds[j]?=some v→w.cell? (b.add j)=some v)
  (n:Nat) (h0:0 < n) (hs:0 < i.size) (hg:sCap < sLen+n) (h63:((sLen+n:Nat):Int)≤9223372036854775807) (h48:n * i.bytes≤281474976710656) (hfit:Builtin.nextslicecap (sLen+n) sCap * i.bytes≤281474976710656):
  (Builtin.append_ #[t,tn] ty #[.slice (some b) sLen sCap,.int k n]).run P w=
   .ok (.slice (some ⟨w.heap.size,0,none⟩) (sLen+n) (grownCap w (sLen+n) sCap e)) (w.drew.alloc (.cells (olds.toArray++Builtin.zeroCells z.cells n++Builtin.zeroCells z.cells (grownCap w (sLen+n) sCap e - (sLen+n))) e)):=by
 have hn:n≠0:=by omega
 have hnn:¬(sLen+n≤sCap):=by omega
 have hw:IntKind.i64.wrap (n:Int)=n:=by rw [IntKind.wrap_i64];omega
 have h63':¬(9223372036854775807 < ((sLen:Int)+(n:Int))):=by omega
 have h48':¬(281474976710656 < Builtin.nextslicecap (sLen+n) sCap * i.bytes):=by omega
 have h48i:¬(281474976710656 < (n:Int) * (i.bytes:Int)):=by
  rw [←Int.natCast_mul]
  omega
 have hneg:¬((n:Int) < 0):=by omega
 have hns:¬(n * i.size=0):=Nat.mul_ne_zero hn (by omega)
 have hfo:=run_firstCells_some (P:=P) w.drew i.size sLen b sLen sCap olds hlo (by simpa using holds)
 simp [Builtin.append_,run_underlying ht,run_underlying htn,sizeOf,typeInfo,zeroValue,hi,hz,asInt,asIntOf,hw,hn,hnn,hneg,hns,h63',h48',h48i,Question.forced,hfo,newRow,grownCap]
section
variable {P:Program} {fr:cf} {B:Bs} {L:AL} {d:Option Tmp} {ty t t' tn:TypeId} {pos:String} {af:Array Edge} {g:Option (Nat×Bool)} {x y z q:Operand} {u:AV}
theorem vW (i:Nat) {e sz by_ b n cap m:Nat} {k kn:IntKind} {a:Int} {cs:List AV} {zs:List Value} (hc:lw P t e sz by_) (hs0:0 < sz) (hz:CZ P e zs) (hz1:zs.all (·.oneCell')=true) (hn':P.underlying tn=some (.int kn)) (hx:bE fr x=some (.sc (.slice (some ⟨b,0,none⟩) n cap))) (hy:bE fr y=some (.sc (.int k a))) (ha:a=(m:Int)) (h0:0 < m) (hL:L[i]?=some (b,.box cs e)) (hcl:cap * sz≤cs.length) (hn:n≤cap) (hg:cap < n+m) (h63:n+m≤maxLen) (hby:(n+m) * by_≤140737488355328):
  AO P ⟨d,.call ⟨.builtin .append,#[x,y],#[t,tn]⟩,ty,pos,af,g⟩ fr B L (fun r L'=>∃b' cs' cap',r= .sc (.slice (some ⟨b',0,none⟩) (n+m) cap')∧cap' * sz≤cs'.length∧cs'.take (n * sz)=cs.take (n * sz)∧n+m≤cap'∧cap'≤maxLen∧L'=(b',.box cs' e)::L):=by
 intro σ ρ w hρ hw
 subst ha
 have hxv:=(hρ x _ hx).sc_inv
 haveI:=hc
 obtain ⟨inf,zz,hi,hsz,rfl,hzz,hzs⟩:=hc.info
 have hzc:=hz.cells hi hzz w
 obtain ⟨o,ho,vs,rfl,hvs,h1⟩:=hw.here _ (Nw hL)
 have hl:=hvs.1
 have hnc:n * sz≤cap * sz:=Nat.mul_le_mul_right _ hn
 have hm63:=h63
 unfold maxLen at h63
 unfold j7
 have holds:∀j v,(vs.take (n * sz))[j]?=some v→w.cell? ((⟨b,0,none⟩:Addr).add j)=some v:=fun j v hj=>by
  rw [dS,Nat.zero_add,dc ho]
  have hjl:=(Np hj).1
  rw [List.length_take] at hjl
  rw [List.getElem?_take_of_lt (by omega)] at hj
  simpa using hj
 have hbm:m * inf.bytes≤(n+m) * inf.bytes:=Nat.mul_le_mul_right _ (by omega)
 have hr:=lI (P:=P) w t tn ty e inf zz k kn hc.under hn' hi hzz ⟨b,0,none⟩ n cap (vs.take (n * sz)) (by rw [hsz,List.length_take];omega) holds m h0 (by omega) hg (by omega) (by omega) (growslice_fits (by omega) hby)
 rw [show (execOp ρ ⟨d,.call ⟨.builtin .append,#[x,y],#[t,tn]⟩,ty,pos,af,g⟩).run P w= .ok (.value (.slice (some ⟨w.heap.size,0,none⟩) (n+m) (grownCap w (n+m) cap e))) (w.drew.alloc (.cells ((vs.take (n * sz)).toArray++Builtin.zeroCells zz.cells m++Builtin.zeroCells zz.cells (grownCap w (n+m) cap e - (n+m))) e)) by
  simp [execOp,resolve,hxv,(hρ y _ hy).sc_inv,invoke,builtin,hr]]
 have hge:=grownCap_ge w (n+m) cap e
 have hgm:=grownCap_le_maxLen w (n+m) cap e hm63
 have hzl:∀k,(Builtin.zeroCells zz.cells k).toList.length=k * sz:=fun k=>by rw [Array.length_toList,size_zeroCells,hzs]
 have hzm:∀k,∀v∈(Builtin.zeroCells zz.cells k).toList,v.oneCell'=true:=fun k v hv=>by
  have:=fw hv
  rw [hzc] at this
  exact List.all_eq_true.1 hz1 v (by simpa using this)
 generalize grownCap w (n+m) cap e=cap' at *
 have hmc:cap' * sz=n * sz+(m * sz+(cap' - (n+m)) * sz):=by rw [←Nat.add_mul,←Nat.add_mul];congr 1;omega
 have hzl':=hzl (cap' - (n+m))
 have hzm':=hzm (cap' - (n+m))
 have hzl2:=hzl m
 have hzm2:=hzm m
 generalize Builtin.zeroCells zz.cells (cap' - (n+m))=zc at *
 generalize Builtin.zeroCells zz.cells m=zd at *
 refine ⟨σ,.sc _,_,cF.le_refl _,.sc _,(hw.drew _).alloc _ (.box (cs.take (n * sz)++zd.toList.map AV.sc++zc.toList.map AV.sc) e) ⟨vs.take (n * sz)++zd.toList++zc.toList,by simp,ec (ec (gF hvs _) (n6 _)) (n6 _),fun u hu=>?_⟩,w.heap.size,_,cap',rfl,?_,?_,hge,hgm,rfl⟩
 ·rcases Nm hu with hu | hu
  ·rcases Nm hu with hu | hu
   ·exact h1 _ (List.mem_of_mem_take hu)
   ·exact hzm2 u hu
  ·exact hzm' u hu
 ·simp only [List.length_append,Nu,hzl',hzl2,List.length_take];omega
 ·rw [List.append_assoc,List.take_append_of_le_length (by simp;omega),List.take_of_length_le (by simp;omega)]
end
section
variable {P:Program} {tt:TT} {r:Option Nat} {ops:Array Oper} {Q:Exit→Act→World→Prop} {nt:Nat} {D:List Deferred} {fr:cf} {B:Bs} {L:AL} {rest:List Oper} {d:Nat} {ty t t' tn:TypeId} {pos:String} {af:Array Edge} {x y z:Operand} {u:AV}
theorem yY (ok:eF P tt) (i m:Nat) {e sz by_ b n cap:Nat} {k kn:IntKind} {a:Int} {cs:List AV} {zs:List Value} (ht:jP tt t=some (e,sz,by_)) (hz:zI tt e=some zs) (hz1:zs.all (·.oneCell')=true) (hn':P.underlying tn=some (.int kn)) (hx:bE fr x=some (.sc (.slice (some ⟨b,0,none⟩) n cap))) (hy:bE fr y=some (.sc (.int k a))) (ha:a=(m:Int)) (h0:0 < m) (hL:L[i]?=some (b,.box cs e)) (hcl:cap * sz≤cs.length) (hn:n≤cap) (hg:cap < n+m) (h63:n+m≤maxLen) (hby:(n+m) * by_≤140737488355328) (hd:Nat.ble nt d=false)
  (h:∀b' cs' cap',cap' * sz≤cs'.length→cs'.take (n * sz)=cs.take (n * sz)→n+m≤cap'→cap'≤maxLen→bP P r ops Q nt D rest ((d,.sc (.slice (some ⟨b',0,none⟩) (n+m) cap'))::fr) B ((b',.box cs' e)::L)):
  bP P r ops Q nt D (⟨some d,.call ⟨.builtin .append,#[x,y],#[t,tn]⟩,ty,pos,af,none⟩::rest) fr B L:=
 cT hd rfl (vW i (bB ok ht).1 (bB ok ht).2 (dX ok hz) hz1 hn' hx hy ha h0 hL hcl hn hg h63 hby) fun c L' ⟨b',cs',cap',h1,h2,h3,h4,h5,h7⟩=>by subst h1;subst h7;exact h b' cs' cap' h2 h3 h4 h5
theorem K2 (ok:eF P tt) (lo hi:Nat) {e sz by_ b n cap:Nat} {k k2:IntKind} {a a2:Int} {q:Operand} (ht:jP tt t=some (e,sz,by_)) (hx:bE fr x=some (.sc (.slice (some ⟨b,0,none⟩) n cap))) (hq:bE fr q=some (.sc (.int k2 a2))) (ha2:a2=(lo:Int)) (hy:bE fr y=some (.sc (.int k a))) (ha:a=(hi:Int)) (h0:lo < hi) (h1:hi≤cap) (hd:Nat.ble nt d=false) (h:bP P r ops Q nt D rest ((d,.sc (.slice (some ⟨b,lo * sz,none⟩) (hi - lo) (cap - lo)))::fr) B L):
  bP P r ops Q nt D (⟨some d,.slice t x (some q) (some y) none,ty,pos,af,none⟩::rest) fr B L:=by
 refine cr (fun σ ρ w hρ _=>?_) hd rfl h
 haveI:=(bB ok ht).1
 subst ha;subst ha2
 have e6:¬(cap - lo=0):=by omega
 have e7:¬(cap=lo):=by omega
 have e8:lo≤hi:=by omega
 refine ⟨_,?_,.sc _⟩
 simp [execOp,(hρ x _ hx).sc_inv,(hρ y _ hy).sc_inv,(hρ q _ hq).sc_inv,Instr.sliceAt,Instr.slice,Instr.sliceBounds,Instr.sliceBound,asIntOf,run_underlying (bB ok ht).1.under,df (t:=t),e6,e7,e8,h1,dS]
theorem K3 (ok:eF P tt) (lo hi m:Nat) {e sz by_ b n cap:Nat} {k k' k2:IntKind} {a a' a2:Int} {q:Operand} (ht:jP tt t=some (e,sz,by_)) (hx:bE fr x=some (.sc (.slice (some ⟨b,0,none⟩) n cap))) (hq:bE fr q=some (.sc (.int k2 a2))) (ha2:a2=(lo:Int)) (hy:bE fr y=some (.sc (.int k a))) (ha:a=(hi:Int)) (hz:bE fr z=some (.sc (.int k' a'))) (ha':a'=(m:Int)) (h0:lo < hi) (h1:hi≤m) (h2:m≤cap) (hd:Nat.ble nt d=false) (h:bP P r ops Q nt D rest ((d,.sc (.slice (some ⟨b,lo * sz,none⟩) (hi - lo) (m - lo)))::fr) B L):
  bP P r ops Q nt D (⟨some d,.slice t x (some q) (some y) (some z),ty,pos,af,none⟩::rest) fr B L:=by
 refine cr (fun σ ρ w hρ _=>?_) hd rfl h
 haveI:=(bB ok ht).1
 subst ha;subst ha';subst ha2
 have e4:¬(cap < m):=by omega
 have e6:¬(m - lo=0):=by omega
 have e7:¬(m=lo):=by omega
 have e8:lo≤hi:=by omega
 refine ⟨_,?_,.sc _⟩
 simp [execOp,(hρ x _ hx).sc_inv,(hρ y _ hy).sc_inv,(hρ z _ hz).sc_inv,(hρ q _ hq).sc_inv,Instr.sliceAt,Instr.slice,Instr.sliceBounds,Instr.sliceBound,asIntOf,run_underlying (bB ok ht).1.under,df (t:=t),e4,e6,e7,e8,h1,h2,dS]
end
theorem GV {P:Program} {fr:cf} {t ty:TypeId} {x y:Operand} {pos:String} {af:Array Edge} {g:Option (Nat×Bool)} {dd:Option Tmp} {e sz by_ b n cap lo:Nat} {k:IntKind} {a:Int} (hc:lw P t e sz by_) (hx:bE fr x=some (.sc (.slice (some ⟨b,0,none⟩) n cap))) (hy:bE fr y=some (.sc (.int k a))) (ha:a=(lo:Int)) (h:lo≤n) (hn:n≤cap):Av P ⟨dd,.slice t x (some y) none none,ty,pos,af,g⟩ fr (.sc (.slice (some ⟨b,if cap=lo then 0 else lo * sz,none⟩) (n - lo) (cap - lo))):=by
 intro σ ρ w hρ _
 subst ha
 haveI:=hc
 refine ⟨_,?_,.sc _⟩
 by_cases h3:cap=lo
 ·have:n=lo:=by omega
  subst h3;subst this
  simp [execOp,(hρ x _ hx).sc_inv,(hρ y _ hy).sc_inv,Instr.sliceAt,Instr.slice,Instr.sliceBounds,Instr.sliceBound,asIntOf,run_underlying hc.under,df (t:=t)]
 ·simp [execOp,(hρ x _ hx).sc_inv,(hρ y _ hy).sc_inv,Instr.sliceAt,Instr.slice,Instr.sliceBounds,Instr.sliceBound,asIntOf,run_underlying hc.under,df (t:=t),h,h3,dS]
section
variable {P:Program} {tt:TT} {l:List Oper} {fr:cf} {fin:jR} {sk:n7} {acc:cf} {L:AL} {k:Nat} {dd:Option Tmp} {ty t:TypeId} {pos:String} {af:Array Edge} {g:Option (Nat×Bool)} {x y:Operand}
theorem Hh (ok:eF P tt) (hi:Nat) {e sz by_ b off n cap:Nat} {q:IntKind} {a:Int} (ht:jP tt t=some (e,sz,by_)) (hx:bE (cK l.toArray acc fr af.toList) x=some (.sc (.slice (some ⟨b,off,none⟩) n cap))) (hy:bE (cK l.toArray acc fr af.toList) y=some (.sc (.int q a))) (ha:a=(hi:Int)) (h1:hi≤cap) (hg:jh ⟨dd,.slice t x none (some y) none,ty,pos,af,g⟩ acc) (h:DA P l fr fin sk ((k,.sc (.slice (some ⟨b,off,none⟩) hi cap))::acc) L):cG P l fr fin k .v ⟨dd,.slice t x none (some y) none,ty,pos,af,g⟩ sk acc L:=fA hg (AK (zX (bB ok ht).1 hx hy ha h1)) h
theorem Ah (ok:eF P tt) (lo:Nat) {e sz by_ b n cap:Nat} {q:IntKind} {a:Int} (ht:jP tt t=some (e,sz,by_)) (hx:bE (cK l.toArray acc fr af.toList) x=some (.sc (.slice (some ⟨b,0,none⟩) n cap))) (hy:bE (cK l.toArray acc fr af.toList) y=some (.sc (.int q a))) (ha:a=(lo:Int)) (h1:lo≤n) (hn:n≤cap) (hg:jh ⟨dd,.slice t x (some y) none none,ty,pos,af,g⟩ acc) (h:DA P l fr fin sk ((k,.sc (.slice (some ⟨b,if cap=lo then 0 else lo * sz,none⟩) (n - lo) (cap - lo)))::acc) L):cG P l fr fin k .v ⟨dd,.slice t x (some y) none none,ty,pos,af,g⟩ sk acc L:=fA hg (AK (GV (bB ok ht).1 hx hy ha h1 hn)) h
end
section
variable {P:Program} {tt:TT} {l:List Oper} {fr:cf} {fin:jR} {sk:n7} {acc:cf} {L:AL} {k:Nat} {dd:Option Tmp} {ty t:TypeId} {pos:String} {af:Array Edge} {g:Option (Nat×Bool)} {x y:Operand} {u:AV}
theorem EC (ok:eF P tt) (i:Nat) {b q n:Nat} {cs ys:List AV} {e:TypeId} (ht:Ky tt t=some n) (hx:bE (cK l.toArray acc fr af.toList) x=some (.sc (.pointer (some ⟨b,q,none⟩)))) (hy:bE (cK l.toArray acc fr af.toList) y=some u) (hu:u.cells=some ys) (hL:L[i]?=some (b,.box cs e)) (hn:Nat.beq ys.length n=true) (hk:Nat.ble (q+n) cs.length=true) (hK:fm fin.gs (fx L i (.box (fS cs q ys) e))) (hg:jh ⟨dd,.store t x y,ty,pos,af,g⟩ acc) (h:∀c,DA P l fr fin sk ((k,c)::acc) (fx L i (.box (fS cs q ys) e))):
  cG P l fr fin k .f ⟨dd,.store t x y,ty,pos,af,g⟩ sk acc L:=uI (fun c L' h1 _=>by subst h1;exact hK) hg (fun _=>o6 i (oX ok ht) hx hy hu hL hn hk) fun c L' h1=>by subst h1;exact h c
end
theorem oC {q:Nat×Nat×AV} {L:AL} (i:Nat) {cs:List AV} {e:TypeId} (hL:L[i]?=some (q.1,.box cs e)) (hc:cs[q.2.1]?=some q.2.2):fm [.cell q] L:=fun p hp=>by
 rw [List.mem_singleton] at hp
 subst hp
 exact ⟨cs,e,Nw hL,hc⟩
section
variable {P:Program} {b:Frame} {a:Act} {k:List Item} {cs:List Frame} {w:World} {Q:Exit→Act→World→Prop} {F:Fence} {n:Nat}
theorem gR {c:Code}:step P (lone (b.atR a (.code (.scope c)::k)) cs w)= .next (lone (b.atR a (.code c:: .inScope c::k)) cs w):=
 step_lone_go (by simp [stepG,stepG.exec,Frame.atR])
theorem tc {c:Code}:step P (lone (b.atR a (.inScope c::k)) cs w)= .next (lone (b.atR a k) cs w):=
 step_lone_go (by simp [stepG,stepG.exec,Frame.atR])
theorem zR {c:Code} (h:c.wpIn F n P (Exit.noGoto Q) a w):(Code.scope c).wpIn F n P Q a w:=by
 intro b k cs hro hb hr
 have h0:(lone (b.atR a (.code (.scope c)::k)) cs w).fenced P F:=fenced_calm hb hr rfl
 obtain ⟨e,a₁,w₁,hq,harr⟩:=h b (.inScope c::k) cs hro hb hr
 cases e with
 | normal=>exact ⟨.normal,a₁,w₁,hq,.head h0 gR (StepsIn.trans harr (.one (fenced_calm hb hr rfl) tc))⟩
 | exit id=>
  have hx:exitTo id (.inScope c::k)=exitTo id k:=by simp [exitTo]
  exact ⟨.exit id,a₁,w₁,hq,fun k' hk=> .head h0 gR (harr.1 k' (by rw [hx];exact hk)),
   fun hr' hk=>let ⟨k₁,h1,h2⟩:=harr.2 hr' (by rw [hx];exact hk);⟨k₁,h1,.head h0 gR h2⟩⟩
 | goto l=>exact hq.elim
 | ret=>exact ⟨_,a₁,w₁,hq,.of_steps (.one h0 gR) harr⟩
 | panic ch=>exact ⟨_,a₁,w₁,hq,.of_steps (.one h0 gR) harr⟩
 | outgrown=>exact ⟨_,a₁,w₁,hq,.of_steps (.one h0 gR) harr⟩
end
section
variable {P:Program} {r:Option Nat} {Q:Exit→Act→World→Prop} {nt:Nat} {D:List Deferred} {fr:cf} {B:Bs} {L:AL}
theorem E8 {c:Code} (h:AT P r c (Exit.noGoto Q) nt D fr B L):AT P r (.scope c) Q nt D fr B L:=fun σ a w ha hw=>zR (h σ a w ha hw)
theorem JG (h:AX P .normal Q nt D fr B L):AX P .normal (Exit.noGoto Q) nt D fr B L:=fun σ a w ha hw=>h σ a w ha hw
end
section
variable {nt:Nat} {fr:cf} {B:Bs} {L:AL} {D:List Deferred}
theorem mz {t b e sz n cap:Nat} {cs:List AV} {l:List (List AV)} (i:Nat) (hl:cB fr t=some (.sc (.slice (some ⟨b,0,none⟩) n cap))) (hL:L[i]?=some (b,.box cs e)) (hc:cs.take (n * sz)=l.flatten) (hcl:n * sz≤cs.length) (hs:∀q∈l,q.length=sz) (hn:l.length=n) (hnc:n≤cap) (hm:cap≤maxLen):lP nt D B fr L ((t,.imm sz l)::fr) (L.eraseIdx i):=by
 intro σ a w ha hw0
 have hw:=hw0.perm (fq hL)
 obtain ⟨o,ho,vs,rfl,hvs,h1⟩:=hw.here _ (List.mem_cons_self ..)
 have hfree:=hw.free _ (List.mem_cons_self ..)
 have hvl:vs.length=cs.length:=hvs.1.symm
 have hst:dw B σ ((b,.vec e cs.length 0 1)::L.eraseIdx i) w:=by
  refine ⟨hw.os,hw.tape,hw.output,hw.size,hw.old,fun p hp=>?_,fun p hp=>?_,by simpa using hw.apart,hw.froz,fun p hp off hm=>?_,hw.grow,hw.same⟩
  ·rcases List.mem_cons.1 hp with rfl | hp'
   ·exact ⟨_,ho,_,rfl,by simp [hvl],Nat.zero_le _,by unfold maxLen;omega⟩
   ·exact hw.here p (Nt _ hp')
  ·rcases List.mem_cons.1 hp with rfl | hp'
   ·exact hw.mine (b,.box cs e) (List.mem_cons_self ..)
   ·exact hw.mine p (Nt _ hp')
  ·rcases List.mem_cons.1 hp with rfl | hp'
   ·exact hfree off trivial
   ·exact hw.free p (Nt _ hp') off hm
 obtain ⟨hst',hle⟩:=hst.freezeHead (n':=1) (xs:=vs) (fun j u hj=>by rw [dc ho];simpa using hj) (by omega) (Nat.zero_le _) (Nat.le_refl _)
 have hv:VR (σ.add b vs) (.vec (some (b,cap)) sz l) (.slice (some ⟨b,0,none⟩) n cap):=by
  have:=mA (σ:=σ.add b vs) (b:=b) (cap:=cap) hs (by rw [←hc];exact (gF hvs _).mono hle) (fun u hu=>h1 u (List.mem_of_mem_take hu)) (by omega) hm (fun j u hj=>cF.add_at (by
   rw [List.getElem?_take] at hj
   split at hj
   ·exact hj
   ·cases hj))
  rwa [hn] at this
 refine ⟨_,?_,hst'.sublist (.cons _ (List.Sublist.refl _))⟩
 have ha':=ha.mono hle
 refine ⟨ha'.size,ha'.defers,fun t' v' hl'=>?_⟩
 rw [cJ] at hl'
 by_cases e:t=t'
 ·subst e
  simp only [if_true,Option.some.injEq] at hl'
  subst hl'
  rw [(ha.look t _ hl).sc_inv]
  exact hv.im
 ·rw [if_neg e] at hl'
  exact ha'.look t' v' hl'
end
def kQ (P:Program) (u:AV) (args:List AV) (L:AL) (Post:AV→AL→Prop):Prop:=(∃f caps,bS P f∧lG u=some (f,caps)∧AC P f (args++caps) L Post)∨∃f fs caps,bS P f∧u= .fnB f fs caps∧AC P f (fs++(args++caps)) L Post
theorem kQ.fn {P:Program} {f:FuncId} {caps args:List AV} {L:AL} {Post:AV→AL→Prop} [h:bS P f] (k:AC P f (args++caps) L Post):kQ P (.fn f caps) args L Post:= .inl ⟨f,caps,h,rfl,k⟩
theorem kQ.fn0 {P:Program} {f:FuncId} {args:List AV} {L:AL} {Post:AV→AL→Prop} [h:bS P f] (k:AC P f (args++[]) L Post):kQ P (.sc (.func (.func f) #[] #[])) args L Post:= .inl ⟨f,[],h,rfl,k⟩
theorem kQ.fnB {P:Program} {f:FuncId} {fs caps args:List AV} {L:AL} {Post:AV→AL→Prop} [h:bS P f] (k:AC P f (fs++(args++caps)) L Post):kQ P (.fnB f fs caps) args L Post:= .inr ⟨f,fs,caps,h,rfl,k⟩
def MN (u:AV):Bool:=match u with
 | .fn _ _=>true
 | .fnB _ _ _=>true
 | .sc _=>true
 | _=>false
section
variable {P:Program} {r:Option Nat} {ops:Array Oper} {Q:Exit→Act→World→Prop} {nt:Nat} {D:List Deferred} {fr:cf} {B:Bs} {L:AL} {rest:List Oper} {d:Nat} {ty t:TypeId} {pos:String} {af:Array Edge} {x y z:Operand} {u:AV} {g:Option (Nat×Bool)}
theorem E0 (Lc Lf:AL) {d:Option Tmp} {f:FuncId} {args:Array Operand} {ts:Array TypeId} {cs fs caps:List AV} {Post:AV→AL→Prop} [hf:bS P f] (hx:bE fr x=some (.fnB f fs caps)) (hv:eP fr args.toList=some cs) (hL:L.Perm (Lc++Lf)) (h:AC P f (fs++(cs++caps)) Lc Post):
  AO P ⟨d,.call ⟨.value x,args,ts⟩,ty,pos,af,g⟩ fr B L (fun c L'=>∃L1,Post c L1∧L'=L1++Lf):=by
 intro σ ρ w hρ hw0
 have hw:=hw0.perm hL
 obtain ⟨qs,ws,hw1,hw0',hw2⟩:=(hρ x _ hx).fnB_inv
 have hvs:=fL hρ _ _ hv
 have e:args.map ρ=(args.toList.map ρ).toArray:=by apply Array.toList_inj.1;simp
 unfold j7
 rw [show (execOp ρ ⟨d,.call ⟨.value x,args,ts⟩,ty,pos,af,g⟩).run P w= .ok (.enter f (qs++(args.toList.map ρ++ws)).toArray) w by
  simp [execOp,resolve,hw1,Deferred.ofValue,invoke,hf.enters]]
 have happ:∀{ps bs:List AV} {us vs:List Value},dI σ ps us→dI σ bs vs→dI σ (ps++bs) (us++vs):=by
  intro ps bs us vs ha hb
  refine ⟨by rw [List.length_append,List.length_append,ha.1,hb.1],fun i c u hc hu=>?_⟩
  have hq:=ha.1
  by_cases hi:i < ps.length
  ·rw [List.getElem?_append_left hi] at hc
   rw [List.getElem?_append_left (by omega)] at hu
   exact ha.2 i c u hc hu
  ·rw [List.getElem?_append_right (by omega)] at hc
   rw [List.getElem?_append_right (by omega),←hq] at hu
   exact hb.2 _ c u hc hu
 have hall:=happ hw0' (happ hvs hw2)
 refine (h σ w _ hall hw.enter).mono fun en w' ⟨v,τ,c,L',h1,h2,h3,h4⟩=>⟨v,h1,τ,c,L'++Lf,h3.grow,h2,hw.leave h3,L',h4,rfl⟩
theorem jZ {args:Array Operand} {ts:Array TypeId} {cs:List AV} {Post:AV→AL→Prop} (Lc Lf:AL) (hc:kQ P u cs Lc Post) (hx:bE fr x=some u) (hv:eP fr args.toList=some cs) (hL:L.Perm (Lc++Lf)) (hn:Oper.noDefer ⟨some d,.call ⟨.value x,args,ts⟩,ty,pos,af,none⟩=true) (hd:Nat.ble nt d=false) (h:∀c L1,Post c L1→bP P r ops Q nt D rest ((d,c)::fr) B (L1++Lf)):
  bP P r ops Q nt D (⟨some d,.call ⟨.value x,args,ts⟩,ty,pos,af,none⟩::rest) fr B L:=by
 rcases hc with ⟨f,caps,hf,hu,hc⟩ | ⟨f,fs,caps,hf,rfl,hc⟩
 ·exact cT hd hn (vX Lc Lf hx hu hv hL hc) fun c L' ⟨L1,h1,h2⟩=>by subst h2;exact h c L1 h1
 ·exact cT hd hn (E0 Lc Lf hx hv hL hc) fun c L' ⟨L1,h1,h2⟩=>by subst h2;exact h c L1 h1
end
section
variable {P:Program} {tt:TT} {r:Option Nat} {ops:Array Oper} {Q:Exit→Act→World→Prop} {nt:Nat} {D:List Deferred} {fr:cf} {B:Bs} {L:AL} {rest:List Oper} {d:Nat} {ty t t':TypeId} {pos:String} {af:Array Edge} {x y z:Operand} {u:AV} {g:Option (Nat×Bool)}
theorem E2 {dd:Option Tmp} {e sz by_ s:Nat} {l:List (List AV)} (hc:lw P t e sz by_) (hx:bE fr x=some u) (hu:u.im= .imm s l) (hy:bE fr y=some (.sc (.slice none 0 0))):
  AO P ⟨dd,.binOp .eql t x y t',ty,pos,af,g⟩ fr B L (fun c L'=>∃b,c= .sc (.bool b)∧(b=true→l=[])∧L'=L):=by
 intro σ ρ w hρ hw
 have hxv:=(hρ x u hx).im
 rw [hu] at hxv
 have hyv:=(hρ y _ hy).sc_inv
 have key:∀v,VR σ (.imm s l) v→∃A cap,v= .slice A l.length cap∧(l≠[]→∃b off,A=some ⟨b,off,none⟩):=by
  intro v hv
  cases hv with
  | imm sz l A cap h1 h2 h3 ha hx2 h4=>exact ⟨A,cap,rfl,ha⟩
 obtain ⟨A,cap,hval,ha⟩:=key _ hxv
 ·have hrun:=Lib.run_eql_slice_nil (P:=P) w t e A l.length cap 0 0 hc.under
  unfold j7
  rw [show (execOp ρ ⟨dd,.binOp .eql t x y t',ty,pos,af,g⟩).run P w= .ok (.value (.bool A.isNone)) w by
   simp [execOp,hval,hyv,eqGuard,hrun]]
  refine ⟨σ,.sc _,L,cF.le_refl σ,.sc _,hw,A.isNone,rfl,fun h=>?_,rfl⟩
  cases A with
  | none=>exact Decidable.byContradiction fun hn=>by obtain ⟨b,o,hh⟩:=ha hn;cases hh
  | some a=>cases h
theorem v8 (ok:eF P tt) {e sz by_ s:Nat} {l:List (List AV)} (ht:jP tt t=some (e,sz,by_)) (hx:bE fr x=some u) (hu:j2 u=some (s,l)) (hy:bE fr y=some (.sc (.slice none 0 0))) (hd:Nat.ble nt d=false) (h:∀b,(b=true→l=[])→bP P r ops Q nt D rest ((d,.sc (.bool b))::fr) B L):
  bP P r ops Q nt D (⟨some d,.binOp .eql t x y t',ty,pos,af,none⟩::rest) fr B L:=
 cT hd rfl (E2 (bB ok ht).1 hx (d4 hu) hy) fun c L' ⟨b,h1,h2,h3⟩=>by subst h1;subst h3;exact h b h2
end
section
variable {P:Program} {nt:Nat} {fr:cf} {B:Bs} {L L':AL}
theorem gG (L':AL) {fn:Func} {Post:AV→AL→Prop} {cs:List AV} (hr:sC P fr L fn.results.toList cs) (hs:L'.Sublist L) (h:Post (x3 cs) L'):AX P .ret (bodyPost P fn (ki B Post)) nt [] fr B L:=by
 intro σ a w ha hw
 obtain ⟨v,h1,h2⟩:=mx ha hw hr
 exact ⟨ha.defers,v,h1,v,σ,x3 cs,L',rfl,h2,hw.sublist hs,h⟩
end
section
attribute [local irreducible] AT bP AX AO Av Kt bb dh DA cG
structure KG where
 i:Nat
 all:List sX
 qa:Option (Nat×Nat)
 rows:List (List Int)
 qr:Option (Nat×Nat)
 ends:List (List AV)
 qe:Option (Nat×Nat)
def Ed (s:KG):AL:=tok s.qa 241 2 s.all.length++(tok s.qr 22 1 s.rows.length++tok s.qe 246 1 s.ends.length)
theorem LY (a b c:AL):(a++(b++c)).Perm (b++(a++c)):=by
 have h:=(List.perm_append_comm (l₁:=a) (l₂:=b)).append_right c
 rwa [List.append_assoc,List.append_assoc] at h
theorem MP (a b c:AL):(a++(b++c)).Perm (c++(a++b)):=by
 have h:=List.perm_append_comm (l₁:=a++b) (l₂:=c)
 rwa [List.append_assoc] at h
theorem zq (l:List (List Int)) (r:List Int):b6 l++[[AV.imm 1 (aW r)]]=b6 (l++[r]):=by simp [b6]
set_option maxHeartbeats 16000000 in
theorem qM (l:aY) (hl:jU l) (back:Bool) (gs:List Int) (hg:gs.length≤65536):AC Tryz.prog 86 [.agg (br l),dy back,.imm 1 (aW gs)] [] fun c _=>∃a b,c= .tup [.imm 1 a,.imm 1 b,dy true]:=by
 refine aV Tryz.func86 rfl Tryz.ntmps86 rfl fun B=>?_
 have hgl:=aJ gs
 haveI a1:AD Tryz.prog 167 [.agg (br l),dy back] (.agg (nY (0,eU back l.Rules l.Rules.length))):=⟨wq l hl back⟩
 repeat' (first|refine Ng ?_|refine ak ?_|refine NG a5 IG ?_|refine bq ?_|refine fR (d:=20) a5 fun _=>?_|refine fR (n:=0) a5 fun _=>?_|(apply bA;refine bw ?_)|fail)
 rename_i xa xr xe
 have hSt:=lL.start back l.Rules
 have hrowL:=hl.row back
 refine bU (aQ (L':=Ed ⟨0,[(0,eU back l.Rules l.Rules.length)],some (xa,1),[],some (xr,0),[],some (xe,0)⟩) (List.reverse_perm _).symm) ?_
 refine aM [1,2,3] (α:=KG) (fun s=>[(12,aK s.i),(9,.vec s.qa 2 (s.all.map nY)),(10,.vec s.qr 1 (b6 s.rows)),(11,.vec s.qe 1 s.ends)]) (fun s=>s.i≤s.all.length∧lL back l.Rules s.all∧s.rows.length≤s.i∧s.ends.length≤s.i∧∀q∈s.ends,q.length=1) Ed (fun s=>13000 - s.i) ⟨0,[(0,eU back l.Rules l.Rules.length)],some (xa,1),[],some (xr,0),[],some (xe,0)⟩ rfl ⟨rfl,rfl,rfl,rfl,trivial⟩ ⟨Nat.zero_le _,hSt,Nat.zero_le _,Nat.zero_le _,fun q hq=>by cases hq⟩ (fun _ _ h=>h) ?_
 rintro ⟨i,all,qa,rows,qr,ends,qe⟩ ⟨hi,hA,hr,he,he1⟩
 dsimp only at hi hA hr he he1 ⊢
 have hal:=hA.few hl.1
 have hml:(all.map nY).length=all.length:=Nu ..
 have hrl:=bO rows
 try dsimp only [Ns,Nr,Nq,Nk]
 refine W01 ?_
 refine aj rfl (fun h=>?_) (fun h=>?_)
 ·have hil:i < all.length:=by have:=Ny h;omega
  obtain ⟨st,hst⟩:∃z,all[i]?=some z:=⟨_,Nz hil⟩
  clear h
  refine W19 ?_
  intros
  rename_i xw
  refine bU (aQ (L':=tok (some (xw,0)) 3 1 0++Ed ⟨i,all,qa,rows,qr,ends,qe⟩) (Nn _)) ?_
  refine aM [1,2,3,10,11,12] (α:=Nat×(List Int×Option (Nat×Nat))×List sX×Option (Nat×Nat)) (fun s=>[(14,aK s.1),(13,.vec s.2.1.2 1 (aW s.2.1.1)),(9,.vec s.2.2.2 2 (s.2.2.1.map nY))]) (fun s=>s.1≤gs.length∧s.2.1.1.length≤s.1∧lL back l.Rules s.2.2.1∧s.2.2.1[i]?=some st) (fun s=>tok s.2.1.2 3 1 s.2.1.1.length++Ed ⟨i,s.2.2.1,s.2.2.2,rows,qr,ends,qe⟩) (fun s=>gs.length - s.1) (0,([],some (xw,0)),all,qa) rfl ⟨rfl,rfl,rfl,trivial⟩ ⟨Nat.zero_le _,Nat.zero_le _,hA,hst⟩ (fun _ _ h=>h) ?_
  clear hA hal hml hst hi hil
  rintro ⟨c,⟨eK,qw⟩,al,qb⟩ ⟨hc,hw,hA,hst⟩
  dsimp only at hc hw hA hst ⊢
  have hal:=hA.few hl.1
  have hml:(al.map nY).length=al.length:=Nu ..
  have hwl:=aJ eK
  have hil:=(Np hst).1
  have hstg:=bG (c:=nY) hst
  have hm:=hA.met st (Nw hst)
  have hs:=hA.sub st (Nw hst)
  obtain ⟨m,R⟩:=st
  dsimp only at hm hs
  try dsimp only [Ns,Nr,Nq,Nk]
  refine W01 ?_
  refine aj rfl (fun h=>?_) (fun h=>?_)
  ·have hcl:c < gs.length:=by have:=Ny h;omega
   obtain ⟨g,hg2⟩:∃z,gs[c]?=some z:=⟨_,Nz hcl⟩
   have hgg:=bK hg2
   haveI a2:AD Tryz.prog 168 [.agg (br l),dy back,.agg (nY (m,R)),aK g] (.agg (nY (m+1,cL back l.Rules m g R))):=⟨uE l hl back m R (by omega) hs g⟩
   clear h
   refine W0n ?_
   refine bv 12 [(0,.v),(1,.v),(2,.v),(3,.v),(4,.v),(5,.v),(6,.v),(7,.v),(8,.v),(9,.v),(10,.v)] (some (11,.box _ 241)) ?_ ⟨_,rfl,rfl,fun _ _ _=>kq (dX a5 rfl) rfl⟩ rfl (by kernel_rfl) (by kernel_rfl) (by kernel_rfl) bQ (by kernel_rfl) rfl
   refine W14 ?_
   refine r7 [1,2,3,9,10,11,12,13,14,15,46] (fun _=>_) (fun _=>rfl) rfl fun _=>?_
   rename_i sb
   refine aL (aQ (L':=(sb,.box [aK 0,.sc (.slice none 0 0)] 241)::(tok qw 3 1 eK.length++Ed ⟨i,al,qb,rows,qr,ends,qe⟩)) (List.perm_append_comm (l₂:=[_]))) ?_
   repeat' (first|refine Ng ?_|refine NG a5 IG ?_|(apply aI;first|refine NI 15 a5 0 NF ?_|refine NI 15 a5 1 NF ?_|refine NI 15 a5 2 NF ?_|refine NH a5 0 NE ?_|refine NH a5 1 NE ?_|refine NH a5 2 NE ?_|refine NH a5 3 NE ?_|fail))
   refine o7 (α:=Int×List sX×Option (Nat×Nat)) [1,2,3,9,10,11,12,13,14,16] (fun x=>[(1,dy back),(2,.imm 1 (aW gs)),(3,.iptr (br l)),(9,.vec x.2.2 2 (x.2.1.map nY)),(10,.vec qr 1 (b6 rows)),(11,.vec qe 1 ends),(12,aK i),(13,.vec qw 1 (aW eK)),(14,aK c),(16,aK x.1)]) (fun x=>tok qw 3 1 eK.length++Ed ⟨i,x.2.1,x.2.2,rows,qr,ends,qe⟩) (fun x=>lL back l.Rules x.2.1∧x.2.1[i]?=some (m,R)) (fun Q' K=>?_) fun ⟨z,al2,qb2⟩ ⟨hA2,hst2⟩=>?_
   ·refine aj rfl (fun h=>?_) (fun h=>?_)
    ·have hne:cL back l.Rules m g R≠[]:=by
      intro e
      have h:=Ny h
      dsimp only at h
      rw [e] at h
      exact absurd h (by decide)
     haveI a3:AD Tryz.prog 169 [.imm 2 (al.map nY),.agg (nY (m+1,cL back l.Rules m g R))] (aK (ot al (m+1,cL back l.Rules m g R))):=⟨yo al (by omega) (m+1) (cL back l.Rules m g R)⟩
     clear h
     refine W0e ?_
     refine aj rfl (fun h=>?_) (fun h=>?_)
     ·have hnew:=C7 (Ny h)
      have hA3:=hA.add hrowL (Nw hst) hne hnew
      clear h
      refine W0g ?_
      refine NS a5 (tok qw 3 1 eK.length++(tok qr 22 1 rows.length++tok qe 246 1 ends.length)) NB (by rw [hml];exact LY _ _ _) (by rw [hml];simp;omega) (by rw [hml];simp;omega) rfl fun q'=>?_
      rw [show al.map nY++[[AV.sc (.int .i64 ((((m+1,cL back l.Rules m g R):sX).1:Nat):Int)),AV.imm 1 (aW ((m+1,cL back l.Rules m g R):sX).2)]]=(al++[((m+1,cL back l.Rules m g R):sX)]).map nY by rw [List.map_append];rfl]
      refine aL (aQ (L':=tok qw 3 1 eK.length++Ed ⟨i,al++[(m+1,cL back l.Rules m g R)],q',rows,qr,ends,qe⟩) (by rw [Nu];exact LY _ _ _)) ?_
      refine W01 ?_
      exact K (((al.map nY).length:Int),al++[(m+1,cL back l.Rules m g R)],q') _ ⟨hA3,by dsimp only;rw [List.getElem?_append_left hil];exact hst⟩ rfl
     ·repeat' (first|refine Ng ?_|fail)
      exact K (ot al (m+1,cL back l.Rules m g R),al,qb) _ ⟨hA,hst⟩ rfl
    ·repeat' (first|refine Ng ?_|fail)
     exact K (-1,al,qb) _ ⟨hA,hst⟩ rfl
   ·dsimp only at hA2 hst2 ⊢
    refine W0g ?_
    refine NS a5 (Ed ⟨i,al2,qb2,rows,qr,ends,qe⟩) NB (by rw [hwl]) (by rw [hwl];simp;omega) (by rw [hwl];simp;omega) rfl fun q'=>?_
    rw [fX]
    refine W02 ?_
    refine aC (c+1,(eK++[z],q'),al2,qb2) rfl ⟨by rw [Nv];rfl,rfl,rfl,trivial⟩ ⟨by dsimp only;omega,by dsimp only;rw [List.length_append,List.length_singleton];omega,hA2,hst2⟩ (by dsimp only;omega) (fun σ w hh=>?_)
    dsimp only
    rw [aJ] at hh
    exact hh
  ·have hcl:c=gs.length:=by have:=Nx h;omega
   subst hcl
   clear h
   refine W01 ?_
   refine aj rfl (fun h=>absurd (Ny h) (by rw [hml];omega)) (fun h=>?_)
   clear h
   refine bU (bH (t:=13) (c':= .imm 1 (aW eK)) rfl fun σ v h=>VR.im h) ?_
   refine bU (bF (L':=Ed ⟨i,al,qb,rows,qr,ends,qe⟩) (List.sublist_append_right ..)) ?_
   refine W0g ?_
   refine NS a5 (tok qb 241 2 al.length++tok qe 246 1 ends.length) NB (by rw [hrl];exact LY _ _ _) (by rw [hrl];simp;omega) (by rw [hrl];simp;omega) rfl fun q'=>?_
   rw [zq]
   refine aL (aQ (L':=Ed ⟨i,al,qb,rows++[eK],q',ends,qe⟩) (by rw [bO];exact LY _ _ _)) ?_
   refine W01 ?_
   refine bv 9 [(0,.v),(1,.v),(2,.v),(3,.v),(4,.v),(5,.v),(6,.v),(7,.e),(8,.v)] none ?_ trivial rfl (by kernel_rfl) (by kernel_rfl) (by kernel_rfl) bQ (by kernel_rfl) rfl
   refine W0b ?_
   refine iF [] _ (BZ l hl back m R (by omega) hs) rfl rfl (Nn _) trivial fun c1 L1 ⟨hL,z,hc⟩=>?_
   subst hc;subst hL
   refine W0M ?_
   refine NP [1,2,3,9,10,12,73,81] IG ?_
   refine NS a5 (tok qb 241 2 al.length++tok q' 22 1 (rows++[eK]).length) NB (show List.Perm (tok qb 241 2 al.length++(tok q' 22 1 (rows++[eK]).length++tok qe 246 1 ends.length)) _ from MP _ _ _) (by simp;omega) (by simp;omega) rfl fun qe'=>?_
   refine aL (aQ (L':=Ed ⟨i,al,qb,rows++[eK],q',ends++[[AV.sc (.int .u64 z)]],qe'⟩) (MP _ _ _).symm) ?_
   refine W02 ?_
   exact aC ⟨i+1,al,qb,rows++[eK],q',ends++[[AV.sc (.int .u64 z)]],qe'⟩ rfl ⟨by rw [Nv];rfl,rfl,rfl,rfl,trivial⟩ ⟨by dsimp only;omega,hA,by dsimp only;rw [List.length_append,List.length_singleton];omega,by dsimp only;rw [List.length_append,List.length_singleton];omega,fun q hq=>by
    rcases Nm hq with hq | hq
    ·exact he1 q hq
    ·rw [Nl hq];rfl⟩ (by dsimp only;omega) (fun _ _ hh=>hh)
 ·have hil:i=all.length:=by have:=Nx h;omega
  clear h
  refine W01 ?_
  refine bf (bH (t:=6) (c':= .imm 1 (b6 rows)) rfl fun σ v h=>VR.im h) ?_
  refine bf (bH (t:=7) (c':= .imm 1 ends) rfl fun σ v h=>VR.im h) ?_
  exact gG (cs:=[.imm 1 (b6 rows),.imm 1 ends,dy true]) [] ⟨rfl,rfl,rfl,trivial⟩ (List.nil_sublist _) ⟨_,_,rfl⟩
set_option maxHeartbeats 8000000 in
theorem sv (n:Nat) (h0:0 < n) (hn:n≤65536) (l:List (List Int)):AC Tryz.prog 85 [aK n,.imm 1 (b6 l)] [] fun c _=>∃out:List Int,out.length=n∧c= .imm 1 (aW out):=by
 refine aV Tryz.func85 rfl Tryz.ntmps85 rfl fun B=>?_
 refine W01 ?_
 refine cu [0,1] ((n:Int) < 1∨(n:Int) > 65536) rfl (fun Q' K=>?_) (fun hC=>absurd hC (by omega)) (fun hC=>?_)
 ·repeat' (first|refine Ng ?_|refine NG a5 IG ?_|refine NN IG ?_|refine NO NB ?_|refine NR NA (fun _=>?_) (fun _=>?_))
  all_goals exact K _ _ rfl rfl (by clear K;simp_all <;> omega)
 clear hC
 refine W19 ?_
 intros
 rename_i xo xf
 refine bU (aQ (L':=tok (some (xo,0)) 3 1 0++tok (some (xf,0)) 3 1 0) (List.Perm.swap _ _ _)) ?_
 refine aM [0,1] (α:=Nat×(List Int×Option (Nat×Nat))×List Int×Option (Nat×Nat)) (fun s=>[(7,aK s.1),(5,.vec s.2.1.2 1 (aW s.2.1.1)),(6,.vec s.2.2.2 1 (aW s.2.2.1))]) (fun s=>s.1≤n∧s.2.1.1.length=s.1∧s.2.2.1.length≤s.1) (fun s=>tok s.2.1.2 3 1 s.2.1.1.length++tok s.2.2.2 3 1 s.2.2.1.length) (fun s=>n - s.1) (0,([],some (xo,0)),[],some (xf,0)) rfl ⟨rfl,rfl,rfl,trivial⟩ ⟨Nat.zero_le _,rfl,Nat.zero_le _⟩ (fun _ _ h=>h) ?_
 rintro ⟨i,⟨out,qo⟩,fst,qf⟩ ⟨hi,ho,hf⟩
 dsimp only at hi ho hf ⊢
 have hol:=aJ out
 have hfl:=aJ fst
 try dsimp only [Ns,Nr,Nq,Nk]
 refine W01 ?_
 refine aj rfl (fun h=>?_) (fun h=>?_)
 ·have hil:i < n:=by have:=Ny h;omega
  clear h
  repeat' (first|refine Ng ?_|fail)
  refine ak ?_
  refine W01 ?_
  refine o7 (α:=Nat) [0,1,5,6,7,8] (fun a=>[(0,aK n),(1,.imm 1 (b6 l)),(5,.vec qo 1 (aW out)),(6,.vec qf 1 (aW fst)),(7,aK i),(8,aK a)]) (fun _=>tok qo 3 1 out.length++tok qf 3 1 fst.length) (fun a=>a≤fst.length) (fun Q' K=>?_) fun a ha=>?_
  ·repeat' (first|refine ak ?_)
   refine aM [0,1,5,6,7] (α:=Nat) (fun a=>[(8,aK a)]) (fun a=>a≤fst.length) (fun _=>tok qo 3 1 out.length++tok qf 3 1 fst.length) (fun a=>fst.length - a) 0 rfl ⟨rfl,trivial⟩ (Nat.zero_le _) (fun _ _ h=>h) fun a ha=>?_
   try dsimp only [Ns,Nr,Nq,Nk]
   refine W01 ?_
   by_cases hl:a < fst.length
   ·obtain ⟨z,hz⟩:∃z,fst[a]?=some z:=⟨_,Nz hl⟩
    have hzg:=bK hz
    rw [decide_eq_true (show (a:Int) < ((aW fst).length:Int) by omega)]
    refine W1k ?_
    refine aj rfl (fun h=>?_) (fun h=>?_)
    ·refine W0B ?_
     exact aC (a+1) rfl ⟨by rw [Nv];rfl,trivial⟩ (by omega) (by omega) (fun _ _ hh=>hh)
    ·repeat' (first|refine Ng ?_|fail)
     exact K a _ ha rfl
   ·rw [decide_eq_false (show ¬(a:Int) < ((aW fst).length:Int) by omega)]
    refine W1g ?_
    exact K a _ ha rfl
  refine W01 ?_
  refine aj rfl (fun h=>?_) (fun h=>?_)
  ·clear h
   refine W0g ?_
   refine NS a5 (tok qo 3 1 out.length) NB (by rw [hfl];exact List.perm_append_comm) (by rw [hfl];simp;omega) (by rw [hfl];simp;omega) rfl fun q'=>?_
   rw [fX]
   refine W0g ?_
   refine NS a5 (tok q' 3 1 (fst++[(i:Int)]).length) NB (by rw [hol,aJ];exact List.perm_append_comm) (by rw [hol];simp;omega) (by rw [hol];simp;omega) rfl fun q2=>?_
   rw [fX]
   refine W02 ?_
   refine aC (i+1,(out++[(a:Int)],q2),fst++[(i:Int)],q') rfl ⟨by rw [Nv];rfl,rfl,rfl,trivial⟩ ⟨by dsimp only;omega,by dsimp only;rw [List.length_append,List.length_singleton];omega,by dsimp only;rw [List.length_append,List.length_singleton];omega⟩ (by dsimp only;omega) (fun σ w hh=>?_)
   dsimp only
   rw [aJ] at hh
   exact hh
  ·clear h
   refine W0g ?_
   refine NS a5 (tok qf 3 1 fst.length) NB (by rw [hol]) (by rw [hol];simp;omega) (by rw [hol];simp;omega) rfl fun q2=>?_
   rw [fX]
   refine W02 ?_
   refine aC (i+1,(out++[(a:Int)],q2),fst,qf) rfl ⟨by rw [Nv];rfl,rfl,rfl,trivial⟩ ⟨by dsimp only;omega,by dsimp only;rw [List.length_append,List.length_singleton];omega,by dsimp only;omega⟩ (by dsimp only;omega) (fun σ w hh=>?_)
   dsimp only
   rw [aJ] at hh
   exact hh
 have hil:i=n:=by have:=Nx h;omega
 clear h
 refine W01 ?_
 refine bf (bH (t:=4) (c':= .imm 1 (aW out)) rfl fun σ v h=>VR.im h) ?_
 refine ea (List.nil_sublist _) ?_
 exact NM IG ⟨out,by omega,rfl⟩
def lS:List AV:=[.sc (.slice none 0 0),.sc (.slice none 0 0),.sc (.slice none 0 0),.sc (.slice none 0 0),.sc (.slice none 0 0)]
set_option maxHeartbeats 16000000 in
theorem y5 (f:aT) (k:Nat) (l:aY) (hl:f.Lookups[k]?=some l) (hF:jU l) (hg0:0 < f.Glyphs.length) (hg:f.Glyphs.length≤65536) (hk:f.Lookups.length≤1000000):AC Tryz.prog 27 [ca f,aK k] [] fun c _=>∃a,c= .tup [a,aK 0]:=by
 refine aV Tryz.func27 rfl Tryz.ntmps27 rfl fun B=>?_
 have hgl:(f.Glyphs.map bD).length=f.Glyphs.length:=Nu ..
 have hll:(f.Lookups.map br).length=f.Lookups.length:=Nu ..
 have hrl:(l.Rules.map bI).length=l.Rules.length:=Nu ..
 have hkl:=(Np hl).1
 have hlg:=bG (c:=br) hl
 have h6:=hF.1
 refine W1B ?_
 intros
 refine cu [1,2,4] False rfl (fun Q' K=>?_) (fun hC=>hC.elim) (fun _=>?_)
 ·repeat' (first|refine Ng ?_|refine NG a5 IG ?_|refine NN IG ?_|refine NO NB ?_|refine NR NA (fun _=>?_) (fun _=>?_))
  all_goals exact K _ _ rfl rfl (by clear K;simp_all <;> omega)
 repeat' (first|refine Ng ?_|refine NG a5 IG ?_|(apply aO;first|refine aN a5 ?_|refine aF a5 ?_)|(apply aI;first|refine NI 6 a5 0 NF ?_|refine NI 6 a5 1 NF ?_|refine NI 6 a5 2 NF ?_|refine NH a5 0 NE ?_|refine NH a5 1 NE ?_|refine NH a5 2 NE ?_|refine NH a5 3 NE ?_|fail)|refine bn a5 fun _=>?_|fail)
 refine aj rfl (fun h=>absurd (Ny h) (by omega)) (fun h=>?_)
 clear h
 refine W19 ?_
 intros
 rename_i b4 _ xl xa
 refine bU (aQ (L':=tok (some (xa,0)) 22 1 0++[(b4,.box lS 62)]) (Nn _)) ?_
 refine aM [2,4,6] (α:=Nat×List (List Int)×Option (Nat×Nat)) (fun s=>[(8,aK s.1),(7,.vec s.2.2 1 (b6 s.2.1))]) (fun s=>s.1≤l.Rules.length∧s.2.1.length≤400 * s.1) (fun s=>tok s.2.2 22 1 s.2.1.length++[(b4,.box lS 62)]) (fun s=>l.Rules.length - s.1) (0,[],some (xa,0)) rfl ⟨rfl,rfl,trivial⟩ ⟨Nat.zero_le _,Nat.zero_le _⟩ (fun _ _ h=>h) ?_
 rintro ⟨i,X,q⟩ ⟨hi,hX⟩
 dsimp only at hi hX ⊢
 have hXl:=bO X
 try dsimp only [Ns,Nr,Nq,Nk]
 refine W01 ?_
 refine aj rfl (fun h=>?_) (fun h=>?_)
 ·have hil:i < l.Rules.length:=by have:=Ny h;omega
  obtain ⟨r,hr⟩:∃z,l.Rules[i]?=some z:=⟨_,Nz hil⟩
  have hrg:=bG (c:=bI) hr
  have hr2:=hF.2 r (Nw hr)
  clear h
  refine W0a ?_
  refine NS a5 [(b4,.box lS 62)] NB (by rw [hXl]) (by simp [bO];omega) (by simp [bO];omega) rfl fun q1=>?_
  rw [mW]
  refine W0i ?_
  refine NS a5 [(b4,.box lS 62)] NB (Nn _) (by simp [bO];omega) (by simp [bO];omega) rfl fun q2=>?_
  rw [mW]
  refine W0i ?_
  refine NS a5 [(b4,.box lS 62)] NB (Nn _) (by simp [bO];omega) (by simp [bO];omega) rfl fun q3=>?_
  rw [mW]
  refine W02 ?_
  refine aC (i+1,X++r.Back++r.In++r.Ahead,q3) rfl ⟨by rw [Nv];rfl,rfl,trivial⟩ ⟨by dsimp only;omega,by dsimp only;simp only [List.length_append];omega⟩ (by dsimp only;omega) (fun σ w hh=>?_)
  dsimp only
  rw [bO] at hh
  exact hh
 clear h hi
 refine W01 ?_
 rw [hgl]
 refine b7 [] _ (sv f.Glyphs.length hg0 hg X) rfl rfl (Nn _) rfl fun c L1 ⟨cls,hcl,hc⟩=>?_
 subst hc
 refine aL (bF (L':=[(b4,.box lS 62)]) ((List.sublist_append_right _ _).trans (List.sublist_append_right _ _))) ?_
 have hcll:=aJ cls
 refine W19 ?_
 intros
 rename_i xg
 refine bU (aQ (L':=tok (some (xg,0)) 3 1 0++[(b4,.box lS 62)]) (Nn _)) ?_
 refine aM [4,6,9] (α:=Nat×List Int×Option (Nat×Nat)) (fun s=>[(11,aK s.1),(10,.vec s.2.2 1 (aW s.2.1))]) (fun s=>s.1≤cls.length∧s.2.1.length≤s.1) (fun s=>tok s.2.2 3 1 s.2.1.length++[(b4,.box lS 62)]) (fun s=>cls.length - s.1) (0,[],some (xg,0)) rfl ⟨rfl,rfl,trivial⟩ ⟨Nat.zero_le _,Nat.zero_le _⟩ (fun _ _ h=>h) ?_
 rintro ⟨i,gl,q⟩ ⟨hi,hG⟩
 dsimp only at hi hG ⊢
 have hGl:=aJ gl
 try dsimp only [Ns,Nr,Nq,Nk]
 refine W01 ?_
 refine aj rfl (fun h=>?_) (fun h=>?_)
 ·have hil:i < cls.length:=by have:=Ny h;omega
  obtain ⟨z,hz⟩:∃z,cls[i]?=some z:=⟨_,Nz hil⟩
  have hzg:=bK hz
  clear h
  refine W0a ?_
  refine aj rfl (fun h=>?_) (fun h=>?_)
  ·refine W0g ?_
   refine NS a5 [(b4,.box lS 62)] NB (by rw [hGl]) (by rw [hGl];simp;omega) (by rw [hGl];simp;omega) rfl fun q'=>?_
   rw [fX]
   refine W02 ?_
   refine aC (i+1,gl++[(i:Int)],q') rfl ⟨by rw [Nv];rfl,rfl,trivial⟩ ⟨by dsimp only;omega,by dsimp only;rw [List.length_append,List.length_singleton];omega⟩ (by dsimp only;omega) (fun σ w hh=>?_)
   dsimp only
   rw [aJ] at hh
   exact hh
  ·refine W02 ?_
   exact aC (i+1,gl,q) rfl ⟨by rw [Nv];rfl,rfl,trivial⟩ ⟨by dsimp only;omega,by dsimp only;omega⟩ (by dsimp only;omega) (fun _ _ hh=>hh)
 clear h
 refine W01 ?_
 refine b7 [] _ (qM l hF false gl (by omega)) rfl rfl (Nn _) rfl fun c L1 ⟨a1,e1,hc⟩=>?_
 subst hc
 refine aL (bF (L':=[(b4,.box lS 62)]) ((List.sublist_append_right _ _).trans (List.sublist_append_right _ _))) ?_
 refine W01 ?_
 refine b7 [] _ (qM l hF true gl (by omega)) rfl rfl (Nn _) rfl fun c L1 ⟨a2,e2,hc⟩=>?_
 subst hc
 refine aL (bF (L':=[(b4,.box lS 62)]) (List.sublist_append_right _ _)) ?_
 repeat' (first|refine Ng ?_|refine NG a5 IG ?_|refine NN IG ?_|(apply aI;first|refine NI 6 a5 0 NF ?_|refine NI 6 a5 1 NF ?_|refine NI 6 a5 2 NF ?_|refine NH a5 0 NE ?_|refine NH a5 1 NE ?_|refine NH a5 2 NE ?_|refine NH a5 3 NE ?_|fail)|refine bJ rfl ?_)
 exact gG (cs:=[.agg [.imm 1 (aW cls),.imm 1 a1,.imm 1 a2,.imm 1 e1,.imm 1 e2],aK 0]) [] ⟨⟨_,0,_,_,rfl,rfl,.inr ⟨eL a5 rfl,rfl⟩⟩,rfl,trivial⟩ (List.nil_sublist _) ⟨_,rfl⟩
end
end Go.Proofs.YtpmdfoaadejmkaaGreatDoor
