/-
  Texts put together, texts of bytes, places in arrays, rests.
-/
import Derived.Test.YtamjlkdanllgjaaGreatDoorM11
import Derived.Test.YtamjlkdanllgjaaGreatDoorM06
import Derived.Test.YtamjlkdanllgjaaGreatDoorM07
import Derived.Test.YtamjlkdanllgjaaGreatDoorM08
import Derived.Test.YtamjlkdanllgjaaGreatDoorM05
namespace Go.Proofs.YtamjlkdanllgjaaGreatDoor
open Go.RowKit
section
variable {P:Program} {fr:bP} {B:Bs} {L:AL} {d:Option Tmp} {ty t t':TypeId} {pos:String} {af:Array Edge} {g:Option (Nat×Bool)} {x y:Operand} {u:AV}
theorem FN {n e sz k:Nat} {q:IntKind} {cs:List AV} (ht:P.underlying t=some (.array n e)) (hs:(P.info? e).map (·.size)=some sz) (hx:bc fr x=some (.iptr cs)) (hy:bc fr y=some (.sc (.int q (k:Int)))) (hk:k < n) (hl:k * sz≤cs.length):Av P ⟨d,.indexAddr t x y,ty,pos,af,g⟩ fr (.iptr (cs.drop (k * sz))):=
 fun σ ρ w hρ _=>by
  have hyv:=(hρ y _ hy).sc_inv
  obtain ⟨b,off,hv,hcx,hcy⟩:=(hρ x _ hx).iptr_inv
  have hk':(k:Int) < (n:Int):=by omega
  have hso:(sizeOf e:Sem Nat).run P w= .ok sz w:=by
   cases hi:P.info? e with
   | none=>rw [hi] at hs;cases hs
   | some i=>rw [hi] at hs;simp at hs;simp [sizeOf,typeInfo,hi,hs]
  refine ⟨.pointer (some ⟨b,off+k * sz,none⟩),?_,.iptr _ _ _ (fun j hj=>?_) fun j c v hc hw=>?_⟩
  ·simp [execOp,hv,hyv,Instr.indexAt,asIntOf,run_underlying ht,hk',hso,Instr.sureAddr,Addr.add]
   by_cases hn:n≤1 <;> by_cases h0:k * sz=0 <;> simp [hn,run_underlying ht,hso,hk,h0]
  ·have:=hcx (k * sz+j) (by simp at hj;omega)
   simpa [Nat.add_assoc] using this
  ·exact hcy (k * sz+j) c v (by simpa using hc) (by simpa [Nat.add_assoc] using hw)
end
def tH (tt:TT) (t:Nat):Option (Nat×Nat×Nat):=match dp tt t with
 | some ⟨.arr n e sz,_,_⟩=>some (n,e,sz)
 | _=>none
theorem g7 {P:Program} {tt:TT} (ok:dG P tt) {t n e sz:Nat} (h:tH tt t=some (n,e,sz)):P.underlying t=some (.array n e)∧(P.info? e).map (·.size)=some sz:=by
 unfold tH at h
 split at h
 ·rename_i n' e' sz' si z ht
  cases h
  have:=ok.ok t _ ht
  simp only [zN,Bool.and_eq_true] at this
  obtain ⟨_,h2⟩:=this
  split at h2 <;> simp at h2
  rename_i hu
  obtain ⟨⟨rfl,rfl⟩,h3⟩:=h2
  refine ⟨hu,?_⟩
  unfold ol at h3
  split at h3
  ·rename_i i hi
   simp at h3
   simp [hi,h3]
  ·cases h3
 ·cases h
section
variable {P:Program} {tt:TT} {r:Option Nat} {ops:Array Oper} {Q:Exit→Act→World→Prop} {nt:Nat} {D:List Deferred} {fr:bP} {B:Bs} {L:AL} {rest:List Oper} {d:Nat} {ty t t':TypeId} {pos:String} {af:Array Edge} {x y z:Operand} {u:AV}
theorem FZ (ok:dG P tt) (k:Nat) {n e sz:Nat} {q:IntKind} {cs:List AV} (h:bz P r ops Q nt D rest ((d,.iptr (cs.drop (k * sz)))::fr) B L) (ht:tH tt t=some (n,e,sz):=by rfl) (hx:bc fr x=some (.iptr cs):=by rfl) (hy:bc fr y=some (.sc (.int q (k:Int))):=by rfl) (hk:Nat.blt k n=true:=by rfl) (hl:Nat.ble (k * sz) cs.length=true:=by rfl) (hd:Nat.ble nt d=false:=by rfl):bz P r ops Q nt D (⟨some d,.indexAddr t x y,ty,pos,af,none⟩::rest) fr B L:=by
 obtain ⟨h1,h2⟩:=g7 ok ht
 exact c5 (FN h1 h2 hx hy (by simpa [Nat.blt_eq] using hk) (by simpa [Nat.ble_eq] using hl)) hd rfl h
end
section
variable {P:Program} {tt:TT} {l:List Oper} {fr:bP} {fin:jz} {sk:lE} {acc:bP} {L:AL} {k:Nat} {dd:Option Tmp} {ty t t':TypeId} {pos:String} {af:Array Edge} {g:Option (Nat×Bool)} {x y:Operand} {u:AV}
theorem IJ (ok:dG P tt) (m:Nat) {n e sz:Nat} {q:IntKind} {cs:List AV} (h:DA P l fr fin sk ((k,.iptr (cs.drop (m * sz)))::acc) L) (ht:tH tt t=some (n,e,sz):=by rfl) (hx:bc (cE l.toArray acc fr af.toList) x=some (.iptr cs):=by rfl) (hy:bc (cE l.toArray acc fr af.toList) y=some (.sc (.int q (m:Int))):=by rfl) (hk:Nat.blt m n=true:=by rfl) (hl:Nat.ble (m * sz) cs.length=true:=by rfl) (hg:jt ⟨dd,.indexAddr t x y,ty,pos,af,g⟩ acc:=by first | trivial | rfl):cu P l fr fin k .v ⟨dd,.indexAddr t x y,ty,pos,af,g⟩ sk acc L:=by
 obtain ⟨h1,h2⟩:=g7 ok ht
 exact fI hg (Dp (FN h1 h2 hx hy (by simpa [Nat.blt_eq] using hk) (by simpa [Nat.ble_eq] using hl))) h
end
end Go.Proofs.YtamjlkdanllgjaaGreatDoor
namespace Go.Proofs.YtamjlkdanllgjaaGreatDoor
open Go.RowKit
section
variable {P:Program} {fr:bP} {B:Bs} {L:AL} {d:Option Tmp} {ty t t':TypeId} {pos:String} {af:Array Edge} {g:Option (Nat×Bool)} {x y z q:Operand} {u:AV}
theorem CZ.cells {e:TypeId} {i:TypeInfo} {zz:Value} {zs:List Value} (hz:CZ P e zs) (hi:P.info? e=some i) (hzz:i.zero=some zz) (w:World):zz.cells=zs.toArray:=by
 obtain ⟨v,hv,hr⟩:=hz.run
 have:=hr w
 simp [zeroValue,typeInfo,hi,hzz] at this
 rw [this,hv]
theorem mJ {σ:bW} (l:List Value):cR σ (l.map .sc) l:=by
 refine ⟨by simp,fun i c u hc hu=>?_⟩
 rw [List.getElem?_map,hu] at hc
 cases hc
 exact .sc _
theorem fc {zs:Array Value} {n:Nat} {v:Value} (h:v∈(Builtin.zeroCells zs n).toList):v∈zs.toList:=by
 obtain ⟨i,hi,rfl⟩:=List.getElem_of_mem h
 simp only [Builtin.zeroCells] at hi ⊢
 by_cases h0:zs.size=0
 ·simp [h0] at hi
 ·have:i % zs.size < zs.size:=Nat.mod_lt _ (by omega)
  simp [this]
theorem vi (i:Nat) {e sz by_ b n cap:Nat} {cs es:List AV} {zs:List Value} (hc:jE P t e sz by_) (hs0:0 < sz) (hz:CZ P e zs) (hz1:zs.all (·.oneCell')=true) (hx:bc fr x=some (.sc (.slice (some ⟨b,0,none⟩) n cap))) (hy:bc fr y=some u) (hu:u.im= .imm sz [es]) (hL:L[i]?=some (b,.box cs e)) (hcl:cs.length=cap * sz) (hn:n≤cap) (hcm:cap≤maxLen) (h63:n+1≤maxLen) (hby:(n+1) * by_≤140737488355328):
  AO P ⟨d,.call ⟨.builtin .append,#[x,y],#[t,t]⟩,ty,pos,af,g⟩ fr B L (fun r L'=>∃b' cs' cap',r= .sc (.slice (some ⟨b',0,none⟩) (n+1) cap')∧cs'.length=cap' * sz∧cs'.take ((n+1) * sz)=cs.take (n * sz)++es∧n+1≤cap'∧cap'≤maxLen∧L'=(b',.box cs' e)::L.eraseIdx i):=by
 intro σ ρ w hρ hw0
 have hw:=hw0.perm (eS hL)
 have hxv:=(hρ x _ hx).sc_inv
 have hyv:=(hρ y u hy).im
 rw [hu] at hyv
 obtain ⟨A2,c2,hA2,_⟩:=hyv.imm_inv
 rw [hA2] at hyv
 obtain ⟨_,_,_,hs2,ys,hyl,hyr,hy1,hyc⟩:=hyv.row
 obtain ⟨b2,off2,rfl,hycc⟩:=hyc (by simp)
 haveI:=hc
 obtain ⟨inf,zz,hi,hsz,rfl,hzz,hzs⟩:=hc.info
 have hzc:=hz.cells hi hzz w
 obtain ⟨o,ho,vs,rfl,hvs,h1⟩:=hw.here _ (List.mem_cons_self ..)
 have hl:=hvs.1
 have hel:es.length=sz:=hs2 es (by simp)
 have hyl0:ys.length=sz:=by simpa [hel] using hyl
 have hyl':ys.length=1 * inf.size:=by rw [hsz];omega
 have hyr':cR σ es ys:=by simpa using hyr
 have hnews:∀j v,ys[j]?=some v→w.cell? ((⟨b2,off2,none⟩:Addr).add j)=some v:=fun j v hj=>by rw [da];exact hw.froz _ _ _ (hycc j v hj)
 have hA2':ρ y= .slice (some ⟨b2,off2,none⟩) 1 c2:=hA2
 have hmul:(n+1) * sz=n * sz+sz:=by rw [Nat.add_mul,Nat.one_mul]
 have hnc:n * sz≤cap * sz:=Nat.mul_le_mul_right _ hn
 unfold maxLen at hcm h63
 unfold gn
 by_cases hroom:n+1≤cap
 ·have hnc1:(n+1) * sz≤cap * sz:=Nat.mul_le_mul_right _ hroom
  have hr:=run_append_room (P:=P) w t ty e inf hc.under hi b n cap vs.toArray ho ⟨b2,off2,none⟩ 1 c2 ys hyl' hnews hy1 hroom (by rw [hsz];simp;omega)
  rw [show (execOp ρ ⟨d,.call ⟨.builtin .append,#[x,y],#[t,t]⟩,ty,pos,af,g⟩).run P w= .ok (.value (.slice (some ⟨b,0,none⟩) (n+1) cap)) (w.setRow b (vs.toArray.toList.take (n * inf.size)++ys++vs.toArray.toList.drop (n * inf.size+ys.length)).toArray) by
   simp [execOp,resolve,hxv,hA2',invoke,builtin,hr]]
  rw [hsz,hyl0]
  have hcl':(cs.take (n * sz)++es++cs.drop (n * sz+sz)).length=cap * sz:=by simp;omega
  refine ⟨σ,.sc _,_,bW.le_refl _,.sc _,hw.put (a':= .box (cs.take (n * sz)++es++cs.drop (n * sz+sz)) e) (fun _=>trivial) ⟨rfl,rfl,rfl,by simp,fun k _ hk=>setRow_other w b k _ (fun e=>hk (by simp [e]))⟩ (setRow_heap w b _ _ e _ ho) ⟨_,rfl,dx (dx (eR hvs _) hyr') (iV hvs _),fun u hu=>?_⟩,b,_,cap,rfl,hcl',?_,hroom,by unfold maxLen;omega,rfl⟩
  ·rcases Mo hu with hu | hu
   ·rcases Mo hu with hu | hu
    ·exact h1 _ (List.mem_of_mem_take hu)
    ·exact hy1 _ hu
   ·exact h1 _ (List.mem_of_mem_drop hu)
  ·rw [List.take_append_of_le_length (by simp;omega),List.take_of_length_le (by simp;omega)]
 ·have hncap:n=cap:=by omega
  subst hncap
  have holds:∀j v,vs[j]?=some v→w.cell? ((⟨b,0,none⟩:Addr).add j)=some v:=fun j v hj=>by
   rw [da,Nat.zero_add,cI ho]
   simpa using hj
  have hr:=run_append_grow (P:=P) w t ty e inf zz hc.under hi hzz ⟨b,0,none⟩ n n vs (by rw [hsz];omega) holds ⟨b2,off2,none⟩ 1 c2 ys hyl' hnews (by omega) (by omega) (growslice_fits (by omega) hby)
  rw [show (execOp ρ ⟨d,.call ⟨.builtin .append,#[x,y],#[t,t]⟩,ty,pos,af,g⟩).run P w= .ok (.value (.slice (some ⟨w.heap.size,0,none⟩) (n+1) (grownCap w (n+1) n e))) (w.drew.alloc (.cells (vs.toArray++ys.toArray++Builtin.zeroCells zz.cells (grownCap w (n+1) n e - (n+1))) e)) by
   simp [execOp,resolve,hxv,hA2',invoke,builtin,hr]]
  have hge:=grownCap_ge w (n+1) n e
  have hgm:=grownCap_le_maxLen w (n+1) n e (by unfold maxLen;omega)
  have hzl:∀k,(Builtin.zeroCells zz.cells k).toList.length=k * sz:=fun k=>by rw [Array.length_toList,size_zeroCells,hzs]
  have hzm:∀k,∀v∈(Builtin.zeroCells zz.cells k).toList,v.oneCell'=true:=fun k v hv=>by
   have:=fc hv
   rw [hzc] at this
   exact List.all_eq_true.1 hz1 v (by simpa using this)
  generalize grownCap w (n+1) n e=cap' at *
  have hmc:cap' * sz=(n+1) * sz+(cap' - (n+1)) * sz:=by rw [←Nat.add_mul];congr 1;omega
  have hzl':=hzl (cap' - (n+1))
  have hzm':=hzm (cap' - (n+1))
  generalize Builtin.zeroCells zz.cells (cap' - (n+1))=zc at *
  have hlen:(cs++es++zc.toList.map AV.sc).length=cap' * sz:=by simp only [List.length_append,Mv,hzl'];omega
  refine ⟨σ,.sc _,_,bW.le_refl _,.sc _,((hw.sublist (List.sublist_cons_self ..)).drew _).alloc _ (.box (cs++es++zc.toList.map AV.sc) e) ⟨vs++ys++zc.toList,by simp,dx (dx hvs hyr') (mJ _),fun u hu=>?_⟩,w.heap.size,_,cap',rfl,hlen,?_,hge,hgm,rfl⟩
  ·rcases Mo hu with hu | hu
   ·rcases Mo hu with hu | hu
    ·exact h1 _ hu
    ·exact hy1 _ hu
   ·exact hzm' u hu
  ·rw [List.take_append_of_le_length (by simp;omega),List.take_of_length_le (by simp;omega),List.take_of_length_le (by omega)]
theorem tz {e sz by_:Nat} {es:List AV} {zs:List Value} (hc:jE P t e sz by_) (hs0:0 < sz) (hz:CZ P e zs) (hz1:zs.all (·.oneCell')=true) (hx:bc fr x=some (.sc (.slice none 0 0))) (hy:bc fr y=some u) (hu:u.im= .imm sz [es]) (hby:by_≤140737488355328):
  AO P ⟨d,.call ⟨.builtin .append,#[x,y],#[t,t]⟩,ty,pos,af,g⟩ fr B L (fun r L'=>∃b' cs' cap',r= .sc (.slice (some ⟨b',0,none⟩) 1 cap')∧cs'.length=cap' * sz∧cs'.take (1 * sz)=es∧1≤cap'∧cap'≤maxLen∧L'=(b',.box cs' e)::L):=by
 intro σ ρ w hρ hw
 have hxv:=(hρ x _ hx).sc_inv
 have hyv:=(hρ y u hy).im
 rw [hu] at hyv
 obtain ⟨A2,c2,hA2,_⟩:=hyv.imm_inv
 rw [hA2] at hyv
 obtain ⟨_,_,_,hs2,ys,hyl,hyr,hy1,hyc⟩:=hyv.row
 obtain ⟨b2,off2,rfl,hycc⟩:=hyc (by simp)
 haveI:=hc
 obtain ⟨inf,zz,hi,hsz,rfl,hzz,hzs⟩:=hc.info
 have hzc:=hz.cells hi hzz w
 have hel:es.length=sz:=hs2 es (by simp)
 have hyl0:ys.length=sz:=by simpa [hel] using hyl
 have hyl':ys.length=1 * inf.size:=by rw [hsz];omega
 have hyr':cR σ es ys:=by simpa using hyr
 have hnews:∀j v,ys[j]?=some v→w.cell? ((⟨b2,off2,none⟩:Addr).add j)=some v:=fun j v hj=>by rw [da];exact hw.froz _ _ _ (hycc j v hj)
 have hA2':ρ y= .slice (some ⟨b2,off2,none⟩) 1 c2:=hA2
 have hr:=run_append_nil (P:=P) w t ty e inf zz hc.under hi hzz ⟨b2,off2,none⟩ 1 c2 ys hyl' hnews (by omega) (by omega) (by omega)
 unfold gn
 rw [show (execOp ρ ⟨d,.call ⟨.builtin .append,#[x,y],#[t,t]⟩,ty,pos,af,g⟩).run P w= .ok (.value (.slice (some ⟨w.heap.size,0,none⟩) 1 (grownCap w 1 0 e))) (w.drew.alloc (.cells (ys.toArray++Builtin.zeroCells zz.cells (grownCap w 1 0 e - 1)) e)) by
  simp [execOp,resolve,hxv,hA2',invoke,builtin,hr]]
 have hge:=grownCap_ge w 1 0 e
 have hgm:=grownCap_le_maxLen w 1 0 e (by unfold maxLen;omega)
 have hzl:∀k,(Builtin.zeroCells zz.cells k).toList.length=k * sz:=fun k=>by rw [Array.length_toList,size_zeroCells,hzs]
 have hzm:∀k,∀v∈(Builtin.zeroCells zz.cells k).toList,v.oneCell'=true:=fun k v hv=>by
  have:=fc hv
  rw [hzc] at this
  exact List.all_eq_true.1 hz1 v (by simpa using this)
 generalize grownCap w 1 0 e=cap' at *
 have hmc:cap' * sz=sz+(cap' - 1) * sz:=by
  have:cap'=1+(cap' - 1):=by omega
  rw [this,Nat.add_mul]
  simp
 have hzl':=hzl (cap' - 1)
 have hzm':=hzm (cap' - 1)
 generalize Builtin.zeroCells zz.cells (cap' - 1)=zc at *
 have hlen:(es++zc.toList.map AV.sc).length=cap' * sz:=by simp only [List.length_append,Mv,hzl'];omega
 refine ⟨σ,.sc _,_,bW.le_refl _,.sc _,(hw.drew _).alloc _ (.box (es++zc.toList.map AV.sc) e) ⟨ys++zc.toList,by simp,dx hyr' (mJ _),fun u hu=>?_⟩,w.heap.size,_,cap',rfl,hlen,?_,hge,hgm,rfl⟩
 ·rcases Mo hu with hu | hu
  ·exact hy1 _ hu
  ·exact hzm' u hu
 ·rw [List.take_append_of_le_length (by simp;omega),List.take_of_length_le (by simp;omega)]
end
section
variable {B:Bs} {fr:bP} {nt:Nat} {D:List Deferred}
theorem FC {σ:bW} {cs:List AV} {vs:List Value} {k:Nat} {c c':AV} (h:cR σ cs vs) (hk:cs[k]?=some c) (hc:∀v,VR σ c v→VR σ c' v):cR σ (cs.set k c') vs:=by
 refine ⟨by rw [List.length_set];exact h.1,fun i x u hx hu=>?_⟩
 by_cases e:k=i
 ·subst e
  rw [List.getElem?_set_self (Mq hk).1] at hx
  cases hx
  exact hc _ (h.2 k c u hk hu)
 ·rw [List.getElem?_set_ne e] at hx
  exact h.2 i x u hx hu
theorem rR {b p e e' sz n cap k:Nat} {cs ds:List AV} {R:AL} {l:List (List AV)} (hk:ds[k]?=some (.sc (.slice (some ⟨b,0,none⟩) n cap))) (hc:cs.take (n * sz)=l.flatten) (hcl:cs.length=cap * sz) (hs:∀q∈l,q.length=sz) (hn:l.length=n) (hnc:n≤cap) (hm:cap≤maxLen):lb nt D B fr ((b,.box cs e)::(p,.box ds e')::R) fr ((p,.box (ds.set k (.imm sz l)) e')::R):=by
 intro σ a w ha hw
 obtain ⟨o,ho,vs,rfl,hvs,h1⟩:=hw.here _ (List.mem_cons_self ..)
 have hfree:=hw.free _ (List.mem_cons_self ..)
 have hvl:vs.length=cap * sz:=by rw [←hvs.1,hcl]
 have hst:cK B σ ((b,.vec e sz 0 cap)::(p,.box ds e')::R) w:=by
  refine ⟨hw.os,hw.tape,hw.output,hw.size,hw.old,fun p' hp=>?_,fun p' hp=>?_,by simpa using hw.apart,hw.froz,fun p' hp off hm=>?_,hw.grow,hw.same⟩
  ·rcases List.mem_cons.1 hp with rfl | hp'
   ·exact ⟨_,ho,_,rfl,by simp [hvl],Nat.zero_le _,hm⟩
   ·exact hw.here p' (Mu _ hp')
  ·rcases List.mem_cons.1 hp with rfl | hp'
   ·exact hw.mine (b,.box cs e) (List.mem_cons_self ..)
   ·exact hw.mine p' (Mu _ hp')
  ·rcases List.mem_cons.1 hp with rfl | hp'
   ·exact hfree off trivial
   ·exact hw.free p' (Mu _ hp') off hm
 have hle':n * sz≤cap * sz:=Nat.mul_le_mul_right _ hnc
 obtain ⟨hst',hle⟩:=hst.freezeHead (n':=n) (xs:=vs.take (n * sz)) (fun j u hj=>by
  rw [List.getElem?_take] at hj
  split at hj
  ·rw [cI ho];simpa using hj
  ·cases hj) (by rw [List.length_take];omega) (Nat.zero_le _) hnc
 have hv:VR (σ.add b (vs.take (n * sz))) (.vec (some (b,cap)) sz l) (.slice (some ⟨b,0,none⟩) n cap):=by
  have:=km (σ:=σ.add b (vs.take (n * sz))) (b:=b) (cap:=cap) hs (by rw [←hc];exact (eR hvs _).mono hle) (fun u hu=>h1 u (List.mem_of_mem_take hu)) (by omega) hm (fun j u hj=>bW.add_at hj)
  rwa [hn] at this
 have hw2:=hst'.sublist (List.sublist_cons_self ..)
 refine ⟨_,ha.mono hle,?_⟩
 obtain ⟨o2,ho2,ws,rfl,hws,hw1⟩:=hw2.here _ (List.mem_cons_self ..)
 refine ⟨hw2.os,hw2.tape,hw2.output,hw2.size,hw2.old,fun p' hp=>?_,fun p' hp=>?_,by simpa using hw2.apart,hw2.froz,fun p' hp off hm=>?_,hw2.grow,hw2.same⟩
 ·rcases List.mem_cons.1 hp with rfl | hp'
  ·exact ⟨_,ho2,ws,rfl,FC hws hk fun v hvv=>by rw [hvv.sc_inv];exact hv.im,hw1⟩
  ·exact hw2.here p' (Mu _ hp')
 ·rcases List.mem_cons.1 hp with rfl | hp'
  ·exact hw2.mine (p,.box ds e') (List.mem_cons_self ..)
  ·exact hw2.mine p' (Mu _ hp')
 ·rcases List.mem_cons.1 hp with rfl | hp'
  ·exact hw2.free (p,.box ds e') (List.mem_cons_self ..) off trivial
  ·exact hw2.free p' (Mu _ hp') off hm
end
section
variable {P:Program} {tt:TT} {r:Option Nat} {ops:Array Oper} {Q:Exit→Act→World→Prop} {nt:Nat} {D:List Deferred} {fr:bP} {B:Bs} {L:AL} {rest:List Oper} {d:Nat} {ty t t':TypeId} {pos:String} {af:Array Edge} {x y z:Operand} {u:AV}
theorem rD (ok:dG P tt) (i:Nat) {e sz by_ b n cap:Nat} {cs es:List AV} {zs:List Value} (ht:iS tt t=some (e,sz,by_)) (hz:zI tt e=some zs) (hz1:zs.all (·.oneCell')=true) (hx:bc fr x=some (.sc (.slice (some ⟨b,0,none⟩) n cap))) (hy:bc fr y=some u) (hu:iE u=some (sz,[es])) (hL:L[i]?=some (b,.box cs e)) (hcl:cs.length=cap * sz) (hn:n≤cap) (hcm:cap≤maxLen) (h63:n+1≤maxLen) (hby:(n+1) * by_≤140737488355328) (hd:Nat.ble nt d=false)
  (h:∀b' cs' cap',cs'.length=cap' * sz→cs'.take ((n+1) * sz)=cs.take (n * sz)++es→n+1≤cap'→cap'≤maxLen→bz P r ops Q nt D rest ((d,.sc (.slice (some ⟨b',0,none⟩) (n+1) cap'))::fr) B ((b',.box cs' e)::L.eraseIdx i)):
  bz P r ops Q nt D (⟨some d,.call ⟨.builtin .append,#[x,y],#[t,t]⟩,ty,pos,af,none⟩::rest) fr B L:=ce hd rfl (vi i (bv ok ht).1 (bv ok ht).2 (er ok hz) hz1 hx hy (d8 hu) hL hcl hn hcm h63 hby) fun c L' ⟨b',cs',cap',h1,h2,h3,h4,h5,h6⟩=>by subst h1;subst h6;exact h b' cs' cap' h2 h3 h4 h5
theorem w8 (ok:dG P tt) {e sz by_:Nat} {es:List AV} {zs:List Value} (ht:iS tt t=some (e,sz,by_)) (hz:zI tt e=some zs) (hz1:zs.all (·.oneCell')=true) (hx:bc fr x=some (.sc (.slice none 0 0))) (hy:bc fr y=some u) (hu:iE u=some (sz,[es])) (hby:Nat.ble by_ 140737488355328=true) (hd:Nat.ble nt d=false)
  (h:∀b' cs' cap',cs'.length=cap' * sz→cs'.take (1 * sz)=es→1≤cap'→cap'≤maxLen→bz P r ops Q nt D rest ((d,.sc (.slice (some ⟨b',0,none⟩) 1 cap'))::fr) B ((b',.box cs' e)::L)):
  bz P r ops Q nt D (⟨some d,.call ⟨.builtin .append,#[x,y],#[t,t]⟩,ty,pos,af,none⟩::rest) fr B L:=ce hd rfl (tz (bv ok ht).1 (bv ok ht).2 (er ok hz) hz1 hx hy (d8 hu) (Nat.ble_eq .. ▸hby)) fun c L' ⟨b',cs',cap',h1,h2,h3,h4,h5,h6⟩=>by subst h1;subst h6;exact h b' cs' cap' h2 h3 h4 h5
end
end Go.Proofs.YtamjlkdanllgjaaGreatDoor
namespace Go.Proofs.YtamjlkdanllgjaaGreatDoor
open Go.RowKit
section
variable {P:Program} {tt:TT} {l:List Oper} {fr:bP} {fin:jz} {sk:lE} {acc:bP} {L:AL} {k:Nat} {dd:Option Tmp} {ty t:TypeId} {pos:String} {af:Array Edge} {g:Option (Nat×Bool)} {x y:Operand}
theorem GT (ok:dG P tt) (n:Nat) {e sz by_:Nat} {k1 k2:IntKind} {a b:Int} {zs:List Value} (ht:iS tt t=some (e,sz,by_)) (hz:zI tt e=some zs) (h1:zs.all (·.oneCell')=true) (hx:bc (cE l.toArray acc fr af.toList) x=some (.sc (.int k1 a))) (hy:bc (cE l.toArray acc fr af.toList) y=some (.sc (.int k2 b))) (ha:a=(n:Int)) (hb:b=(n:Int)) (hby:by_ * n≤281474976710656) (h63:n≤9223372036854775807) (hg:jt ⟨dd,.makeSlice t x y,ty,pos,af,g⟩ acc)
  (h:∀b,DA P l fr fin sk ((k,.sc (.slice (some ⟨b,0,none⟩) n n))::acc) ((b,.box ((List.replicate n (zs.map .sc)).flatten) e)::L)):cu P l fr fin k .e ⟨dd,.makeSlice t x y,ty,pos,af,g⟩ sk acc L:=
 jQ hg (fun _=>x1 (bv ok ht).1 (er ok hz) h1 (bv ok ht).2 hx hy ha hb hby h63) fun c L' ⟨b,h1,h2⟩=>by subst h1;subst h2;exact h b
end
end Go.Proofs.YtamjlkdanllgjaaGreatDoor
namespace Go.Proofs.YtamjlkdanllgjaaGreatDoor
open Go.RowKit
def rY (fr:bP) (B:Bs) (L:AL) (y:Operand) (sz m:Nat) (es:List AV):Prop:=∀σ (ρ:Operand→Value) w,(∀x c,bc fr x=some c→VR σ c (ρ x))→cK B σ L w→
 ∃A c ys,ρ y= .slice A m c∧cR σ es ys∧(∀u∈ys,u.oneCell'=true)∧ys.length=m * sz∧(0 < m→∃b off,A=some ⟨b,off,none⟩∧∀j v,ys[j]?=some v→w.cell? ((⟨b,off,none⟩:Addr).add j)=some v)
section
variable {P:Program} {fr:bP} {B:Bs} {L:AL} {d:Option Tmp} {ty t t':TypeId} {pos:String} {af:Array Edge} {g:Option (Nat×Bool)} {x y z q:Operand} {u:AV}
theorem f9 {sz:Nat} {l:List (List AV)} (hy:bc fr y=some u) (hu:iE u=some (sz,l)):rY fr B L y sz l.length l.flatten:=by
 intro σ ρ w hρ hw
 have hyv:=(hρ y u hy).im
 rw [d8 hu] at hyv
 obtain ⟨A2,c2,hA2,_⟩:=hyv.imm_inv
 rw [hA2] at hyv
 obtain ⟨_,_,_,hs2,ys,hyl,hyr,hy1,hyc⟩:=hyv.row
 refine ⟨A2,c2,ys,hA2,by simpa using hyr,hy1,?_,fun h0=>?_⟩
 ·rw [hyl]
 ·obtain ⟨b2,off2,e,hycc⟩:=hyc h0
  exact ⟨b2,off2,e,fun j v hj=>by rw [da];exact hw.froz _ _ _ (hycc j v hj)⟩
theorem uL (i:Nat) {b off n c sz:Nat} {cs:List AV} {e:TypeId} (hy:bc fr y=some (.sc (.slice (some ⟨b,off,none⟩) n c))) (hL:L[i]?=some (b,.box cs e)) (hb:off+n * sz≤cs.length):rY fr B L y sz n ((cs.drop off).take (n * sz)):=by
 intro σ ρ w hρ hw
 have hyv:=(hρ y _ hy).sc_inv
 obtain ⟨o,ho,vs,rfl,hvs,h1⟩:=hw.here _ (Mx hL)
 have hl:=hvs.1
 refine ⟨_,c,(vs.drop off).take (n * sz),hyv,eR (iV hvs _) _,fun u hu=>h1 _ (List.mem_of_mem_drop (List.mem_of_mem_take hu)),by rw [List.length_take,List.length_drop];omega,fun h0=>⟨b,off,rfl,fun j v hj=>?_⟩⟩
 rw [da,cI ho]
 have hjl:=(Mq hj).1
 rw [List.length_take] at hjl
 rw [List.getElem?_take_of_lt (by omega),List.getElem?_drop] at hj
 simpa using hj
theorem vh (i:Nat) {e sz by_ b n cap m:Nat} {cs es:List AV} {zs:List Value} (hc:jE P t e sz by_) (hs0:0 < sz) (hz:CZ P e zs) (hz1:zs.all (·.oneCell')=true) (hx:bc fr x=some (.sc (.slice (some ⟨b,0,none⟩) n cap))) (hy:rY fr B L y sz m es) (hL:L[i]?=some (b,.box cs e)) (hcl:cap * sz≤cs.length) (hn:n≤cap) (hcm:cap≤maxLen) (h63:n+m≤maxLen) (hby:(n+m) * by_≤140737488355328):
  AO P ⟨d,.call ⟨.builtin .append,#[x,y],#[t,t]⟩,ty,pos,af,g⟩ fr B L (fun r L'=>∃b' cs' cap',r= .sc (.slice (some ⟨b',0,none⟩) (n+m) cap')∧cap' * sz≤cs'.length∧cs'.take ((n+m) * sz)=cs.take (n * sz)++es∧n+m≤cap'∧cap'≤maxLen∧(n+m≤cap→b'=b∧cap'=cap∧cs'=cs.take (n * sz)++es++cs.drop (n * sz+m * sz))∧L'=(b',.box cs' e)::L.eraseIdx i):=by
 intro σ ρ w hρ hw0
 obtain ⟨A2,c2,ys,hA2,hyr,hy1,hyl,hycc⟩:=hy σ ρ w hρ hw0
 have hw:=hw0.perm (eS hL)
 have hxv:=(hρ x _ hx).sc_inv
 haveI:=hc
 obtain ⟨inf,zz,hi,hsz,rfl,hzz,hzs⟩:=hc.info
 have hzc:=hz.cells hi hzz w
 obtain ⟨o,ho,vs,rfl,hvs,h1⟩:=hw.here _ (List.mem_cons_self ..)
 have hl:=hvs.1
 have hel:es.length=m * sz:=by rw [←hyl];exact hyr.1
 have hyl':ys.length=m * inf.size:=by rw [hsz];exact hyl
 have hmul:(n+m) * sz=n * sz+m * sz:=Nat.add_mul ..
 have hnc:n * sz≤cap * sz:=Nat.mul_le_mul_right _ hn
 unfold maxLen at hcm h63
 unfold gn
 by_cases hm0:m=0
 ·subst hm0
  have hes:es=[]:=List.eq_nil_of_length_eq_zero (by rw [hel];omega)
  subst hes
  rw [show (execOp ρ ⟨d,.call ⟨.builtin .append,#[x,y],#[t,t]⟩,ty,pos,af,g⟩).run P w= .ok (.value (.slice (some ⟨b,0,none⟩) n cap)) w by
   simp [execOp,resolve,hxv,hA2,invoke,builtin,jy (t:=t) hn]]
  refine ⟨σ,.sc _,_,bW.le_refl _,.sc _,hw,b,cs,cap,rfl,hcl,?_,hn,by unfold maxLen;omega,fun _=>⟨rfl,rfl,?_⟩,rfl⟩
  ·simp
  ·simp
 obtain ⟨b2,off2,rfl,hnews⟩:=hycc (by omega)
 by_cases hroom:n+m≤cap
 ·have hnc1:(n+m) * sz≤cap * sz:=Nat.mul_le_mul_right _ hroom
  have hr:=run_append_room (P:=P) w t ty e inf hc.under hi b n cap vs.toArray ho ⟨b2,off2,none⟩ m c2 ys hyl' hnews hy1 hroom (by rw [hsz];simp;omega)
  rw [show (execOp ρ ⟨d,.call ⟨.builtin .append,#[x,y],#[t,t]⟩,ty,pos,af,g⟩).run P w= .ok (.value (.slice (some ⟨b,0,none⟩) (n+m) cap)) (w.setRow b (vs.toArray.toList.take (n * inf.size)++ys++vs.toArray.toList.drop (n * inf.size+ys.length)).toArray) by
   simp [execOp,resolve,hxv,hA2,invoke,builtin,hr]]
  rw [hsz,hyl]
  refine ⟨σ,.sc _,_,bW.le_refl _,.sc _,hw.put (a':= .box (cs.take (n * sz)++es++cs.drop (n * sz+m * sz)) e) (fun _=>trivial) ⟨rfl,rfl,rfl,by simp,fun k _ hk=>setRow_other w b k _ (fun e=>hk (by simp [e]))⟩ (setRow_heap w b _ _ e _ ho) ⟨_,rfl,dx (dx (eR hvs _) hyr) (iV hvs _),fun u hu=>?_⟩,b,_,cap,rfl,?_,?_,hroom,by unfold maxLen;omega,fun _=>⟨rfl,rfl,rfl⟩,rfl⟩
  ·rcases Mo hu with hu | hu
   ·rcases Mo hu with hu | hu
    ·exact h1 _ (List.mem_of_mem_take hu)
    ·exact hy1 _ hu
   ·exact h1 _ (List.mem_of_mem_drop hu)
  ·simp only [List.length_append,List.length_take,List.length_drop,hel];omega
  ·rw [List.take_append_of_le_length (by simp;omega),List.take_of_length_le (by simp;omega)]
 ·have holds:∀j v,(vs.take (n * sz))[j]?=some v→w.cell? ((⟨b,0,none⟩:Addr).add j)=some v:=fun j v hj=>by
   rw [da,Nat.zero_add,cI ho]
   have hjl:=(Mq hj).1
   rw [List.length_take] at hjl
   rw [List.getElem?_take_of_lt (by omega)] at hj
   simpa using hj
  have hr:=run_append_grow (P:=P) w t ty e inf zz hc.under hi hzz ⟨b,0,none⟩ n cap (vs.take (n * sz)) (by rw [hsz,List.length_take];omega) holds ⟨b2,off2,none⟩ m c2 ys hyl' hnews (by omega) (by omega) (growslice_fits (by omega) hby)
  rw [show (execOp ρ ⟨d,.call ⟨.builtin .append,#[x,y],#[t,t]⟩,ty,pos,af,g⟩).run P w= .ok (.value (.slice (some ⟨w.heap.size,0,none⟩) (n+m) (grownCap w (n+m) cap e))) (w.drew.alloc (.cells ((vs.take (n * sz)).toArray++ys.toArray++Builtin.zeroCells zz.cells (grownCap w (n+m) cap e - (n+m))) e)) by
   simp [execOp,resolve,hxv,hA2,invoke,builtin,hr]]
  have hge:=grownCap_ge w (n+m) cap e
  have hgm:=grownCap_le_maxLen w (n+m) cap e (by unfold maxLen;omega)
  have hzl:∀k,(Builtin.zeroCells zz.cells k).toList.length=k * sz:=fun k=>by rw [Array.length_toList,size_zeroCells,hzs]
  have hzm:∀k,∀v∈(Builtin.zeroCells zz.cells k).toList,v.oneCell'=true:=fun k v hv=>by
   have:=fc hv
   rw [hzc] at this
   exact List.all_eq_true.1 hz1 v (by simpa using this)
  generalize grownCap w (n+m) cap e=cap' at *
  have hmc:cap' * sz=(n+m) * sz+(cap' - (n+m)) * sz:=by rw [←Nat.add_mul];congr 1;omega
  have hzl':=hzl (cap' - (n+m))
  have hzm':=hzm (cap' - (n+m))
  generalize Builtin.zeroCells zz.cells (cap' - (n+m))=zc at *
  refine ⟨σ,.sc _,_,bW.le_refl _,.sc _,((hw.sublist (List.sublist_cons_self ..)).drew _).alloc _ (.box (cs.take (n * sz)++es++zc.toList.map AV.sc) e) ⟨vs.take (n * sz)++ys++zc.toList,by simp,dx (dx (eR hvs _) hyr) (mJ _),fun u hu=>?_⟩,w.heap.size,_,cap',rfl,?_,?_,hge,hgm,fun hh=>absurd hh hroom,rfl⟩
  ·rcases Mo hu with hu | hu
   ·rcases Mo hu with hu | hu
    ·exact h1 _ (List.mem_of_mem_take hu)
    ·exact hy1 _ hu
   ·exact hzm' u hu
  ·simp only [List.length_append,Mv,hzl',List.length_take,hel];omega
  ·rw [List.take_append_of_le_length (by simp;omega),List.take_of_length_le (by simp;omega)]
theorem Gu {dd:Option Tmp} {e sz by_ b off n cap hi:Nat} {k k':IntKind} {a a':Int} (hc:jE P t e sz by_) (hx:bc fr x=some (.sc (.slice (some ⟨b,off,none⟩) n cap))) (hy:bc fr y=some (.sc (.int k a))) (ha:a=(hi:Int)) (hz:bc fr z=some (.sc (.int k' a'))) (ha':a'=(hi:Int)) (h:hi≤cap):Av P ⟨dd,.slice t x none (some y) (some z),ty,pos,af,g⟩ fr (.sc (.slice (some ⟨b,off,none⟩) hi hi)):=by
 intro σ ρ w hρ _
 subst ha;subst ha'
 haveI:=hc
 refine ⟨_,?_,.sc _⟩
 by_cases h0:hi=0
 ·subst h0
  simp [execOp,(hρ x _ hx).sc_inv,(hρ y _ hy).sc_inv,(hρ z _ hz).sc_inv,Instr.sliceAt,Instr.slice,Instr.sliceBounds,Instr.sliceBound,asIntOf,run_underlying hc.under,cH (t:=t)]
 ·simp [execOp,(hρ x _ hx).sc_inv,(hρ y _ hy).sc_inv,(hρ z _ hz).sc_inv,Instr.sliceAt,Instr.slice,Instr.sliceBounds,Instr.sliceBound,asIntOf,run_underlying hc.under,cH (t:=t),h,h0,da]
theorem wU {dd:Option Tmp} {e sz by_ b off n cap hi:Nat} {k:IntKind} {a:Int} (hc:jE P t e sz by_) (hx:bc fr x=some (.sc (.slice (some ⟨b,off,none⟩) n cap))) (hy:bc fr y=some (.sc (.int k a))) (ha:a=(hi:Int)) (h:hi≤cap):Av P ⟨dd,.slice t x none (some y) none,ty,pos,af,g⟩ fr (.sc (.slice (some ⟨b,off,none⟩) hi cap)):=by
 intro σ ρ w hρ _
 subst ha
 haveI:=hc
 refine ⟨_,?_,.sc _⟩
 by_cases h3:cap=0
 ·have:hi=0:=by omega
  subst h3;subst this
  simp [execOp,(hρ x _ hx).sc_inv,(hρ y _ hy).sc_inv,Instr.sliceAt,Instr.slice,Instr.sliceBounds,Instr.sliceBound,asIntOf,run_underlying hc.under,cH (t:=t)]
 ·simp [execOp,(hρ x _ hx).sc_inv,(hρ y _ hy).sc_inv,Instr.sliceAt,Instr.slice,Instr.sliceBounds,Instr.sliceBound,asIntOf,run_underlying hc.under,cH (t:=t),h,h3,da]
theorem qU:∀{L:AL} {i b:Nat} {a:AB},L[i]?=some (b,a)→f3 L i a=L
 | [],_,_,_,h=>by simp at h
 | (c,x)::L,0,b,a,h=>by
  simp at h
  rw [h.2]
  rfl
 | (c,x)::L,i+1,b,a,h=>by
  have:=qU (L:=L) (i:=i) (by simpa using h)
  rw [f3,this]
theorem y9 (i:Nat) {dd:Option Tmp} {e sz by_ b off m k cp:Nat} {cs:List AV} {zs:List Value} (hc:jE P t e sz by_) (hs0:0 < sz) (hz:CZ P e zs) (hz1:zs.all (·.oneCell')=true) (hx:bc fr x=some (.sc (.slice (some ⟨b,off,none⟩) k cp))) (ho:off=m * sz∨k=0) (hL:L[i]?=some (b,.box cs e)) (hfit:m * sz+k * sz≤cs.length):
  AO P ⟨dd,.call ⟨.builtin .clear,#[x],#[t]⟩,ty,pos,af,g⟩ fr B L (fun c L'=>∃cs',c= .sc (.tuple #[])∧cs'.length=cs.length∧cs'.take (m * sz)=cs.take (m * sz)∧L'=f3 L i (.box cs' e)):=by
 intro σ ρ w hρ hw
 haveI:=hc
 obtain ⟨i0,zv,hi0,hs1,hs2,hzv,hzs⟩:=hc.info
 obtain ⟨zv',hz2,hz3⟩:=hz.run
 have hzz:zv=zv':=by
  have:=hz3 w
  simp [zeroValue,typeInfo,hi0,hzv] at this
  exact this
 subst hzz
 have hxv:=(hρ x _ hx).sc_inv
 obtain ⟨vs,hb,hvs,h1⟩:=hw.boxCell hL
 have hl:=hvs.1
 unfold gn
 by_cases hk0:k=0
 ·subst hk0
  rw [show (execOp ρ ⟨dd,.call ⟨.builtin .clear,#[x],#[t]⟩,ty,pos,af,g⟩).run P w= .ok (.value (.tuple #[])) w by
   simp [execOp,resolve,hxv,invoke,builtin,Builtin.clear_,run_underlying hc.under,hz3,Builtin.zeroCells,storeCells]]
  refine ⟨σ,.sc _,_,bW.le_refl _,.sc _,?_,cs,rfl,rfl,rfl,rfl⟩
  rw [qU hL]
  exact hw
 obtain rfl:off=m * sz:=ho.resolve_right hk0
 have hzl:(Builtin.zeroCells zv.cells k).toList.length=k * sz:=by simp [Builtin.zeroCells,hzs]
 have hone:∀v∈(Builtin.zeroCells zv.cells k).toList,v.oneCell'=true:=fun v hv=>by
  have:=fc hv
  have hzl2:zv.cells.toList=zs:=by rw [hz2]
  rw [hzl2] at this
  exact List.all_eq_true.1 hz1 v this
 have hrun:=run_storeCells_cells (P:=P) b (m * sz) (Builtin.zeroCells zv.cells k).toList 0 w (fun j hj=>by rw [Nat.add_zero,cI hb];rw [hzl] at hj;simp;omega) (fun j hj=>ng hb) hone
 simp only [Nat.add_zero] at hrun
 obtain ⟨hg,cs',hh,hs',hj⟩:=gr b (Builtin.zeroCells zv.cells k).toList (m * sz) w _ e (0,0) hb
 obtain ⟨q,hq⟩:∃q,k=q+1:=⟨k - 1,by omega⟩
 rw [show (execOp ρ ⟨dd,.call ⟨.builtin .clear,#[x],#[t]⟩,ty,pos,af,g⟩).run P w= .ok (.value (.tuple #[])) (w.setCells b (m * sz) (Builtin.zeroCells zv.cells k).toList) by
  rw [hq] at hxv hrun ⊢
  simp [execOp,resolve,hxv,invoke,builtin,Builtin.clear_,run_underlying hc.under,hz3,hrun]]
 generalize hzz:(Builtin.zeroCells zv.cells k).toList=ys at *
 refine ⟨σ,.sc _,_,bW.le_refl _,.sc _,hw.putAt (a':= .box (eK cs (m * sz) (ys.map .sc)) e) hL (fun _=>trivial) hg hh ⟨cs'.toList,by simp,⟨by rw [gx,hl];simp [hs'],fun i c u hc hu=>?_⟩,fun u hu=>?_⟩,_,rfl,gx ..,?_,rfl⟩
 ·have hu':cs'[i]?=some u:=by simpa using hu
  rw [hj i] at hu'
  rw [ee _ _ _ _ (by simp;omega)] at hc
  simp only [Mv] at hc
  have hvz:vs.toArray.size=vs.length:=rfl
  by_cases hi:m * sz≤i∧i < m * sz+ys.length
  ·rw [if_pos hi] at hc
   rw [if_pos ⟨hi.1,hi.2,by omega⟩] at hu'
   rw [List.getElem?_map,hu'] at hc
   cases hc
   exact .sc _
  ·rw [if_neg hi] at hc
   rw [if_neg (fun e=>hi ⟨e.1,e.2.1⟩)] at hu'
   exact hvs.2 i c u hc (by simpa using hu')
 ·obtain ⟨i,hi⟩:=List.mem_iff_getElem?.1 hu
  have hu':cs'[i]?=some u:=by simpa using hi
  rw [hj i] at hu'
  split at hu'
  ·exact hone _ (Mx hu')
  ·exact h1 _ (Mx (by simpa using hu'))
 ·refine List.ext_getElem? fun j=>?_
  by_cases hjm:j < m * sz
  ·rw [List.getElem?_take_of_lt hjm,List.getElem?_take_of_lt hjm,ee _ _ _ _ (by simp;omega),if_neg (by omega)]
  ·rw [List.getElem?_eq_none (by rw [List.length_take];omega),List.getElem?_eq_none (by rw [List.length_take];omega)]
end
section
variable {P:Program} {tt:TT} {r:Option Nat} {ops:Array Oper} {Q:Exit→Act→World→Prop} {nt:Nat} {D:List Deferred} {fr:bP} {B:Bs} {L:AL} {rest:List Oper} {d:Nat} {ty t t':TypeId} {pos:String} {af:Array Edge} {x y z:Operand} {u:AV}
theorem iH (ok:dG P tt) (i:Nat) {e sz by_ b n cap m:Nat} {cs es:List AV} {zs:List Value} (ht:iS tt t=some (e,sz,by_)) (hz:zI tt e=some zs) (hz1:zs.all (·.oneCell')=true) (hx:bc fr x=some (.sc (.slice (some ⟨b,0,none⟩) n cap))) (hy:rY fr B L y sz m es) (hL:L[i]?=some (b,.box cs e)) (hcl:cap * sz≤cs.length) (hn:n≤cap) (hcm:cap≤maxLen) (h63:n+m≤maxLen) (hby:(n+m) * by_≤140737488355328) (hd:Nat.ble nt d=false)
  (h:∀b' cs' cap',cap' * sz≤cs'.length→cs'.take ((n+m) * sz)=cs.take (n * sz)++es→n+m≤cap'→cap'≤maxLen→(n+m≤cap→b'=b∧cap'=cap∧cs'=cs.take (n * sz)++es++cs.drop (n * sz+m * sz))→bz P r ops Q nt D rest ((d,.sc (.slice (some ⟨b',0,none⟩) (n+m) cap'))::fr) B ((b',.box cs' e)::L.eraseIdx i)):
  bz P r ops Q nt D (⟨some d,.call ⟨.builtin .append,#[x,y],#[t,t]⟩,ty,pos,af,none⟩::rest) fr B L:=
 ce hd rfl (vh i (bv ok ht).1 (bv ok ht).2 (er ok hz) hz1 hx hy hL hcl hn hcm h63 hby) fun c L' ⟨b',cs',cap',h1,h2,h3,h4,h5,h6,h7⟩=>by subst h1;subst h7;exact h b' cs' cap' h2 h3 h4 h5 h6
theorem Ht (ok:dG P tt) (hi:Nat) {e sz by_ b off n cap:Nat} {k k':IntKind} {a a':Int} (ht:iS tt t=some (e,sz,by_)) (hx:bc fr x=some (.sc (.slice (some ⟨b,off,none⟩) n cap))) (hy:bc fr y=some (.sc (.int k a))) (ha:a=(hi:Int)) (hz:bc fr z=some (.sc (.int k' a'))) (ha':a'=(hi:Int)) (h1:hi≤cap) (hd:Nat.ble nt d=false) (h:bz P r ops Q nt D rest ((d,.sc (.slice (some ⟨b,off,none⟩) hi hi))::fr) B L):
  bz P r ops Q nt D (⟨some d,.slice t x none (some y) (some z),ty,pos,af,none⟩::rest) fr B L:=c5 (Gu (bv ok ht).1 hx hy ha hz ha' h1) hd rfl h
theorem xz (ok:dG P tt) (hi:Nat) {e sz by_ b off n cap:Nat} {k:IntKind} {a:Int} (ht:iS tt t=some (e,sz,by_)) (hx:bc fr x=some (.sc (.slice (some ⟨b,off,none⟩) n cap))) (hy:bc fr y=some (.sc (.int k a))) (ha:a=(hi:Int)) (h1:hi≤cap) (hd:Nat.ble nt d=false) (h:bz P r ops Q nt D rest ((d,.sc (.slice (some ⟨b,off,none⟩) hi cap))::fr) B L):
  bz P r ops Q nt D (⟨some d,.slice t x none (some y) none,ty,pos,af,none⟩::rest) fr B L:=c5 (wU (bv ok ht).1 hx hy ha h1) hd rfl h
theorem C6 (ok:dG P tt) (i:Nat) {e sz by_ b off m k cp:Nat} {cs:List AV} {zs:List Value} (ht:iS tt t=some (e,sz,by_)) (hz:zI tt e=some zs) (hz1:zs.all (·.oneCell')=true) (hx:bc fr x=some (.sc (.slice (some ⟨b,off,none⟩) k cp))) (ho:off=m * sz∨k=0) (hL:L[i]?=some (b,.box cs e)) (hfit:m * sz+k * sz≤cs.length)
  (h:∀cs',cs'.length=cs.length→cs'.take (m * sz)=cs.take (m * sz)→bz P r ops Q nt D rest fr B (f3 L i (.box cs' e))):
  bz P r ops Q nt D (⟨none,.call ⟨.builtin .clear,#[x],#[t]⟩,ty,pos,af,none⟩::rest) fr B L:=
 jM rfl (y9 i (bv ok ht).1 (bv ok ht).2 (er ok hz) hz1 hx ho hL hfit) fun c L' ⟨cs',h1,h2,h3,h4⟩=>by subst h4;exact h cs' h2 h3
end
end Go.Proofs.YtamjlkdanllgjaaGreatDoor
namespace Go.Proofs.YtamjlkdanllgjaaGreatDoor
open Go.RowKit
def zX (P:Program):Nat→List Field→Prop
 | _,[]=>True
 | k,f::fs=>(f.name≠ "_" ∧f.offset=k∧P.underlying f.type=some (.int .i64))∧zX P (k+1) fs
structure wP (P:Program) (t:TypeId) (n:Nat):Prop where
 ex:∃fs:Array Field,P.underlying t=some (.struct fs)∧fs.size=n∧zX P 0 fs.toList
 st:P.stoodInHeld t=false
 gd:P.eqGuardType P.depth t=false
def oy (l:List Int):List Value:=l.map fun z=> .int .i64 z
section
variable {P:Program}
theorem qa (w:World) (d:Nat) (xs ys:List Int):∀(fs:List Field) (k:Nat),zX P k fs→k+fs.length=xs.length→xs.length=ys.length→
  (Op.eqFields (d+1) (oy xs).toArray (oy ys).toArray fs).run P w= .ok (decide (xs.drop k=ys.drop k)) w
 | [],k,_,hx,hy=>by
  simp only [List.length_nil,Nat.add_zero] at hx
  rw [List.drop_of_length_le (by omega),List.drop_of_length_le (by omega)]
  simp [Op.eqFields]
 | f::fs,k,h,hx,hy=>by
  obtain ⟨⟨hn,ho,hu⟩,hr⟩:=h
  simp only [List.length_cons] at hx
  have hkx:k < xs.length:=by omega
  have hky:k < ys.length:=by omega
  have ih:=qa w d xs ys fs (k+1) hr (by omega) hy
  simp only [Op.eqFields,if_pos hn,Sem.run_bind,ho]
  rw [dO hu (v:= .int .i64 xs[k]) (by simp [oy,hkx])]
  simp only [Result.andThen]
  rw [dO hu (v:= .int .i64 ys[k]) (by simp [oy,hky])]
  simp only [Result.andThen]
  rw [run_equalIn_int w d f.type .i64 .i64 _ _ hu]
  simp only [Result.andThen,Sem.run_ite]
  have e:decide (xs.drop k=ys.drop k)=decide (xs[k]=ys[k]∧xs.drop (k+1)=ys.drop (k+1)):=by
   rw [List.drop_eq_getElem_cons hkx,List.drop_eq_getElem_cons hky]
   exact decide_eq_decide.2 (by rw [List.cons.injEq])
  rw [e,ih]
  by_cases he:xs[k]=ys[k]
  ·simp only [he,true_and]
   simp
  ·simp [he]
theorem wP.eq {t:TypeId} {n:Nat} (h:wP P t n) {xs ys:List Int} (hx:xs.length=n) (hy:ys.length=n) (w:World):(Op.equal t (.agg (oy xs).toArray) (.agg (oy ys).toArray)).run P w= .ok (decide (xs=ys)) w:=by
 obtain ⟨⟨fs,hu,hs,hf⟩,hst,_⟩:=h
 have hf':P.fieldsOf t=fs:=by simp [Program.fieldsOf,hu]
 have hu':P.underlying t=some (.struct (P.fieldsOf t)):=by rw [hf'];exact hu
 unfold Op.equal
 rw [show Op.maxDepth=9999+1 from rfl,run_equalIn_struct w 9999 t _ _ hu' hst,hf',show (9999:Nat)=9998+1 from rfl,qa w 9998 xs ys fs.toList 0 hf (by simp;omega) (by omega)]
 rfl
theorem xX {σ:bW} {l:List Int} {v:Value} (h:VR σ (.agg ((oy l).map .sc)) v):v= .agg (oy l).toArray:=by
 cases h with
 | agg _ vs hl h h1=>
  simp only [Mv] at hl
  have e:vs=oy l:=by
   refine List.ext_getElem? fun i=>?_
   by_cases hi:i < vs.length
   ·rw [Ia hi,Ia (by omega)]
    have:=h i (.sc (oy l)[i]) vs[i] (by rw [List.getElem?_map,Ia (by omega)];rfl) (Ia hi)
    rw [this.sc_inv]
   ·rw [List.getElem?_eq_none (by omega),List.getElem?_eq_none (by omega)]
  rw [e]
end
section
variable {P:Program} {fr:bP} {B:Bs} {L:AL} {d:Option Tmp} {ty t t':TypeId} {pos:String} {af:Array Edge} {g:Option (Nat×Bool)} {x y z:Operand}
theorem GD {n:Nat} {a b:List Int} (ht:wP P t n) (hx:bc fr x=some (.agg ((oy a).map .sc))) (hy:bc fr y=some (.agg ((oy b).map .sc))) (ha:a.length=n) (hb:b.length=n):Av P ⟨d,.binOp .neq t x y t',ty,pos,af,g⟩ fr (.sc (.bool (!decide (a=b)))):=by
 intro σ ρ w hρ _
 refine ⟨_,?_,.sc _⟩
 have h1:=xX (hρ x _ hx)
 have h2:=xX (hρ y _ hy)
 have h3:=ht.eq ha hb w
 unfold Op.equal at h3
 rw [show Op.maxDepth=10000 from rfl] at h3
 simp only [execOp,h1,h2,Sem.run_bind,run_eqGuard_agg w .neq t x y _ _ ht.gd,run_neq_struct,h3,Result.andThen,Sem.run_pure]
end
end Go.Proofs.YtamjlkdanllgjaaGreatDoor
namespace Go.Proofs.YtamjlkdanllgjaaGreatDoor
open Go.RowKit
attribute [local irreducible] AT bz AX AO Av Kt aZ cY DA cu
set_option maxRecDepth 8000
def d4 (a b:AV):Prop:=∀σ v,VR σ a v→VR σ b v
def mQ:List AV→List AV→Prop
 | [],[]=>True
 | a::r,b::q=>d4 a b∧mQ r q
 | _,_=>False
def Gn:List (List AV)→List (List AV)→Prop
 | [],[]=>True
 | a::r,b::q=>mQ a b∧Gn r q
 | _,_=>False
theorem d4.refl (a:AV):d4 a a:=fun _ _ h=>h
theorem d4.nil (n:Nat):d4 (.sc (.slice none 0 0)) (.imm n []):=fun _ _ h=>dW n h
theorem mQ.len:∀{a b:List AV},mQ a b→a.length=b.length
 | [],[],_=>rfl
 | _::_,_::_,h=>by simp [h.2.len]
theorem mQ.at:∀{a b:List AV},mQ a b→∀(i:Nat) c c',a[i]?=some c→b[i]?=some c'→d4 c c'
 | x::a,y::b,h,0,c,c',h1,h2=>by
  simp at h1 h2
  subst h1;subst h2
  exact h.1
 | _::a,_::b,h,i+1,c,c',h1,h2=>h.2.at i c c' (by simpa using h1) (by simpa using h2)
theorem mQ.vrs {a b:List AV} (h:mQ a b) {σ:bW} {vs:List Value} (hv:cR σ a vs):cR σ b vs:=FB h.len (fun i c c' h1 h2=>h.at i c c' h1 h2 σ) hv
theorem Gn.len:∀{a b:List (List AV)},Gn a b→a.length=b.length
 | [],[],_=>rfl
 | _::_,_::_,h=>by simp [h.2.len]
theorem Gn.at:∀{a b:List (List AV)},Gn a b→∀(i:Nat) c c',a[i]?=some c→b[i]?=some c'→mQ c c'
 | x::a,y::b,h,0,c,c',h1,h2=>by
  simp at h1 h2
  subst h1;subst h2
  exact h.1
 | _::a,_::b,h,i+1,c,c',h1,h2=>h.2.at i c c' (by simpa using h1) (by simpa using h2)
theorem d4.agg {a b:List AV} (h:mQ a b):d4 (.agg a) (.agg b):=fun σ v hv=>by
 cases hv with
 | agg _ vs hl hx h1=>exact .agg _ _ (h.len▸hl) (fun i c u hc hu=>(h.vrs (σ:=σ) ⟨hl,hx⟩).2 i c u hc hu) h1
theorem d4.imm {s:Nat} {a b:List (List AV)} (h:Gn a b):d4 (.imm s a) (.imm s b):=fun σ v hv=>by
 cases hv with
 | imm _ _ A cap hc hm hs ha hx hh=>
  have hl:=h.len
  rw [hl]
  have get:∀{i:Nat} {e:List AV},b[i]?=some e→∃e',a[i]?=some e'∧mQ e' e:=fun {i e} he=>by
   have hi:i < a.length:=by rw [hl];exact (Mq he).1
   exact ⟨_,Ia hi,h.at i _ _ (Ia hi) he⟩
  refine .imm s b A cap (hl▸hc) hm (fun e he=>?_) (fun hb=>ha fun e=>hb (List.eq_nil_of_length_eq_zero (by rw [←hl,e];rfl))) (fun i b' off j hA hi hj=>hx i b' off j hA (hl▸hi) hj) fun i e b' off j c u he hA hj hu=>?_
  ·obtain ⟨i,hi⟩:=List.mem_iff_getElem?.1 he
   obtain ⟨e',h1,h2⟩:=get hi
   rw [←h2.len]
   exact hs _ (Mx h1)
  ·obtain ⟨e',h1,h2⟩:=get he
   have hj':j < e'.length:=by rw [h2.len];exact (Mq hj).1
   exact h2.at j _ c (Ia hj') hj σ u (hh i e' b' off j _ u h1 hA (Ia hj') hu)
theorem AC.args {P:Program} {f:FuncId} {a b:List AV} {L:AL} {Post:AV→AL→Prop} (h:AC P f b L Post) (k:mQ a b):AC P f a L Post:=fun σ w vs hv hs=>h σ w vs (k.vrs hv) hs
section
variable {P:Program} {nt:Nat} {fr:bP} {B:Bs} {L:AL}
theorem sW {fn:Func} {t:Tmp} {e:TypeId} {b k:Nat} {cs:List Value} {tmps:Array Value} {w:World} [G9 P e k] (h:fn.results=#[.cell t e]) (ht:tmps.getD t undef= .pointer (some ⟨b,0,none⟩)) (hl:cs.length=k) (hc:∀j v,cs[j]?=some v→w.cell? ⟨b,0+j,none⟩=some v):
  (results fn tmps).run P w= .ok (.agg cs.toArray) w:=by
 rw [Array.getD_eq_getD_getElem?] at ht
 simp [results,h,ht,asAddr,fN hl hc]
end
end Go.Proofs.YtamjlkdanllgjaaGreatDoor
namespace Go.Proofs.YtamjlkdanllgjaaGreatDoor
open Go.RowKit
attribute [local irreducible] AT bz AX AO Av Kt aZ cY DA cu
set_option maxRecDepth 8000
abbrev eZ (b:Nat):AV:= .sc (.pointer (some ⟨b,0,none⟩))
abbrev J9:AV:= .sc (.pointer none)
structure f0 where
 rb:Nat
 cap:Nat
 junk:List AV
def bO (run:List aM):List AV:=(run.map cg).flatten
def cG (q:Option f0) (run:List aM):AV:=match q with
 | none=> .imm 6 []
 | some m=> .sc (.slice (some ⟨m.rb,0,none⟩) run.length m.cap)
def dw (q:Option f0) (run:List aM):AL:=match q with
 | none=>[]
 | some m=>[(m.rb,.box (bO run++m.junk) 56)]
structure cS (q:Option f0) (run:List aM):Prop where
 emp:q=none→run=[]
 fit:∀m,q=some m→run.length≤m.cap∧m.cap≤maxLen∧m.cap * 6≤(bO run++m.junk).length
abbrev uY (wb:Nat) (eng:AV) (q:Option f0) (run:List aM):AL:=(wb,.box [eng,cG q run] 328)::dw q run
theorem cJ (run:List aM):(bO run).length=run.length * 6:=by
 induction run with
 | nil=>rfl
 | cons x r ih=>simp [bO] at ih ⊢;simp [cg,ih];omega
theorem fq (x:aM) (r:List aM):bO (x::r)=cg x++bO r:=by simp [bO]
theorem g8 (a b:List aM):bO (a++b)=bO a++bO b:=by simp [bO]
theorem rd:∀{run:List aM} {i j:Nat} {x:aM} {u:AV} (junk:List AV),run[i]?=some x→(cg x)[j]?=some u→(bO run++junk)[i * 6+j]?=some u
 | [],i,_,_,_,_,h,_=>by simp at h
 | y::r,0,j,x,u,junk,h,hj=>by
  simp at h
  subst h
  rw [fq,List.append_assoc,Nat.zero_mul,Nat.zero_add,List.getElem?_append_left (Mq hj).1]
  exact hj
 | y::r,i+1,j,x,u,junk,h,hj=>by
  rw [fq,List.append_assoc,List.getElem?_append_right (by simp [cg];omega)]
  have:=rd (i:=i) junk (by simpa using h) hj
  rw [show (i+1) * 6+j - (cg y).length=i * 6+j by simp [cg];omega]
  exact this
structure oB where
 l:b6
 cls:List Int
 fore:List (List Int)
 back:List (List Int)
 foreE:List Nat
 backE:List Nat
abbrev iy (z:Nat):AV:= .sc (.int .u64 (z:Int))
def fR (l:List Nat):List (List AV):=l.map fun z=>[iy z]
def eC (r:bh):bh:={ r with Back:=[],Ahead:=[] }
def iu (l:b6):b6:={ l with Rules:=l.Rules.map eC }
def ID (e:oB):List AV:=[.imm 1 (aT e.cls),.imm 1 (bj e.fore),.imm 1 (bj e.back),.imm 1 (fR e.foreE),.imm 1 (fR e.backE)]
def f4 (e:oB):List AV:=[aF e.l.Kind,cw e.l.Ignore,.imm 6 ((iu e.l).Rules.map bR),.imm 1 (aT e.cls),.imm 1 (bj e.fore),.imm 1 (bj e.back),.imm 1 (fR e.foreE),.imm 1 (fR e.backE),aF (fz e.l.Rules),aF (gN e.l.Rules)]
def mY (l:List Bool):List (List AV):=l.map fun b=>[cw b]
theorem tI (l:List Bool):(mY l).length=l.length:=by simp [mY]
theorem AR {l:List Bool} {i:Nat} {b:Bool} (h:l[i]?=some b):(mY l)[i]?=some [cw b]:=by simp [mY,h]
structure ot where
 lks:List oB
 ms:List Bool
def dZ (E:ot):List AV:=[.imm 10 (E.lks.map f4),.imm 1 (mY E.ms)]
theorem cS.lt {q:Option f0} {run:List aM} (h:cS q run) {i:Nat} (hi:i < run.length):∃m,q=some m:=by
 cases q with
 | none=>rw [h.emp rfl] at hi;simp at hi
 | some m=>exact ⟨m,rfl⟩
section
variable {P:Program} {tt:TT} {r:Option Nat} {ops:Array Oper} {Q:Exit→Act→World→Prop} {nt:Nat} {D:List Deferred} {fr:bP} {B:Bs} {L:AL} {rest:List Oper} {d:Nat} {ty t t':TypeId} {pos:String} {af:Array Edge} {g:Option (Nat×Bool)} {x y z:Operand} {q:Option f0} {run:List aM}
theorem GA {dd:Option Tmp} {e sz by_:Nat} (hc:jE P t e sz by_) (hq:cS q run) (hx:bc fr x=some (cG q run)):Av P ⟨dd,.call ⟨.builtin .len,#[x],#[t]⟩,ty,pos,af,g⟩ fr (.sc (.int .i64 run.length)):=by
 cases q with
 | none=>
  rw [hq.emp rfl] at hx ⊢
  exact vb hc hx rfl
 | some m=>exact Ac hc hx
theorem lr (ok:dG P tt) {e sz by_:Nat} (ht:iS tt t=some (e,sz,by_)) (hq:cS q run) (hx:bc fr x=some (cG q run)) (hd:Nat.ble nt d=false) (h:bz P r ops Q nt D rest ((d,.sc (.int .i64 run.length))::fr) B L):bz P r ops Q nt D (⟨some d,.call ⟨.builtin .len,#[x],#[t]⟩,ty,pos,af,none⟩::rest) fr B L:=c5 (GA (bv ok ht).1 hq hx) hd rfl h
end
theorem m4 {run:List aM} {i j:Nat} {x:aM} {u:AV} (junk:List AV) (h:run[i]?=some x) (hj:(cg x)[j]?=some u):(bO run++junk)[0+((i:Nat):Int).toNat * 6+j]?=some u:=by
 rw [Int.toNat_natCast,Nat.zero_add]
 exact rd junk h hj
set_option maxHeartbeats 1000000 in
theorem sY (E:ot) (e:oB) (wb:Nat) (m:f0) (run:List aM) (i:Nat) (x:aM) (hx:run[i]?=some x):AC Tryz.prog 322 [eZ wb,.iptr (f4 e),aF i] (uY wb (.iptr (dZ E)) (some m) run) fun c L=>c=cw (mz E.ms e.l.Ignore x)∧L=uY wb (.iptr (dZ E)) (some m) run:=by
 refine aI Tryz.func322 rfl Tryz.ntmps322 rfl fun B=>?_
 have hil:=(Mq hx).1
 have h0:=m4 (j:=0) m.junk hx rfl
 have hbl:=tI E.ms
 repeat' (first|refine ae ?_|refine a6 ?_|refine a8 ?_|refine aa ?_|refine LR a7 LL ?_)
 refine bB 16 [(0,.v),(1,.v),(2,.v),(3,.l),(4,.v),(5,.v),(6,.v),(7,.l),(8,.v),(9,.v),(10,.v),(11,.l),(12,.v),(13,.v),(14,.v),(15,.v)] none ?_ trivial rfl (by kernel_rfl) (by kernel_rfl) (by kernel_rfl) mixed (by kernel_rfl) rfl
 repeat' (first|refine aJ ?_|refine bw a7 ?_|refine cn a7 0 rfl rfl rfl rfl (by first|trivial|rfl) ?_)
 refine cx a7 rfl rfl rfl ⟨by omega,by omega⟩ trivial ?_
 repeat' (first|refine aJ ?_|refine bw a7 ?_|fail)
 refine cn a7 1 rfl rfl rfl h0 trivial ?_
 repeat' (first|refine aJ ?_|refine bw a7 ?_|refine cn a7 0 rfl rfl rfl rfl (by first|trivial|rfl) ?_)
 refine MG [1,7,23] LL ?_
 have hs:mz E.ms e.l.Ignore x=(!e.l.Ignore || (decide (x.Glyph < 0) || (decide (x.Glyph≥E.ms.length) || !(E.ms.getD x.Glyph.toNat false)))):=by
  unfold mz FX
  by_cases h1:0≤x.Glyph
  ·by_cases h2:x.Glyph≥E.ms.length
   ·rw [List.getD_eq_getElem?_getD,List.getElem?_eq_none (by omega)];simp [h1,h2]
   ·rw [decide_eq_false h2,decide_eq_false (by omega:¬x.Glyph < 0),decide_eq_true h1];cases e.l.Ignore <;> simp
  ·simp [h1,show x.Glyph < 0 by omega]
 rw [hs]
 repeat' (first|refine ae ?_|refine a6 ?_|refine am ?_|refine a8 ?_|refine aa ?_|refine LR a7 LL ?_|refine MB LL ?_|refine MC LN ?_|refine MD LM (fun _=>?_) (fun _=>?_))
 ·rename_i h1 h2 h3
  have h4:¬((mY E.ms).length:Int)≤x.Glyph:=My h3
  have h5:=My h2
  obtain ⟨b,hb⟩:∃b,E.ms[x.Glyph.toNat]?=some b:=⟨_,Ia (by omega)⟩
  have hbg:=AR hb
  repeat' (first|refine am ?_|refine a8 ?_|refine aa ?_|refine LR a7 LL ?_|refine MB LL ?_|(apply aL;first|refine aK a7 ?_|refine aH a7 ?_)|fail)
  refine MA LL ⟨?_,rfl⟩
  rw [h1,h2,decide_eq_false (by omega:¬x.Glyph≥E.ms.length),List.getD_eq_getElem?_getD,hb]
  rfl
 ·rename_i h1 h2 h3
  refine MA LL ⟨?_,rfl⟩
  rw [hbl] at h3
  rw [h1,h2,show decide (x.Glyph≥E.ms.length)=true from h3]
  rfl
 ·rename_i h1 h2
  refine MA LL ⟨?_,rfl⟩
  rw [h1,h2]
  rfl
 ·rename_i h1
  refine MA LL ⟨?_,rfl⟩
  rw [h1]
  rfl
end Go.Proofs.YtamjlkdanllgjaaGreatDoor
namespace Go.Proofs.YtamjlkdanllgjaaGreatDoor
open Go.RowKit
attribute [local irreducible] AT bz AX AO Av Kt aZ cY DA cu
set_option maxRecDepth 8000
section
variable {ms:List Bool} {ig:Bool} {run:List aM}
theorem rj {i:Nat} (h:run.length≤i):dU ms ig run i=[]:=by
 unfold dU
 rw [show run.length - i=0 by omega]
 rfl
theorem jb {i:Nat} (h:i < run.length):dU ms ig run i=if jn ms ig run i=true then i::dU ms ig run (i+1) else dU ms ig run (i+1):=by
 unfold dU
 rw [show run.length - i=(run.length - (i+1))+1 by omega,List.range'_succ,List.filter_cons]
theorem kL {i:Nat} {x:aM} (h:run[i]?=some x):jn ms ig run i=mz ms ig x:=by
 unfold jn
 rw [h]
theorem vR {i:Nat} {x:aM} (h:run[i]?=some x):fj run i=x.Glyph:=by
 unfold fj
 rw [h]
theorem Bp {i:Nat}:∀p∈dU ms ig run i,i≤p∧p < run.length∧jn ms ig run p=true:=fun p hp=>by
 unfold dU at hp
 obtain ⟨h1,h2⟩:=List.mem_filter.1 hp
 obtain ⟨h3,h4⟩:=List.mem_range'_1.1 h1
 exact ⟨h3,by omega,h2⟩
end
end Go.Proofs.YtamjlkdanllgjaaGreatDoor
