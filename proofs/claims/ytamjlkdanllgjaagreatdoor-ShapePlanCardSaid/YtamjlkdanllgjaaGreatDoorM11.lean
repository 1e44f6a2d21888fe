/-
  Texts put together, texts of bytes, places in arrays, rests.
-/
import Derived.Test.YtamjlkdanllgjaaGreatDoorM10
import Derived.Test.YtamjlkdanllgjaaGreatDoorM06
import Derived.Test.YtamjlkdanllgjaaGreatDoorM07
import Derived.Test.YtamjlkdanllgjaaGreatDoorM05
import Derived.Laws.Shifts
namespace Go.Proofs.YtamjlkdanllgjaaGreatDoor
open Go.RowKit
section
variable {P:Program} {fr:bZ} {B:Bs} {L:AL} {d:Option Tmp} {ty t t':TypeId} {pos:String} {af:Array Edge} {g:Option (Nat×Bool)} {x y:Operand} {u:AV}
theorem L7 {a b:ByteArray} (hx:bw fr x=some (.sc (.string a))) (hy:bw fr y=some (.sc (.string b))) (h:a.size+b.size≤1000000):Av P ⟨d,.binOp .add t x y t',ty,pos,af,g⟩ fr (.sc (.string (a++b))):=
 eF fun ρ w hρ=>by
  have:¬(9223372036854775807:Int) < ((a.size+b.size:Nat):Int):=by omega
  have h9:IntKind.max .i64=9223372036854775807:=rfl
  simp [execOp,hρ _ _ hx,hρ _ _ hy,eqGuard,binOp,Op.stringOp,h9]
  omega
theorem Gj {e by_:Nat} {c:Int} (hs:m8 P t e 1 by_) (he:CW P e .u8) (hd:CX P t') (hx:bw fr x=some u) (hu:u.im= .imm 1 [[.sc (.int .u8 c)]]):Av P ⟨d,.convert t t' x,ty,pos,af,g⟩ fr (.sc (.string ⟨#[UInt8.ofNat c.toNat]⟩)):=
 fun σ ρ w hρ hw=>by
  have h1:=(hρ x _ hx).im
  rw [hu] at h1
  obtain ⟨A,cap,hv,_,_,hsz,ha,hcx,hcy⟩:=h1.imm_inv
  obtain ⟨b,off,rfl⟩:=ha (by simp)
  obtain ⟨v,hv1,_⟩:=hcx 0 b off 0 rfl (by simp) (by omega)
  have hv2:=hcy 0 _ b off 0 _ v rfl rfl rfl hv1
  have hv3:=hv2.sc_inv
  subst hv3
  have hcell:w.cell? ⟨b,off,none⟩=some (.int .u8 c):=by
   have:=hw _ _ _ hv1
   simpa using this
  have hload:(loadCells ⟨b,off,none⟩ 1).run P w= .ok #[.int .u8 c] w:=by
   have:=run_loadCells_list (P:=P) w ⟨b,off,none⟩ [.int .u8 c] fun j v hj=>by
    cases j with
    | zero=>simp at hj;subst hj;simpa [Addr.add] using hcell
    | succ j=>simp at hj
   simpa using this
  refine ⟨_,?_,.sc _⟩
  simp [execOp,hv,convert,run_underlying hs.under,run_underlying he.under,run_underlying hd.under,Conv.bytesToString,hload]
  rfl
theorem ID {n e sz k:Nat} {q:IntKind} {cs:List AV} (ht:P.underlying t=some (.array n e)) (hs:(P.info? e).map (·.size)=some sz) (hx:bw fr x=some (.iptr cs)) (hy:bw fr y=some (.sc (.int q (k:Int)))) (hk:k < n) (hl:k * sz≤cs.length):Av P ⟨d,.indexAddr t x y,ty,pos,af,g⟩ fr (.iptr (cs.drop (k * sz))):=
 fun σ ρ w hρ _=>by
  have hyv:=(hρ y _ hy).sc_inv
  obtain ⟨b,off,hv,hcx,hcy⟩:=(hρ x _ hx).iptr_inv
  have hk':(k:Int) < (n:Int):=by omega
  have hso:(sizeOf e:Sem Nat).run P w= .ok sz w:=by
   cases hi:P.info? e with
   | none=>rw [hi] at hs;cases hs
   | some i=>rw [hi] at hs;simp at hs;simp [sizeOf,typeInfo,hi,hs]
  refine ⟨.pointer (some ⟨b,off+k * sz,none⟩),?_,.iptr _ _ _ (fun j hj=>?_) fun j c v hc hw=>?_⟩
  ·simp [execOp,hv,hyv,Instr.indexAt,asIntOf,run_underlying ht,hk',hso,Instr.sureAddr,Addr.add]
   by_cases hn:n≤1 <;> by_cases h0:k * sz=0 <;> simp [hn,run_underlying ht,hso,hk,h0]
  ·have:=hcx (k * sz+j) (by simp at hj;omega)
   simpa [Nat.add_assoc] using this
  ·exact hcy (k * sz+j) c v (by simpa using hc) (by simpa [Nat.add_assoc] using hw)
end
def vD (tt:TT) (t:Nat):Option (Nat×Nat×Nat):=match dC tt t with
 | some ⟨.arr n e sz,_,_⟩=>some (n,e,sz)
 | _=>none
theorem gL {P:Program} {tt:TT} (ok:eh P tt) {t n e sz:Nat} (h:vD tt t=some (n,e,sz)):P.underlying t=some (.array n e)∧(P.info? e).map (·.size)=some sz:=by
 unfold vD at h
 split at h
 ·rename_i n' e' sz' si z ht
  cases h
  have:=ok.ok t _ ht
  simp only [CM,Bool.and_eq_true] at this
  obtain ⟨_,h2⟩:=this
  split at h2 <;> simp at h2
  rename_i hu
  obtain ⟨⟨rfl,rfl⟩,h3⟩:=h2
  refine ⟨hu,?_⟩
  unfold pU at h3
  split at h3
  ·rename_i i hi
   simp at h3
   simp [hi,h3]
  ·cases h3
 ·cases h
section
variable {P:Program} {tt:TT} {r:Option Nat} {ops:Array Oper} {Q:Exit→Act→World→Prop} {nt:Nat} {D:List Deferred} {fr:bZ} {B:Bs} {L:AL} {rest:List Oper} {d:Nat} {ty t t':TypeId} {pos:String} {af:Array Edge} {x y z:Operand} {u:AV}
theorem A8 {a b:Int} (h:bF P r ops Q nt D rest ((d,.sc (.int .i64 (a.tmod b)))::fr) B L) (hx:bw fr x=some (.sc (.int .i64 a)):=by rfl) (hy:bw fr y=some (.sc (.int .i64 b)):=by rfl) (hb:b≠0:=by omega) (hd:Nat.ble nt d=false:=by rfl):bF P r ops Q nt D (⟨some d,.binOp .rem t x y t',ty,pos,af,none⟩::rest) fr B L:=cz (IF hx hy hb) hd rfl h
theorem IV (ok:eh P tt) (k:Nat) {n e sz:Nat} {q:IntKind} {cs:List AV} (h:bF P r ops Q nt D rest ((d,.iptr (cs.drop (k * sz)))::fr) B L) (ht:vD tt t=some (n,e,sz):=by rfl) (hx:bw fr x=some (.iptr cs):=by rfl) (hy:bw fr y=some (.sc (.int q (k:Int))):=by rfl) (hk:Nat.blt k n=true:=by rfl) (hl:Nat.ble (k * sz) cs.length=true:=by rfl) (hd:Nat.ble nt d=false:=by rfl):bF P r ops Q nt D (⟨some d,.indexAddr t x y,ty,pos,af,none⟩::rest) fr B L:=by
 obtain ⟨h1,h2⟩:=gL ok ht
 exact cz (ID h1 h2 hx hy (by simpa [Nat.blt_eq] using hk) (by simpa [Nat.ble_eq] using hl)) hd rfl h
end
section
variable {P:Program} {tt:TT} {l:List Oper} {fr:bZ} {fin:kV} {sk:mT} {acc:bZ} {L:AL} {k:Nat} {dd:Option Tmp} {ty t t':TypeId} {pos:String} {af:Array Edge} {g:Option (Nat×Bool)} {x y:Operand} {u:AV}
theorem IL {a b:ByteArray} (h:DA P l fr fin sk ((k,.sc (.string (a++b)))::acc) L) (hx:bw (cO l.toArray acc fr af.toList) x=some (.sc (.string a)):=by rfl) (hy:bw (cO l.toArray acc fr af.toList) y=some (.sc (.string b)):=by rfl) (hs:a.size+b.size≤1000000:=by decide) (hg:j6 ⟨dd,.binOp .add t x y t',ty,pos,af,g⟩ acc:=by first | trivial | rfl):cu P l fr fin k .v ⟨dd,.binOp .add t x y t',ty,pos,af,g⟩ sk acc L:=fW hg (F7 (L7 hx hy hs)) h
theorem DZ {a:Int} {q q':IntKind} {ti ti':TI} (ok:eh P tt) (h:DA P l fr fin sk ((k,.sc (.int q' (q'.wrap a)))::acc) L) (hx:bw (cO l.toArray acc fr af.toList) x=some (.sc (.int q a)):=by rfl) (ht:dC tt t=some ti:=by rfl) (hk:ti.k= .int q:=by rfl) (ht':dC tt t'=some ti':=by rfl) (hk':ti'.k= .int q':=by rfl) (hg:j6 ⟨dd,.convert t t' x,ty,pos,af,g⟩ acc:=by first | trivial | rfl):cu P l fr fin k .v ⟨dd,.convert t t' x,ty,pos,af,g⟩ sk acc L:=by
 haveI:=ok.int ht hk
 haveI:=ok.int ht' hk'
 exact fW hg (F7 (sU hx)) h
theorem zx (ok:eh P tt) {e by_:Nat} {c:Int} {ti ti':TI} (h:DA P l fr fin sk ((k,.sc (.string ⟨#[UInt8.ofNat c.toNat]⟩))::acc) L) (hx:bw (cO l.toArray acc fr af.toList) x=some u:=by rfl) (hu:gZ u=some (1,[[.sc (.int .u8 c)]]):=by rfl) (ht:jW tt t=some (e,1,by_):=by rfl) (he:dC tt e=some ti:=by rfl) (hk:ti.k= .int .u8:=by rfl) (ht':dC tt t'=some ti':=by rfl) (hk':ti'.k= .str:=by rfl) (hg:j6 ⟨dd,.convert t t' x,ty,pos,af,g⟩ acc:=by first | trivial | rfl):cu P l fr fin k .v ⟨dd,.convert t t' x,ty,pos,af,g⟩ sk acc L:=
 fW hg (F7 (Gj (bE ok ht).1 (ok.int he hk) (ok.str ht' hk') hx (cG hu))) h
theorem IK (ok:eh P tt) (m:Nat) {n e sz:Nat} {q:IntKind} {cs:List AV} (h:DA P l fr fin sk ((k,.iptr (cs.drop (m * sz)))::acc) L) (ht:vD tt t=some (n,e,sz):=by rfl) (hx:bw (cO l.toArray acc fr af.toList) x=some (.iptr cs):=by rfl) (hy:bw (cO l.toArray acc fr af.toList) y=some (.sc (.int q (m:Int))):=by rfl) (hk:Nat.blt m n=true:=by rfl) (hl:Nat.ble (m * sz) cs.length=true:=by rfl) (hg:j6 ⟨dd,.indexAddr t x y,ty,pos,af,g⟩ acc:=by first | trivial | rfl):cu P l fr fin k .v ⟨dd,.indexAddr t x y,ty,pos,af,g⟩ sk acc L:=by
 obtain ⟨h1,h2⟩:=gL ok ht
 exact fW hg (F7 (ID h1 h2 hx hy (by simpa [Nat.blt_eq] using hk) (by simpa [Nat.ble_eq] using hl))) h
end
section
variable {P:Program} {l:List Oper} {fr:bZ} {fin:kV} {sk:mT} {acc:bZ} {L:AL} {k j:Nat} {dd:Option Tmp} {op:Op} {ty:TypeId} {pos:String} {af:Array Edge} {b want:Bool}
theorem JV (hj:qx acc j= .sc (.bool b)) (hb:(b==want)=false) (hn:DA P l fr fin sk ((k,.sc undef)::acc) L):cu P l fr fin k .f ⟨dd,op,ty,pos,af,some (j,want)⟩ sk acc L:=by
 intro ho
 obtain ⟨pl,hpl⟩:=hn
 refine ⟨.eff k (fun c L'=>c= .sc undef∧L'=L) fun _ _=>pl,.f,sk,_,.inr (.inr ⟨rfl,fun c L' ⟨_,h2⟩ hK=>by rw [h2];exact hK⟩),rfl,ho,.inr ⟨⟨_,hj,fun e=>by injection e with e;subst e;simp at hb⟩,rfl,rfl⟩,fun c L' ⟨h1,h2⟩=>by rw [h1,h2];exact hpl⟩
end
end Go.Proofs.YtamjlkdanllgjaaGreatDoor
namespace Go.Proofs.YtamjlkdanllgjaaGreatDoor
open Go.RowKit
section
variable {P:Program} {fr:bZ} {B:Bs} {L:AL} {d:Option Tmp} {ty t t':TypeId} {pos:String} {af:Array Edge} {g:Option (Nat×Bool)} {x y z q:Operand} {u:AV}
theorem CZ.cells {e:TypeId} {i:TypeInfo} {zz:Value} {zs:List Value} (hz:CZ P e zs) (hi:P.info? e=some i) (hzz:i.zero=some zz) (w:World):zz.cells=zs.toArray:=by
 obtain ⟨v,hv,hr⟩:=hz.run
 have:=hr w
 simp [zeroValue,typeInfo,hi,hzz] at this
 rw [this,hv]
theorem ve {σ:cm} (l:List Value):d4 σ (l.map .sc) l:=by
 refine ⟨by simp,fun i c u hc hu=>?_⟩
 rw [List.getElem?_map,hu] at hc
 cases hc
 exact .sc _
theorem jq {zs:Array Value} {n:Nat} {v:Value} (h:v∈(Builtin.zeroCells zs n).toList):v∈zs.toList:=by
 obtain ⟨i,hi,rfl⟩:=List.getElem_of_mem h
 simp only [Builtin.zeroCells] at hi ⊢
 by_cases h0:zs.size=0
 ·simp [h0] at hi
 ·have:i % zs.size < zs.size:=Nat.mod_lt _ (by omega)
  simp [this]
theorem qP (i:Nat) {e sz by_ b n cap:Nat} {cs es:List AV} {zs:List Value} (hc:m8 P t e sz by_) (hs0:0 < sz) (hz:CZ P e zs) (hz1:zs.all (·.oneCell')=true) (hx:bw fr x=some (.sc (.slice (some ⟨b,0,none⟩) n cap))) (hy:bw fr y=some u) (hu:u.im= .imm sz [es]) (hL:L[i]?=some (b,.box cs e)) (hcl:cs.length=cap * sz) (hn:n≤cap) (hcm:cap≤maxLen) (h63:n+1≤maxLen) (hby:(n+1) * by_≤140737488355328):
  AO P ⟨d,.call ⟨.builtin .append,#[x,y],#[t,t]⟩,ty,pos,af,g⟩ fr B L (fun r L'=>∃b' cs' cap',r= .sc (.slice (some ⟨b',0,none⟩) (n+1) cap')∧cs'.length=cap' * sz∧cs'.take ((n+1) * sz)=cs.take (n * sz)++es∧n+1≤cap'∧cap'≤maxLen∧L'=(b',.box cs' e)::L.eraseIdx i):=by
 intro σ ρ w hρ hw0
 have hw:=hw0.perm (fC hL)
 have hxv:=(hρ x _ hx).sc_inv
 have hyv:=(hρ y u hy).im
 rw [hu] at hyv
 obtain ⟨A2,c2,hA2,_⟩:=hyv.imm_inv
 rw [hA2] at hyv
 obtain ⟨_,_,_,hs2,ys,hyl,hyr,hy1,hyc⟩:=hyv.row
 obtain ⟨b2,off2,rfl,hycc⟩:=hyc (by simp)
 haveI:=hc
 obtain ⟨inf,zz,hi,hsz,rfl,hzz,hzs⟩:=hc.info
 have hzc:=hz.cells hi hzz w
 obtain ⟨o,ho,vs,rfl,hvs,h1⟩:=hw.here _ (List.mem_cons_self ..)
 have hl:=hvs.1
 have hel:es.length=sz:=hs2 es (by simp)
 have hyl0:ys.length=sz:=by simpa [hel] using hyl
 have hyl':ys.length=1 * inf.size:=by rw [hsz];omega
 have hyr':d4 σ es ys:=by simpa using hyr
 have hnews:∀j v,ys[j]?=some v→w.cell? ((⟨b2,off2,none⟩:Addr).add j)=some v:=fun j v hj=>by rw [eN];exact hw.froz _ _ _ (hycc j v hj)
 have hA2':ρ y= .slice (some ⟨b2,off2,none⟩) 1 c2:=hA2
 have hmul:(n+1) * sz=n * sz+sz:=by rw [Nat.add_mul,Nat.one_mul]
 have hnc:n * sz≤cap * sz:=Nat.mul_le_mul_right _ hn
 unfold maxLen at hcm h63
 unfold i8
 by_cases hroom:n+1≤cap
 ·have hnc1:(n+1) * sz≤cap * sz:=Nat.mul_le_mul_right _ hroom
  have hr:=run_append_room (P:=P) w t ty e inf hc.under hi b n cap vs.toArray ho ⟨b2,off2,none⟩ 1 c2 ys hyl' hnews hy1 hroom (by rw [hsz];simp;omega)
  rw [show (execOp ρ ⟨d,.call ⟨.builtin .append,#[x,y],#[t,t]⟩,ty,pos,af,g⟩).run P w= .ok (.value (.slice (some ⟨b,0,none⟩) (n+1) cap)) (w.setRow b (vs.toArray.toList.take (n * inf.size)++ys++vs.toArray.toList.drop (n * inf.size+ys.length)).toArray) by
   simp [execOp,resolve,hxv,hA2',invoke,builtin,hr]]
  rw [hsz,hyl0]
  have hcl':(cs.take (n * sz)++es++cs.drop (n * sz+sz)).length=cap * sz:=by simp;omega
  refine ⟨σ,.sc _,_,cm.le_refl _,.sc _,hw.put (a':= .box (cs.take (n * sz)++es++cs.drop (n * sz+sz)) e) (fun _=>trivial) ⟨rfl,rfl,rfl,by simp,fun k _ hk=>setRow_other w b k _ (fun e=>hk (by simp [e]))⟩ (setRow_heap w b _ _ e _ ho) ⟨_,rfl,ey (ey (gC hvs _) hyr') (lI hvs _),fun u hu=>?_⟩,b,_,cap,rfl,hcl',?_,hroom,by unfold maxLen;omega,rfl⟩
  ·rcases Oj hu with hu | hu
   ·rcases Oj hu with hu | hu
    ·exact h1 _ (List.mem_of_mem_take hu)
    ·exact hy1 _ hu
   ·exact h1 _ (List.mem_of_mem_drop hu)
  ·rw [List.take_append_of_le_length (by simp;omega),List.take_of_length_le (by simp;omega)]
 ·have hncap:n=cap:=by omega
  subst hncap
  have holds:∀j v,vs[j]?=some v→w.cell? ((⟨b,0,none⟩:Addr).add j)=some v:=fun j v hj=>by
   rw [eN,Nat.zero_add,dm ho]
   simpa using hj
  have hr:=run_append_grow (P:=P) w t ty e inf zz hc.under hi hzz ⟨b,0,none⟩ n n vs (by rw [hsz];omega) holds ⟨b2,off2,none⟩ 1 c2 ys hyl' hnews (by omega) (by omega) (growslice_fits (by omega) hby)
  rw [show (execOp ρ ⟨d,.call ⟨.builtin .append,#[x,y],#[t,t]⟩,ty,pos,af,g⟩).run P w= .ok (.value (.slice (some ⟨w.heap.size,0,none⟩) (n+1) (grownCap w (n+1) n e))) (w.drew.alloc (.cells (vs.toArray++ys.toArray++Builtin.zeroCells zz.cells (grownCap w (n+1) n e - (n+1))) e)) by
   simp [execOp,resolve,hxv,hA2',invoke,builtin,hr]]
  have hge:=grownCap_ge w (n+1) n e
  have hgm:=grownCap_le_maxLen w (n+1) n e (by unfold maxLen;omega)
  have hzl:∀k,(Builtin.zeroCells zz.cells k).toList.length=k * sz:=fun k=>by rw [Array.length_toList,size_zeroCells,hzs]
  have hzm:∀k,∀v∈(Builtin.zeroCells zz.cells k).toList,v.oneCell'=true:=fun k v hv=>by
   have:=jq hv
   rw [hzc] at this
   exact List.all_eq_true.1 hz1 v (by simpa using this)
  generalize grownCap w (n+1) n e=cap' at *
  have hmc:cap' * sz=(n+1) * sz+(cap' - (n+1)) * sz:=by rw [←Nat.add_mul];congr 1;omega
  have hzl':=hzl (cap' - (n+1))
  have hzm':=hzm (cap' - (n+1))
  generalize Builtin.zeroCells zz.cells (cap' - (n+1))=zc at *
  have hlen:(cs++es++zc.toList.map AV.sc).length=cap' * sz:=by simp only [List.length_append,Ou,hzl'];omega
  refine ⟨σ,.sc _,_,cm.le_refl _,.sc _,((hw.sublist (List.sublist_cons_self ..)).drew _).alloc _ (.box (cs++es++zc.toList.map AV.sc) e) ⟨vs++ys++zc.toList,by simp,ey (ey hvs hyr') (ve _),fun u hu=>?_⟩,w.heap.size,_,cap',rfl,hlen,?_,hge,hgm,rfl⟩
  ·rcases Oj hu with hu | hu
   ·rcases Oj hu with hu | hu
    ·exact h1 _ hu
    ·exact hy1 _ hu
   ·exact hzm' u hu
  ·rw [List.take_append_of_le_length (by simp;omega),List.take_of_length_le (by simp;omega),List.take_of_length_le (by omega)]
theorem pq {e sz by_:Nat} {es:List AV} {zs:List Value} (hc:m8 P t e sz by_) (hs0:0 < sz) (hz:CZ P e zs) (hz1:zs.all (·.oneCell')=true) (hx:bw fr x=some (.sc (.slice none 0 0))) (hy:bw fr y=some u) (hu:u.im= .imm sz [es]) (hby:by_≤140737488355328):
  AO P ⟨d,.call ⟨.builtin .append,#[x,y],#[t,t]⟩,ty,pos,af,g⟩ fr B L (fun r L'=>∃b' cs' cap',r= .sc (.slice (some ⟨b',0,none⟩) 1 cap')∧cs'.length=cap' * sz∧cs'.take (1 * sz)=es∧1≤cap'∧cap'≤maxLen∧L'=(b',.box cs' e)::L):=by
 intro σ ρ w hρ hw
 have hxv:=(hρ x _ hx).sc_inv
 have hyv:=(hρ y u hy).im
 rw [hu] at hyv
 obtain ⟨A2,c2,hA2,_⟩:=hyv.imm_inv
 rw [hA2] at hyv
 obtain ⟨_,_,_,hs2,ys,hyl,hyr,hy1,hyc⟩:=hyv.row
 obtain ⟨b2,off2,rfl,hycc⟩:=hyc (by simp)
 haveI:=hc
 obtain ⟨inf,zz,hi,hsz,rfl,hzz,hzs⟩:=hc.info
 have hzc:=hz.cells hi hzz w
 have hel:es.length=sz:=hs2 es (by simp)
 have hyl0:ys.length=sz:=by simpa [hel] using hyl
 have hyl':ys.length=1 * inf.size:=by rw [hsz];omega
 have hyr':d4 σ es ys:=by simpa using hyr
 have hnews:∀j v,ys[j]?=some v→w.cell? ((⟨b2,off2,none⟩:Addr).add j)=some v:=fun j v hj=>by rw [eN];exact hw.froz _ _ _ (hycc j v hj)
 have hA2':ρ y= .slice (some ⟨b2,off2,none⟩) 1 c2:=hA2
 have hr:=run_append_nil (P:=P) w t ty e inf zz hc.under hi hzz ⟨b2,off2,none⟩ 1 c2 ys hyl' hnews (by omega) (by omega) (by omega)
 unfold i8
 rw [show (execOp ρ ⟨d,.call ⟨.builtin .append,#[x,y],#[t,t]⟩,ty,pos,af,g⟩).run P w= .ok (.value (.slice (some ⟨w.heap.size,0,none⟩) 1 (grownCap w 1 0 e))) (w.drew.alloc (.cells (ys.toArray++Builtin.zeroCells zz.cells (grownCap w 1 0 e - 1)) e)) by
  simp [execOp,resolve,hxv,hA2',invoke,builtin,hr]]
 have hge:=grownCap_ge w 1 0 e
 have hgm:=grownCap_le_maxLen w 1 0 e (by unfold maxLen;omega)
 have hzl:∀k,(Builtin.zeroCells zz.cells k).toList.length=k * sz:=fun k=>by rw [Array.length_toList,size_zeroCells,hzs]
 have hzm:∀k,∀v∈(Builtin.zeroCells zz.cells k).toList,v.oneCell'=true:=fun k v hv=>by
  have:=jq hv
  rw [hzc] at this
  exact List.all_eq_true.1 hz1 v (by simpa using this)
 generalize grownCap w 1 0 e=cap' at *
 have hmc:cap' * sz=sz+(cap' - 1) * sz:=by
  have:cap'=1+(cap' - 1):=by omega
  rw [this,Nat.add_mul]
  simp
 have hzl':=hzl (cap' - 1)
 have hzm':=hzm (cap' - 1)
 generalize Builtin.zeroCells zz.cells (cap' - 1)=zc at *
 have hlen:(es++zc.toList.map AV.sc).length=cap' * sz:=by simp only [List.length_append,Ou,hzl'];omega
 refine ⟨σ,.sc _,_,cm.le_refl _,.sc _,(hw.drew _).alloc _ (.box (es++zc.toList.map AV.sc) e) ⟨ys++zc.toList,by simp,ey hyr' (ve _),fun u hu=>?_⟩,w.heap.size,_,cap',rfl,hlen,?_,hge,hgm,rfl⟩
 ·rcases Oj hu with hu | hu
  ·exact hy1 _ hu
  ·exact hzm' u hu
 ·rw [List.take_append_of_le_length (by simp;omega),List.take_of_length_le (by simp;omega)]
end
section
variable {B:Bs} {fr:bZ} {nt:Nat} {D:List Deferred}
theorem cJ {σ:cm} {cs:List AV} {vs:List Value} {k:Nat} {c c':AV} (h:d4 σ cs vs) (hk:cs[k]?=some c) (hc:∀v,VR σ c v→VR σ c' v):d4 σ (cs.set k c') vs:=by
 refine ⟨by rw [List.length_set];exact h.1,fun i x u hx hu=>?_⟩
 by_cases e:k=i
 ·subst e
  rw [List.getElem?_set_self (Ol hk).1] at hx
  cases hx
  exact hc _ (h.2 k c u hk hu)
 ·rw [List.getElem?_set_ne e] at hx
  exact h.2 i x u hx hu
theorem p9 {b p e e' sz n cap k:Nat} {cs ds:List AV} {R:AL} {l:List (List AV)} (hk:ds[k]?=some (.sc (.slice (some ⟨b,0,none⟩) n cap))) (hc:cs.take (n * sz)=l.flatten) (hcl:cs.length=cap * sz) (hs:∀q∈l,q.length=sz) (hn:l.length=n) (hnc:n≤cap) (hm:cap≤maxLen):mq nt D B fr ((b,.box cs e)::(p,.box ds e')::R) fr ((p,.box (ds.set k (.imm sz l)) e')::R):=by
 intro σ a w ha hw
 obtain ⟨o,ho,vs,rfl,hvs,h1⟩:=hw.here _ (List.mem_cons_self ..)
 have hfree:=hw.free _ (List.mem_cons_self ..)
 have hvl:vs.length=cap * sz:=by rw [←hvs.1,hcl]
 have hst:dg B σ ((b,.vec e sz 0 cap)::(p,.box ds e')::R) w:=by
  refine ⟨hw.os,hw.tape,hw.output,hw.size,hw.old,fun p' hp=>?_,fun p' hp=>?_,by simpa using hw.apart,hw.froz,fun p' hp off hm=>?_,hw.grow,hw.same⟩
  ·rcases List.mem_cons.1 hp with rfl | hp'
   ·exact ⟨_,ho,_,rfl,by simp [hvl],Nat.zero_le _,hm⟩
   ·exact hw.here p' (Ot _ hp')
  ·rcases List.mem_cons.1 hp with rfl | hp'
   ·exact hw.mine (b,.box cs e) (List.mem_cons_self ..)
   ·exact hw.mine p' (Ot _ hp')
  ·rcases List.mem_cons.1 hp with rfl | hp'
   ·exact hfree off trivial
   ·exact hw.free p' (Ot _ hp') off hm
 have hle':n * sz≤cap * sz:=Nat.mul_le_mul_right _ hnc
 obtain ⟨hst',hle⟩:=hst.freezeHead (n':=n) (xs:=vs.take (n * sz)) (fun j u hj=>by
  rw [List.getElem?_take] at hj
  split at hj
  ·rw [dm ho];simpa using hj
  ·cases hj) (by rw [List.length_take];omega) (Nat.zero_le _) hnc
 have hv:VR (σ.add b (vs.take (n * sz))) (.vec (some (b,cap)) sz l) (.slice (some ⟨b,0,none⟩) n cap):=by
  have:=lH (σ:=σ.add b (vs.take (n * sz))) (b:=b) (cap:=cap) hs (by rw [←hc];exact (gC hvs _).mono hle) (fun u hu=>h1 u (List.mem_of_mem_take hu)) (by omega) hm (fun j u hj=>cm.add_at hj)
  rwa [hn] at this
 have hw2:=hst'.sublist (List.sublist_cons_self ..)
 refine ⟨_,ha.mono hle,?_⟩
 obtain ⟨o2,ho2,ws,rfl,hws,hw1⟩:=hw2.here _ (List.mem_cons_self ..)
 refine ⟨hw2.os,hw2.tape,hw2.output,hw2.size,hw2.old,fun p' hp=>?_,fun p' hp=>?_,by simpa using hw2.apart,hw2.froz,fun p' hp off hm=>?_,hw2.grow,hw2.same⟩
 ·rcases List.mem_cons.1 hp with rfl | hp'
  ·exact ⟨_,ho2,ws,rfl,cJ hws hk fun v hvv=>by rw [hvv.sc_inv];exact hv.im,hw1⟩
  ·exact hw2.here p' (Ot _ hp')
 ·rcases List.mem_cons.1 hp with rfl | hp'
  ·exact hw2.mine (p,.box ds e') (List.mem_cons_self ..)
  ·exact hw2.mine p' (Ot _ hp')
 ·rcases List.mem_cons.1 hp with rfl | hp'
  ·exact hw2.free (p,.box ds e') (List.mem_cons_self ..) off trivial
  ·exact hw2.free p' (Ot _ hp') off hm
end
section
variable {P:Program} {tt:TT} {r:Option Nat} {ops:Array Oper} {Q:Exit→Act→World→Prop} {nt:Nat} {D:List Deferred} {fr:bZ} {B:Bs} {L:AL} {rest:List Oper} {d:Nat} {ty t t':TypeId} {pos:String} {af:Array Edge} {x y z:Operand} {u:AV}
theorem tI (ok:eh P tt) (i:Nat) {e sz by_ b n cap:Nat} {cs es:List AV} {zs:List Value} (ht:jW tt t=some (e,sz,by_)) (hz:zI tt e=some zs) (hz1:zs.all (·.oneCell')=true) (hx:bw fr x=some (.sc (.slice (some ⟨b,0,none⟩) n cap))) (hy:bw fr y=some u) (hu:gZ u=some (sz,[es])) (hL:L[i]?=some (b,.box cs e)) (hcl:cs.length=cap * sz) (hn:n≤cap) (hcm:cap≤maxLen) (h63:n+1≤maxLen) (hby:(n+1) * by_≤140737488355328) (hd:Nat.ble nt d=false)
  (h:∀b' cs' cap',cs'.length=cap' * sz→cs'.take ((n+1) * sz)=cs.take (n * sz)++es→n+1≤cap'→cap'≤maxLen→bF P r ops Q nt D rest ((d,.sc (.slice (some ⟨b',0,none⟩) (n+1) cap'))::fr) B ((b',.box cs' e)::L.eraseIdx i)):
  bF P r ops Q nt D (⟨some d,.call ⟨.builtin .append,#[x,y],#[t,t]⟩,ty,pos,af,none⟩::rest) fr B L:=cn hd rfl (qP i (bE ok ht).1 (bE ok ht).2 (eA ok hz) hz1 hx hy (cG hu) hL hcl hn hcm h63 hby) fun c L' ⟨b',cs',cap',h1,h2,h3,h4,h5,h6⟩=>by subst h1;subst h6;exact h b' cs' cap' h2 h3 h4 h5
theorem yj (ok:eh P tt) {e sz by_:Nat} {es:List AV} {zs:List Value} (ht:jW tt t=some (e,sz,by_)) (hz:zI tt e=some zs) (hz1:zs.all (·.oneCell')=true) (hx:bw fr x=some (.sc (.slice none 0 0))) (hy:bw fr y=some u) (hu:gZ u=some (sz,[es])) (hby:Nat.ble by_ 140737488355328=true) (hd:Nat.ble nt d=false)
  (h:∀b' cs' cap',cs'.length=cap' * sz→cs'.take (1 * sz)=es→1≤cap'→cap'≤maxLen→bF P r ops Q nt D rest ((d,.sc (.slice (some ⟨b',0,none⟩) 1 cap'))::fr) B ((b',.box cs' e)::L)):
  bF P r ops Q nt D (⟨some d,.call ⟨.builtin .append,#[x,y],#[t,t]⟩,ty,pos,af,none⟩::rest) fr B L:=cn hd rfl (pq (bE ok ht).1 (bE ok ht).2 (eA ok hz) hz1 hx hy (cG hu) (Nat.ble_eq .. ▸hby)) fun c L' ⟨b',cs',cap',h1,h2,h3,h4,h5,h6⟩=>by subst h1;subst h6;exact h b' cs' cap' h2 h3 h4 h5
end
section
variable {P:Program} {tt:TT} {l:List Oper} {fr:bZ} {fin:kV} {sk:mT} {acc:bZ} {L:AL} {k:Nat} {dd:Option Tmp} {ty t t':TypeId} {pos:String} {af:Array Edge} {g:Option (Nat×Bool)} {x y:Operand} {u:AV}
theorem Bu (ok:eh P tt) (i:Nat) {e sz by_ b n cap:Nat} {cs es:List AV} {zs:List Value} (ht:jW tt t=some (e,sz,by_)) (hz:zI tt e=some zs) (hz1:zs.all (·.oneCell')=true) (hx:bw (cO l.toArray acc fr af.toList) x=some (.sc (.slice (some ⟨b,0,none⟩) n cap))) (hy:bw (cO l.toArray acc fr af.toList) y=some u) (hu:gZ u=some (sz,[es])) (hL:L[i]?=some (b,.box cs e)) (hcl:cs.length=cap * sz) (hn:n≤cap) (hcm:cap≤maxLen) (h63:n+1≤maxLen) (hby:(n+1) * by_≤140737488355328) (hg:j6 ⟨dd,.call ⟨.builtin .append,#[x,y],#[t,t]⟩,ty,pos,af,g⟩ acc)
  (h:∀b' cs' cap',cs'.length=cap' * sz→cs'.take ((n+1) * sz)=cs.take (n * sz)++es→n+1≤cap'→cap'≤maxLen→DA P l fr fin sk ((k,.sc (.slice (some ⟨b',0,none⟩) (n+1) cap'))::acc) ((b',.box cs' e)::L.eraseIdx i)):
  cu P l fr fin k .e ⟨dd,.call ⟨.builtin .append,#[x,y],#[t,t]⟩,ty,pos,af,g⟩ sk acc L:=
 iJ hg (fun _=>qP i (bE ok ht).1 (bE ok ht).2 (eA ok hz) hz1 hx hy (cG hu) hL hcl hn hcm h63 hby) fun c L' ⟨b',cs',cap',h1,h2,h3,h4,h5,h6⟩=>by subst h1;subst h6;exact h b' cs' cap' h2 h3 h4 h5
theorem xK (ok:eh P tt) {e sz by_:Nat} {es:List AV} {zs:List Value} (ht:jW tt t=some (e,sz,by_)) (hz:zI tt e=some zs) (hz1:zs.all (·.oneCell')=true) (hx:bw (cO l.toArray acc fr af.toList) x=some (.sc (.slice none 0 0))) (hy:bw (cO l.toArray acc fr af.toList) y=some u) (hu:gZ u=some (sz,[es])) (hby:Nat.ble by_ 140737488355328=true) (hg:j6 ⟨dd,.call ⟨.builtin .append,#[x,y],#[t,t]⟩,ty,pos,af,g⟩ acc)
  (h:∀b' cs' cap',cs'.length=cap' * sz→cs'.take (1 * sz)=es→1≤cap'→cap'≤maxLen→DA P l fr fin sk ((k,.sc (.slice (some ⟨b',0,none⟩) 1 cap'))::acc) ((b',.box cs' e)::L)):
  cu P l fr fin k .e ⟨dd,.call ⟨.builtin .append,#[x,y],#[t,t]⟩,ty,pos,af,g⟩ sk acc L:=
 iJ hg (fun _=>pq (bE ok ht).1 (bE ok ht).2 (eA ok hz) hz1 hx hy (cG hu) (Nat.ble_eq .. ▸hby)) fun c L' ⟨b',cs',cap',h1,h2,h3,h4,h5,h6⟩=>by subst h1;subst h6;exact h b' cs' cap' h2 h3 h4 h5
theorem Br (ok:eh P tt) (L0:AL) {e sz by_:Nat} {q:Option (Nat×Nat)} {l1 l2:List (List AV)} (ht:jW tt t=some (e,sz,by_)) (hx:bw (cO l.toArray acc fr af.toList) x=some (.vec q sz l1)) (hy:bw (cO l.toArray acc fr af.toList) y=some u) (hu:gZ u=some (sz,l2)) (hL:L.Perm (tok q e sz l1.length++L0)) (h63:l1.length+l2.length≤9223372036854775807) (hby:(l1.length+l2.length) * by_≤140737488355328) (hK:fc fin.gs L0) (hg:j6 ⟨dd,.call ⟨.builtin .append,#[x,y],#[t,t]⟩,ty,pos,af,g⟩ acc)
  (h:∀q',DA P l fr fin sk ((k,.vec q' sz (l1++l2))::acc) (tok q' e sz (l1++l2).length++L0)):
  cu P l fr fin k .f ⟨dd,.call ⟨.builtin .append,#[x,y],#[t,t]⟩,ty,pos,af,g⟩ sk acc L:=
 zy (fun c L' ⟨k',_,h2⟩ _=>by subst h2;exact w9 hK _) hg (fun _=>oq L0 (bE ok ht).1 (bE ok ht).2 hx hy (cG hu) hL h63 hby) fun c L' ⟨k',h1,h2⟩=>by subst h1;subst h2;exact h k'
end
end Go.Proofs.YtamjlkdanllgjaaGreatDoor
namespace Go.Proofs.YtamjlkdanllgjaaGreatDoor
open Go.RowKit
section
variable {P:Program} {tt:TT} {l:List Oper} {fr:bZ} {fin:kV} {sk:mT} {acc:bZ} {L:AL} {k:Nat} {dd:Option Tmp} {ty t:TypeId} {pos:String} {af:Array Edge} {g:Option (Nat×Bool)} {x y:Operand}
theorem JT (ok:eh P tt) (n:Nat) {e sz by_:Nat} {k1 k2:IntKind} {a b:Int} {zs:List Value} (ht:jW tt t=some (e,sz,by_)) (hz:zI tt e=some zs) (h1:zs.all (·.oneCell')=true) (hx:bw (cO l.toArray acc fr af.toList) x=some (.sc (.int k1 a))) (hy:bw (cO l.toArray acc fr af.toList) y=some (.sc (.int k2 b))) (ha:a=(n:Int)) (hb:b=(n:Int)) (hby:by_ * n≤281474976710656) (h63:n≤9223372036854775807) (hg:j6 ⟨dd,.makeSlice t x y,ty,pos,af,g⟩ acc)
  (h:∀b,DA P l fr fin sk ((k,.sc (.slice (some ⟨b,0,none⟩) n n))::acc) ((b,.box ((List.replicate n (zs.map .sc)).flatten) e)::L)):cu P l fr fin k .e ⟨dd,.makeSlice t x y,ty,pos,af,g⟩ sk acc L:=
 iJ hg (fun _=>zk (bE ok ht).1 (eA ok hz) h1 (bE ok ht).2 hx hy ha hb hby h63) fun c L' ⟨b,h1,h2⟩=>by subst h1;subst h2;exact h b
end
end Go.Proofs.YtamjlkdanllgjaaGreatDoor
namespace Go.Proofs.YtamjlkdanllgjaaGreatDoor
open Go.RowKit
def D5 (fr:bZ) (B:Bs) (L:AL) (y:Operand) (sz m:Nat) (es:List AV):Prop:=∀σ (ρ:Operand→Value) w,(∀x c,bw fr x=some c→VR σ c (ρ x))→dg B σ L w→
 ∃A c ys,ρ y= .slice A m c∧d4 σ es ys∧(∀u∈ys,u.oneCell'=true)∧ys.length=m * sz∧(0 < m→∃b off,A=some ⟨b,off,none⟩∧∀j v,ys[j]?=some v→w.cell? ((⟨b,off,none⟩:Addr).add j)=some v)
section
variable {P:Program} {fr:bZ} {B:Bs} {L:AL} {d:Option Tmp} {ty t t':TypeId} {pos:String} {af:Array Edge} {g:Option (Nat×Bool)} {x y z q:Operand} {u:AV}
theorem gy {sz:Nat} {l:List (List AV)} (hy:bw fr y=some u) (hu:gZ u=some (sz,l)):D5 fr B L y sz l.length l.flatten:=by
 intro σ ρ w hρ hw
 have hyv:=(hρ y u hy).im
 rw [cG hu] at hyv
 obtain ⟨A2,c2,hA2,_⟩:=hyv.imm_inv
 rw [hA2] at hyv
 obtain ⟨_,_,_,hs2,ys,hyl,hyr,hy1,hyc⟩:=hyv.row
 refine ⟨A2,c2,ys,hA2,by simpa using hyr,hy1,?_,fun h0=>?_⟩
 ·rw [hyl]
 ·obtain ⟨b2,off2,e,hycc⟩:=hyc h0
  exact ⟨b2,off2,e,fun j v hj=>by rw [eN];exact hw.froz _ _ _ (hycc j v hj)⟩
theorem xk (i:Nat) {e sz by_ b n cap m:Nat} {cs es:List AV} {zs:List Value} (hc:m8 P t e sz by_) (hs0:0 < sz) (hz:CZ P e zs) (hz1:zs.all (·.oneCell')=true) (hx:bw fr x=some (.sc (.slice (some ⟨b,0,none⟩) n cap))) (hy:D5 fr B L y sz m es) (hL:L[i]?=some (b,.box cs e)) (hcl:cap * sz≤cs.length) (hn:n≤cap) (hcm:cap≤maxLen) (h63:n+m≤maxLen) (hby:(n+m) * by_≤140737488355328):
  AO P ⟨d,.call ⟨.builtin .append,#[x,y],#[t,t]⟩,ty,pos,af,g⟩ fr B L (fun r L'=>∃b' cs' cap',r= .sc (.slice (some ⟨b',0,none⟩) (n+m) cap')∧cap' * sz≤cs'.length∧cs'.take ((n+m) * sz)=cs.take (n * sz)++es∧n+m≤cap'∧cap'≤maxLen∧(n+m≤cap→b'=b∧cap'=cap∧cs'=cs.take (n * sz)++es++cs.drop (n * sz+m * sz))∧L'=(b',.box cs' e)::L.eraseIdx i):=by
 intro σ ρ w hρ hw0
 obtain ⟨A2,c2,ys,hA2,hyr,hy1,hyl,hycc⟩:=hy σ ρ w hρ hw0
 have hw:=hw0.perm (fC hL)
 have hxv:=(hρ x _ hx).sc_inv
 haveI:=hc
 obtain ⟨inf,zz,hi,hsz,rfl,hzz,hzs⟩:=hc.info
 have hzc:=hz.cells hi hzz w
 obtain ⟨o,ho,vs,rfl,hvs,h1⟩:=hw.here _ (List.mem_cons_self ..)
 have hl:=hvs.1
 have hel:es.length=m * sz:=by rw [←hyl];exact hyr.1
 have hyl':ys.length=m * inf.size:=by rw [hsz];exact hyl
 have hmul:(n+m) * sz=n * sz+m * sz:=Nat.add_mul ..
 have hnc:n * sz≤cap * sz:=Nat.mul_le_mul_right _ hn
 unfold maxLen at hcm h63
 unfold i8
 by_cases hm0:m=0
 ·subst hm0
  have hes:es=[]:=List.eq_nil_of_length_eq_zero (by rw [hel];omega)
  subst hes
  rw [show (execOp ρ ⟨d,.call ⟨.builtin .append,#[x,y],#[t,t]⟩,ty,pos,af,g⟩).run P w= .ok (.value (.slice (some ⟨b,0,none⟩) n cap)) w by
   simp [execOp,resolve,hxv,hA2,invoke,builtin,kU (t:=t) hn]]
  refine ⟨σ,.sc _,_,cm.le_refl _,.sc _,hw,b,cs,cap,rfl,hcl,?_,hn,by unfold maxLen;omega,fun _=>⟨rfl,rfl,?_⟩,rfl⟩
  ·simp
  ·simp
 obtain ⟨b2,off2,rfl,hnews⟩:=hycc (by omega)
 by_cases hroom:n+m≤cap
 ·have hnc1:(n+m) * sz≤cap * sz:=Nat.mul_le_mul_right _ hroom
  have hr:=run_append_room (P:=P) w t ty e inf hc.under hi b n cap vs.toArray ho ⟨b2,off2,none⟩ m c2 ys hyl' hnews hy1 hroom (by rw [hsz];simp;omega)
  rw [show (execOp ρ ⟨d,.call ⟨.builtin .append,#[x,y],#[t,t]⟩,ty,pos,af,g⟩).run P w= .ok (.value (.slice (some ⟨b,0,none⟩) (n+m) cap)) (w.setRow b (vs.toArray.toList.take (n * inf.size)++ys++vs.toArray.toList.drop (n * inf.size+ys.length)).toArray) by
   simp [execOp,resolve,hxv,hA2,invoke,builtin,hr]]
  rw [hsz,hyl]
  refine ⟨σ,.sc _,_,cm.le_refl _,.sc _,hw.put (a':= .box (cs.take (n * sz)++es++cs.drop (n * sz+m * sz)) e) (fun _=>trivial) ⟨rfl,rfl,rfl,by simp,fun k _ hk=>setRow_other w b k _ (fun e=>hk (by simp [e]))⟩ (setRow_heap w b _ _ e _ ho) ⟨_,rfl,ey (ey (gC hvs _) hyr) (lI hvs _),fun u hu=>?_⟩,b,_,cap,rfl,?_,?_,hroom,by unfold maxLen;omega,fun _=>⟨rfl,rfl,rfl⟩,rfl⟩
  ·rcases Oj hu with hu | hu
   ·rcases Oj hu with hu | hu
    ·exact h1 _ (List.mem_of_mem_take hu)
    ·exact hy1 _ hu
   ·exact h1 _ (List.mem_of_mem_drop hu)
  ·simp only [List.length_append,List.length_take,List.length_drop,hel];omega
  ·rw [List.take_append_of_le_length (by simp;omega),List.take_of_length_le (by simp;omega)]
 ·have holds:∀j v,(vs.take (n * sz))[j]?=some v→w.cell? ((⟨b,0,none⟩:Addr).add j)=some v:=fun j v hj=>by
   rw [eN,Nat.zero_add,dm ho]
   have hjl:=(Ol hj).1
   rw [List.length_take] at hjl
   rw [List.getElem?_take_of_lt (by omega)] at hj
   simpa using hj
  have hr:=run_append_grow (P:=P) w t ty e inf zz hc.under hi hzz ⟨b,0,none⟩ n cap (vs.take (n * sz)) (by rw [hsz,List.length_take];omega) holds ⟨b2,off2,none⟩ m c2 ys hyl' hnews (by omega) (by omega) (growslice_fits (by omega) hby)
  rw [show (execOp ρ ⟨d,.call ⟨.builtin .append,#[x,y],#[t,t]⟩,ty,pos,af,g⟩).run P w= .ok (.value (.slice (some ⟨w.heap.size,0,none⟩) (n+m) (grownCap w (n+m) cap e))) (w.drew.alloc (.cells ((vs.take (n * sz)).toArray++ys.toArray++Builtin.zeroCells zz.cells (grownCap w (n+m) cap e - (n+m))) e)) by
   simp [execOp,resolve,hxv,hA2,invoke,builtin,hr]]
  have hge:=grownCap_ge w (n+m) cap e
  have hgm:=grownCap_le_maxLen w (n+m) cap e (by unfold maxLen;omega)
  have hzl:∀k,(Builtin.zeroCells zz.cells k).toList.length=k * sz:=fun k=>by rw [Array.length_toList,size_zeroCells,hzs]
  have hzm:∀k,∀v∈(Builtin.zeroCells zz.cells k).toList,v.oneCell'=true:=fun k v hv=>by
   have:=jq hv
   rw [hzc] at this
   exact List.all_eq_true.1 hz1 v (by simpa using this)
  generalize grownCap w (n+m) cap e=cap' at *
  have hmc:cap' * sz=(n+m) * sz+(cap' - (n+m)) * sz:=by rw [←Nat.add_mul];congr 1;omega
  have hzl':=hzl (cap' - (n+m))
  have hzm':=hzm (cap' - (n+m))
  generalize Builtin.zeroCells zz.cells (cap' - (n+m))=zc at *
  refine ⟨σ,.sc _,_,cm.le_refl _,.sc _,((hw.sublist (List.sublist_cons_self ..)).drew _).alloc _ (.box (cs.take (n * sz)++es++zc.toList.map AV.sc) e) ⟨vs.take (n * sz)++ys++zc.toList,by simp,ey (ey (gC hvs _) hyr) (ve _),fun u hu=>?_⟩,w.heap.size,_,cap',rfl,?_,?_,hge,hgm,fun hh=>absurd hh hroom,rfl⟩
  ·rcases Oj hu with hu | hu
   ·rcases Oj hu with hu | hu
    ·exact h1 _ (List.mem_of_mem_take hu)
    ·exact hy1 _ hu
   ·exact hzm' u hu
  ·simp only [List.length_append,Ou,hzl',List.length_take,hel];omega
  ·rw [List.take_append_of_le_length (by simp;omega),List.take_of_length_le (by simp;omega)]
end
section
variable {P:Program} {tt:TT} {r:Option Nat} {ops:Array Oper} {Q:Exit→Act→World→Prop} {nt:Nat} {D:List Deferred} {fr:bZ} {B:Bs} {L:AL} {rest:List Oper} {d:Nat} {ty t t':TypeId} {pos:String} {af:Array Edge} {x y z:Operand} {u:AV}
theorem tH (ok:eh P tt) (i:Nat) {e sz by_ b n cap m:Nat} {cs es:List AV} {zs:List Value} (ht:jW tt t=some (e,sz,by_)) (hz:zI tt e=some zs) (hz1:zs.all (·.oneCell')=true) (hx:bw fr x=some (.sc (.slice (some ⟨b,0,none⟩) n cap))) (hy:D5 fr B L y sz m es) (hL:L[i]?=some (b,.box cs e)) (hcl:cap * sz≤cs.length) (hn:n≤cap) (hcm:cap≤maxLen) (h63:n+m≤maxLen) (hby:(n+m) * by_≤140737488355328) (hd:Nat.ble nt d=false)
  (h:∀b' cs' cap',cap' * sz≤cs'.length→cs'.take ((n+m) * sz)=cs.take (n * sz)++es→n+m≤cap'→cap'≤maxLen→(n+m≤cap→b'=b∧cap'=cap∧cs'=cs.take (n * sz)++es++cs.drop (n * sz+m * sz))→bF P r ops Q nt D rest ((d,.sc (.slice (some ⟨b',0,none⟩) (n+m) cap'))::fr) B ((b',.box cs' e)::L.eraseIdx i)):
  bF P r ops Q nt D (⟨some d,.call ⟨.builtin .append,#[x,y],#[t,t]⟩,ty,pos,af,none⟩::rest) fr B L:=
 cn hd rfl (xk i (bE ok ht).1 (bE ok ht).2 (eA ok hz) hz1 hx hy hL hcl hn hcm h63 hby) fun c L' ⟨b',cs',cap',h1,h2,h3,h4,h5,h6,h7⟩=>by subst h1;subst h7;exact h b' cs' cap' h2 h3 h4 h5 h6
end
end Go.Proofs.YtamjlkdanllgjaaGreatDoor
namespace Go.Proofs.YtamjlkdanllgjaaGreatDoor
open Go.RowKit
def CY (P:Program):Nat→List Field→Prop
 | _,[]=>True
 | k,f::fs=>(f.name≠ "_" ∧f.offset=k∧P.underlying f.type=some (.int .i64))∧CY P (k+1) fs
structure z7 (P:Program) (t:TypeId) (n:Nat):Prop where
 ex:∃fs:Array Field,P.underlying t=some (.struct fs)∧fs.size=n∧CY P 0 fs.toList
 st:P.stoodInHeld t=false
 gd:P.eqGuardType P.depth t=false
def qb (l:List Int):List Value:=l.map fun z=> .int .i64 z
section
variable {P:Program}
theorem s8 (w:World) (d:Nat) (xs ys:List Int):∀(fs:List Field) (k:Nat),CY P k fs→k+fs.length=xs.length→xs.length=ys.length→
  (Op.eqFields (d+1) (qb xs).toArray (qb ys).toArray fs).run P w= .ok (decide (xs.drop k=ys.drop k)) w
 | [],k,_,hx,hy=>by
  simp only [List.length_nil,Nat.add_zero] at hx
  rw [List.drop_of_length_le (by omega),List.drop_of_length_le (by omega)]
  simp [Op.eqFields]
 | f::fs,k,h,hx,hy=>by
  obtain ⟨⟨hn,ho,hu⟩,hr⟩:=h
  simp only [List.length_cons] at hx
  have hkx:k < xs.length:=by omega
  have hky:k < ys.length:=by omega
  have ih:=s8 w d xs ys fs (k+1) hr (by omega) hy
  simp only [Op.eqFields,if_pos hn,Sem.run_bind,ho]
  rw [ew hu (v:= .int .i64 xs[k]) (by simp [qb,hkx])]
  simp only [Result.andThen]
  rw [ew hu (v:= .int .i64 ys[k]) (by simp [qb,hky])]
  simp only [Result.andThen]
  rw [run_equalIn_int w d f.type .i64 .i64 _ _ hu]
  simp only [Result.andThen,Sem.run_ite]
  have e:decide (xs.drop k=ys.drop k)=decide (xs[k]=ys[k]∧xs.drop (k+1)=ys.drop (k+1)):=by
   rw [List.drop_eq_getElem_cons hkx,List.drop_eq_getElem_cons hky]
   exact decide_eq_decide.2 (by rw [List.cons.injEq])
  rw [e,ih]
  by_cases he:xs[k]=ys[k]
  ·simp only [he,true_and]
   simp
  ·simp [he]
theorem z7.eq {t:TypeId} {n:Nat} (h:z7 P t n) {xs ys:List Int} (hx:xs.length=n) (hy:ys.length=n) (w:World):(Op.equal t (.agg (qb xs).toArray) (.agg (qb ys).toArray)).run P w= .ok (decide (xs=ys)) w:=by
 obtain ⟨⟨fs,hu,hs,hf⟩,hst,_⟩:=h
 have hf':P.fieldsOf t=fs:=by simp [Program.fieldsOf,hu]
 have hu':P.underlying t=some (.struct (P.fieldsOf t)):=by rw [hf'];exact hu
 unfold Op.equal
 rw [show Op.maxDepth=9999+1 from rfl,run_equalIn_struct w 9999 t _ _ hu' hst,hf',show (9999:Nat)=9998+1 from rfl,s8 w 9998 xs ys fs.toList 0 hf (by simp;omega) (by omega)]
 rfl
theorem AJ {σ:cm} {l:List Int} {v:Value} (h:VR σ (.agg ((qb l).map .sc)) v):v= .agg (qb l).toArray:=by
 cases h with
 | agg _ vs hl h h1=>
  simp only [Ou] at hl
  have e:vs=qb l:=by
   refine List.ext_getElem? fun i=>?_
   by_cases hi:i < vs.length
   ·rw [Oz hi,Oz (by omega)]
    have:=h i (.sc (qb l)[i]) vs[i] (by rw [List.getElem?_map,Oz (by omega)];rfl) (Oz hi)
    rw [this.sc_inv]
   ·rw [List.getElem?_eq_none (by omega),List.getElem?_eq_none (by omega)]
  rw [e]
end
section
variable {P:Program} {fr:bZ} {B:Bs} {L:AL} {d:Option Tmp} {ty t t':TypeId} {pos:String} {af:Array Edge} {g:Option (Nat×Bool)} {x y z:Operand}
theorem JE {n:Nat} {a b:List Int} (ht:z7 P t n) (hx:bw fr x=some (.agg ((qb a).map .sc))) (hy:bw fr y=some (.agg ((qb b).map .sc))) (ha:a.length=n) (hb:b.length=n):Av P ⟨d,.binOp .neq t x y t',ty,pos,af,g⟩ fr (.sc (.bool (!decide (a=b)))):=by
 intro σ ρ w hρ _
 refine ⟨_,?_,.sc _⟩
 have h1:=AJ (hρ x _ hx)
 have h2:=AJ (hρ y _ hy)
 have h3:=ht.eq ha hb w
 unfold Op.equal at h3
 rw [show Op.maxDepth=10000 from rfl] at h3
 simp only [execOp,h1,h2,Sem.run_bind,run_eqGuard_agg w .neq t x y _ _ ht.gd,run_neq_struct,h3,Result.andThen,Sem.run_pure]
end
end Go.Proofs.YtamjlkdanllgjaaGreatDoor
namespace Go.Proofs.YtamjlkdanllgjaaGreatDoor
open Go.RowKit
attribute [local irreducible] AT bF AX AO Av Kt b8 d9 DA cu
set_option maxRecDepth 8000
def d5 (a b:AV):Prop:=∀σ v,VR σ a v→VR σ b v
def l8:List AV→List AV→Prop
 | [],[]=>True
 | a::r,b::q=>d5 a b∧l8 r q
 | _,_=>False
def Jq:List (List AV)→List (List AV)→Prop
 | [],[]=>True
 | a::r,b::q=>l8 a b∧Jq r q
 | _,_=>False
theorem d5.refl (a:AV):d5 a a:=fun _ _ h=>h
theorem d5.nil (n:Nat):d5 (.sc (.slice none 0 0)) (.imm n []):=fun _ _ h=>dV n h
theorem l8.len:∀{a b:List AV},l8 a b→a.length=b.length
 | [],[],_=>rfl
 | _::_,_::_,h=>by simp [h.2.len]
theorem l8.at:∀{a b:List AV},l8 a b→∀(i:Nat) c c',a[i]?=some c→b[i]?=some c'→d5 c c'
 | x::a,y::b,h,0,c,c',h1,h2=>by
  simp at h1 h2
  subst h1;subst h2
  exact h.1
 | _::a,_::b,h,i+1,c,c',h1,h2=>h.2.at i c c' (by simpa using h1) (by simpa using h2)
theorem l8.vrs {a b:List AV} (h:l8 a b) {σ:cm} {vs:List Value} (hv:d4 σ a vs):d4 σ b vs:=It h.len (fun i c c' h1 h2=>h.at i c c' h1 h2 σ) hv
theorem Jq.len:∀{a b:List (List AV)},Jq a b→a.length=b.length
 | [],[],_=>rfl
 | _::_,_::_,h=>by simp [h.2.len]
theorem Jq.at:∀{a b:List (List AV)},Jq a b→∀(i:Nat) c c',a[i]?=some c→b[i]?=some c'→l8 c c'
 | x::a,y::b,h,0,c,c',h1,h2=>by
  simp at h1 h2
  subst h1;subst h2
  exact h.1
 | _::a,_::b,h,i+1,c,c',h1,h2=>h.2.at i c c' (by simpa using h1) (by simpa using h2)
theorem d5.agg {a b:List AV} (h:l8 a b):d5 (.agg a) (.agg b):=fun σ v hv=>by
 cases hv with
 | agg _ vs hl hx h1=>exact .agg _ _ (h.len▸hl) (fun i c u hc hu=>(h.vrs (σ:=σ) ⟨hl,hx⟩).2 i c u hc hu) h1
theorem d5.imm {s:Nat} {a b:List (List AV)} (h:Jq a b):d5 (.imm s a) (.imm s b):=fun σ v hv=>by
 cases hv with
 | imm _ _ A cap hc hm hs ha hx hh=>
  have hl:=h.len
  rw [hl]
  have get:∀{i:Nat} {e:List AV},b[i]?=some e→∃e',a[i]?=some e'∧l8 e' e:=fun {i e} he=>by
   have hi:i < a.length:=by rw [hl];exact (Ol he).1
   exact ⟨_,Oz hi,h.at i _ _ (Oz hi) he⟩
  refine .imm s b A cap (hl▸hc) hm (fun e he=>?_) (fun hb=>ha fun e=>hb (List.eq_nil_of_length_eq_zero (by rw [←hl,e];rfl))) (fun i b' off j hA hi hj=>hx i b' off j hA (hl▸hi) hj) fun i e b' off j c u he hA hj hu=>?_
  ·obtain ⟨i,hi⟩:=List.mem_iff_getElem?.1 he
   obtain ⟨e',h1,h2⟩:=get hi
   rw [←h2.len]
   exact hs _ (Ow h1)
  ·obtain ⟨e',h1,h2⟩:=get he
   have hj':j < e'.length:=by rw [h2.len];exact (Ol hj).1
   exact h2.at j _ c (Oz hj') hj σ u (hh i e' b' off j _ u h1 hA (Oz hj') hu)
theorem AC.args {P:Program} {f:FuncId} {a b:List AV} {L:AL} {Post:AV→AL→Prop} (h:AC P f b L Post) (k:l8 a b):AC P f a L Post:=fun σ w vs hv hs=>h σ w vs (k.vrs hv) hs
section
variable {P:Program} {nt:Nat} {fr:bZ} {B:Bs} {L:AL}
theorem nU {fn:Func} {t:Tmp} {e:TypeId} {b k:Nat} {cs:List Value} {tmps:Array Value} {w:World} [Je P e k] (h:fn.results=#[.cell t e]) (ht:tmps.getD t undef= .pointer (some ⟨b,0,none⟩)) (hl:cs.length=k) (hc:∀j v,cs[j]?=some v→w.cell? ⟨b,0+j,none⟩=some v):
  (results fn tmps).run P w= .ok (.agg cs.toArray) w:=by
 rw [Array.getD_eq_getD_getElem?] at ht
 simp [results,h,ht,asAddr,gw hl hc]
theorem zm (ok:eh P tt) (i:Nat) {fn:Func} {Post:AV→AL→Prop} {t:Tmp} {e e':TypeId} {b k:Nat} {cs:List AV} (hr:fn.results=#[.cell t e]) (hk:KO tt e=some k) (hv:ce fr t=some (.sc (.pointer (some ⟨b,0,none⟩)))) (hL:L[i]?=some (b,.box cs e')) (hl:Nat.beq cs.length k=true) (h:Post (.agg cs) L):
  AX P .ret (bodyPost P fn (it B Post)) nt [] fr B L:=by
 unfold AX
 intro σ a w ha hw
 haveI:=dZ ok hk
 obtain ⟨vs,hb,hs,h1⟩:=hw.boxCell hL
 have hl:=Nat.eq_of_beq_eq_true hl
 refine ⟨ha.defers,_,nU (cs:=vs) hr (ha.look t _ hv).sc_inv (hs.1.symm.trans hl) (fun j v hj=>by rw [dm hb,Nat.zero_add];simpa using hj),_,σ,_,L,rfl,.agg cs vs hs.1 hs.2 h1,hw,h⟩
end
end Go.Proofs.YtamjlkdanllgjaaGreatDoor
namespace Go.Proofs.YtamjlkdanllgjaaGreatDoor
open Go.RowKit
attribute [local irreducible] AT bF AX AO Av Kt b8 d9 DA cu
set_option maxRecDepth 8000
abbrev j4 (b:Nat):AV:= .sc (.pointer (some ⟨b,0,none⟩))
abbrev LZ:AV:= .sc (.pointer none)
structure pZ where
 rb:Nat
 cap:Nat
 junk:List AV
def eH (run:List bv):List AV:=(run.map dw).flatten
def f7 (q:Option pZ) (run:List bv):AV:=match q with
 | none=> .imm 6 []
 | some m=> .sc (.slice (some ⟨m.rb,0,none⟩) run.length m.cap)
def eT (q:Option pZ) (run:List bv):AL:=match q with
 | none=>[]
 | some m=>[(m.rb,.box (eH run++m.junk) 56)]
structure kM (q:Option pZ) (run:List bv):Prop where
 emp:q=none→run=[]
 fit:∀m,q=some m→run.length≤m.cap∧m.cap≤maxLen∧m.cap * 6≤(eH run++m.junk).length
abbrev NU (wb:Nat) (eng:AV) (q:Option pZ) (run:List bv):AL:=(wb,.box [eng,f7 q run] 328)::eT q run
theorem jB (run:List bv):(eH run).length=run.length * 6:=by
 induction run with
 | nil=>rfl
 | cons x r ih=>simp [eH] at ih ⊢;simp [dw,ih];omega
theorem gN (x:bv) (r:List bv):eH (x::r)=dw x++eH r:=by simp [eH]
theorem tf (a b:List bv):eH (a++b)=eH a++eH b:=by simp [eH]
theorem tg:∀{run:List bv} {i j:Nat} {x:bv} {u:AV} (junk:List AV),run[i]?=some x→(dw x)[j]?=some u→(eH run++junk)[i * 6+j]?=some u
 | [],i,_,_,_,_,h,_=>by simp at h
 | y::r,0,j,x,u,junk,h,hj=>by
  simp at h
  subst h
  rw [gN,List.append_assoc,Nat.zero_mul,Nat.zero_add,List.getElem?_append_left (Ol hj).1]
  exact hj
 | y::r,i+1,j,x,u,junk,h,hj=>by
  rw [gN,List.append_assoc,List.getElem?_append_right (by simp [dw];omega)]
  have:=tg (i:=i) junk (by simpa using h) hj
  rw [show (i+1) * 6+j - (dw y).length=i * 6+j by simp [dw];omega]
  exact this
structure CS where
 l:bf
 cls:List Int
 fore:List (List Int)
 back:List (List Int)
 foreE:List Nat
 backE:List Nat
abbrev lM (z:Nat):AV:= .sc (.int .u64 (z:Int))
def gE (l:List Nat):List (List AV):=l.map fun z=>[lM z]
def sq (r:bJ):bJ:={ r with Back:=[],Ahead:=[] }
def lE (l:bf):bf:={ l with Rules:=l.Rules.map sq }
def Lr (e:CS):List AV:=[.imm 1 (aL e.cls),.imm 1 (aZ e.fore),.imm 1 (aZ e.back),.imm 1 (gE e.foreE),.imm 1 (gE e.backE)]
def jj (e:CS):List AV:=[aG e.l.Kind,cU e.l.Ignore,.imm 6 ((lE e.l).Rules.map bN),.imm 1 (aL e.cls),.imm 1 (aZ e.fore),.imm 1 (aZ e.back),.imm 1 (gE e.foreE),.imm 1 (gE e.backE),aG (me e.l.Rules),aG (ma e.l.Rules)]
def sF (l:List Bool):List (List AV):=l.map fun b=>[cU b]
theorem DL (l:List Bool):(sF l).length=l.length:=by simp [sF]
structure x9 where
 lks:List CS
 ms:List Bool
def r7 (E:x9):List AV:=[.imm 10 (E.lks.map jj),.imm 1 (sF E.ms)]
theorem LB {run:List bv} {i j:Nat} {x:bv} {u:AV} (junk:List AV) (h:run[i]?=some x) (hj:(dw x)[j]?=some u):(eH run++junk)[0+((i:Nat):Int).toNat * 6+j]?=some u:=by
 rw [Int.toNat_natCast,Nat.zero_add]
 exact tg junk h hj
set_option maxRecDepth 8000
set_option maxRecDepth 8000
def IW (l:List Nat):List (List AV):=aL (l.map Int.ofNat)
def NJ (run:List bv) (l:List Nat):List (List AV):=aL (l.map (um run))
def Nz (ms:List Bool) (ig:Bool) (run:List bv) (up:Bool) (a:Int):List Nat:=if up=true then zK ms ig run a.toNat else zq ms ig run (a+1).toNat
def NT (up:Bool):Int:=if up=true then 1 else -1
def MH (run:List bv) (up:Bool) (a:Int):Prop:= -1≤a∧(up=true→0≤a)∧(up=false→a < run.length)
def Ns (run:List bv) (up:Bool) (a:Int):Nat:=if up=true then (run.length - a).toNat else (a+1).toNat
end Go.Proofs.YtamjlkdanllgjaaGreatDoor
namespace Go.Proofs.YtamjlkdanllgjaaGreatDoor
open Go.RowKit
section
variable {P:Program} {tt:TT} {r:Option Nat} {ops:Array Oper} {Q:Exit→Act→World→Prop} {nt:Nat} {D:List Deferred} {fr:bZ} {B:Bs} {L:AL} {rest:List Oper} {d:Nat} {ty t t':TypeId} {pos:String} {af:Array Edge} {g:Option (Nat×Bool)} {x y z:Operand} {u:AV}
theorem JK {dd:Option Tmp} {k kk:IntKind} {a b:Int} (i:Nat) (hx:bw fr x=some (.sc (.int k a))) (hy:bw fr y=some (.sc (.int kk b))) (hb:b=(i:Int)):Av P ⟨dd,.binOp .shr t x y t',ty,pos,af,g⟩ fr (.sc (.int k (a / 2 ^ min i k.bits))):=by
 intro σ ρ w hρ _
 subst hb
 refine ⟨_,?_,.sc _⟩
 have h:=shift_shr_any k kk a (i:Int) (Int.natCast_nonneg i)
 simp [execOp,(hρ x _ hx).sc_inv,(hρ y _ hy).sc_inv,eqGuard,binOp,h]
theorem Jt {dd:Option Tmp} {k:IntKind} {a b:Int} (hx:bw fr x=some (.sc (.int k a))) (hy:bw fr y=some (.sc (.int k b))):Av P ⟨dd,.binOp .and t x y t',ty,pos,af,g⟩ fr (.sc (.int k (bits .and k a b))):=by
 intro σ ρ w hρ _
 refine ⟨_,?_,.sc _⟩
 simp [execOp,(hρ x _ hx).sc_inv,(hρ y _ hy).sc_inv,eqGuard,binOp,intBits_and]
theorem zd {dd:Option Tmp} {k:IntKind} {a b:Int} (hx:bw fr x=some (.sc (.int k a))) (hy:bw fr y=some (.sc (.int k b))):Av P ⟨dd,.binOp .or t x y t',ty,pos,af,g⟩ fr (.sc (.int k (bits .or k a b))):=by
 intro σ ρ w hρ _
 refine ⟨_,?_,.sc _⟩
 simp [execOp,(hρ x _ hx).sc_inv,(hρ y _ hy).sc_inv,eqGuard,binOp,intBits_or]
theorem mI (i:Nat) {k kk:IntKind} {a b:Int} (hx:bw fr x=some (.sc (.int k a))) (hy:bw fr y=some (.sc (.int kk b))) (hb:b=(i:Int)) (hd:Nat.ble nt d=false) (h:bF P r ops Q nt D rest ((d,.sc (.int k (a / 2 ^ min i k.bits)))::fr) B L):
  bF P r ops Q nt D (⟨some d,.binOp .shr t x y t',ty,pos,af,none⟩::rest) fr B L:=cz (JK i hx hy hb) hd rfl h
theorem uF {k:IntKind} {a b:Int} (hx:bw fr x=some (.sc (.int k a))) (hy:bw fr y=some (.sc (.int k b))) (hd:Nat.ble nt d=false) (h:bF P r ops Q nt D rest ((d,.sc (.int k (bits .and k a b)))::fr) B L):
  bF P r ops Q nt D (⟨some d,.binOp .and t x y t',ty,pos,af,none⟩::rest) fr B L:=cz (Jt hx hy) hd rfl h
theorem A3 {k:IntKind} {a b:Int} (hx:bw fr x=some (.sc (.int k a))) (hy:bw fr y=some (.sc (.int k b))) (hd:Nat.ble nt d=false) (h:bF P r ops Q nt D rest ((d,.sc (.int k (bits .or k a b)))::fr) B L):
  bF P r ops Q nt D (⟨some d,.binOp .or t x y t',ty,pos,af,none⟩::rest) fr B L:=cz (zd hx hy) hd rfl h
end
end Go.Proofs.YtamjlkdanllgjaaGreatDoor
