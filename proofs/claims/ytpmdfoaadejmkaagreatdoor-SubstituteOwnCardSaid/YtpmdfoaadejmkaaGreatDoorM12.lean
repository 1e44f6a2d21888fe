/-
  Texts put together, texts of bytes, places in arrays, rests.
-/
import Derived.Test.YtpmdfoaadejmkaaGreatDoorM11
import Derived.Test.YtpmdfoaadejmkaaGreatDoorM06
import Derived.Test.YtpmdfoaadejmkaaGreatDoorM07
import Derived.Test.YtpmdfoaadejmkaaGreatDoorM08
import Derived.Test.YtpmdfoaadejmkaaGreatDoorM05
namespace Go.Proofs.YtpmdfoaadejmkaaGreatDoor
open Go.RowKit
section
variable {P:Program} {fr:bT} {B:Bs} {L:AL} {d:Option Tmp} {ty t t':TypeId} {pos:String} {af:Array Edge} {g:Option (Nat×Bool)} {x y:Operand} {u:AV}
theorem II {a b:ByteArray} (hx:bh fr x=some (.sc (.string a))) (hy:bh fr y=some (.sc (.string b))) (h:a.size+b.size≤1000000):Av P ⟨d,.binOp .add t x y t',ty,pos,af,g⟩ fr (.sc (.string (a++b))):=
 eL fun ρ w hρ=>by
  have:¬(9223372036854775807:Int) < ((a.size+b.size:Nat):Int):=by omega
  have h9:IntKind.max .i64=9223372036854775807:=rfl
  simp [execOp,hρ _ _ hx,hρ _ _ hy,eqGuard,binOp,Op.stringOp,h9]
  omega
theorem F3 {e by_:Nat} {c:Int} (hs:ln P t e 1 by_) (he:C0 P e .u8) (hd:C2 P t') (hx:bh fr x=some u) (hu:u.im= .imm 1 [[.sc (.int .u8 c)]]):Av P ⟨d,.convert t t' x,ty,pos,af,g⟩ fr (.sc (.string ⟨#[UInt8.ofNat c.toNat]⟩)):=
 fun σ ρ w hρ hw=>by
  have h1:=(hρ x _ hx).im
  rw [hu] at h1
  obtain ⟨A,cap,hv,_,_,hsz,ha,hcx,hcy⟩:=h1.imm_inv
  obtain ⟨b,off,rfl⟩:=ha (by simp)
  obtain ⟨v,hv1,_⟩:=hcx 0 b off 0 rfl (by simp) (by omega)
  have hv2:=hcy 0 _ b off 0 _ v rfl rfl rfl hv1
  have hv3:=hv2.sc_inv
  subst hv3
  have hcell:w.cell? ⟨b,off,none⟩=some (.int .u8 c):=by
   have:=hw _ _ _ hv1
   simpa using this
  have hload:(loadCells ⟨b,off,none⟩ 1).run P w= .ok #[.int .u8 c] w:=by
   have:=run_loadCells_list (P:=P) w ⟨b,off,none⟩ [.int .u8 c] fun j v hj=>by
    cases j with
    | zero=>simp at hj;subst hj;simpa [Addr.add] using hcell
    | succ j=>simp at hj
   simpa using this
  refine ⟨_,?_,.sc _⟩
  simp [execOp,hv,convert,run_underlying hs.under,run_underlying he.under,run_underlying hd.under,Conv.bytesToString,hload]
  rfl
theorem GR {n e sz k:Nat} {q:IntKind} {cs:List AV} (ht:P.underlying t=some (.array n e)) (hs:(P.info? e).map (·.size)=some sz) (hx:bh fr x=some (.iptr cs)) (hy:bh fr y=some (.sc (.int q (k:Int)))) (hk:k < n) (hl:k * sz≤cs.length):Av P ⟨d,.indexAddr t x y,ty,pos,af,g⟩ fr (.iptr (cs.drop (k * sz))):=
 fun σ ρ w hρ _=>by
  have hyv:=(hρ y _ hy).sc_inv
  obtain ⟨b,off,hv,hcx,hcy⟩:=(hρ x _ hx).iptr_inv
  have hk':(k:Int) < (n:Int):=by omega
  have hso:(sizeOf e:Sem Nat).run P w= .ok sz w:=by
   cases hi:P.info? e with
   | none=>rw [hi] at hs;cases hs
   | some i=>rw [hi] at hs;simp at hs;simp [sizeOf,typeInfo,hi,hs]
  refine ⟨.pointer (some ⟨b,off+k * sz,none⟩),?_,.iptr _ _ _ (fun j hj=>?_) fun j c v hc hw=>?_⟩
  ·simp [execOp,hv,hyv,Instr.indexAt,asIntOf,run_underlying ht,hk',hso,Instr.sureAddr,Addr.add]
   by_cases hn:n≤1 <;> by_cases h0:k * sz=0 <;> simp [hn,run_underlying ht,hso,hk,h0]
  ·have:=hcx (k * sz+j) (by simp at hj;omega)
   simpa [Nat.add_assoc] using this
  ·exact hcy (k * sz+j) c v (by simpa using hc) (by simpa [Nat.add_assoc] using hw)
end
def zT (tt:TT) (t:Nat):Option (Nat×Nat×Nat):=match dw tt t with
 | some ⟨.arr n e sz,_,_⟩=>some (n,e,sz)
 | _=>none
theorem iN {P:Program} {tt:TT} (ok:eu P tt) {t n e sz:Nat} (h:zT tt t=some (n,e,sz)):P.underlying t=some (.array n e)∧(P.info? e).map (·.size)=some sz:=by
 unfold zT at h
 split at h
 ·rename_i n' e' sz' si z ht
  cases h
  have:=ok.ok t _ ht
  simp only [BL,Bool.and_eq_true] at this
  obtain ⟨_,h2⟩:=this
  split at h2 <;> simp at h2
  rename_i hu
  obtain ⟨⟨rfl,rfl⟩,h3⟩:=h2
  refine ⟨hu,?_⟩
  unfold pG at h3
  split at h3
  ·rename_i i hi
   simp at h3
   simp [hi,h3]
  ·cases h3
 ·cases h
section
variable {P:Program} {tt:TT} {r:Option Nat} {ops:Array Oper} {Q:Exit→Act→World→Prop} {nt:Nat} {D:List Deferred} {fr:bT} {B:Bs} {L:AL} {rest:List Oper} {d:Nat} {ty t t':TypeId} {pos:String} {af:Array Edge} {x y z:Operand} {u:AV}
theorem H4 {a b:Int} (h:br P r ops Q nt D rest ((d,.sc (.int .i64 (a.tmod b)))::fr) B L) (hx:bh fr x=some (.sc (.int .i64 a)):=by rfl) (hy:bh fr y=some (.sc (.int .i64 b)):=by rfl) (hb:b≠0:=by omega) (hd:Nat.ble nt d=false:=by rfl):br P r ops Q nt D (⟨some d,.binOp .rem t x y t',ty,pos,af,none⟩::rest) fr B L:=ci (yu hx hy hb) hd rfl h
theorem Jh (ok:eu P tt) (k:Nat) {n e sz:Nat} {q:IntKind} {cs:List AV} (h:br P r ops Q nt D rest ((d,.iptr (cs.drop (k * sz)))::fr) B L) (ht:zT tt t=some (n,e,sz):=by rfl) (hx:bh fr x=some (.iptr cs):=by rfl) (hy:bh fr y=some (.sc (.int q (k:Int))):=by rfl) (hk:Nat.blt k n=true:=by rfl) (hl:Nat.ble (k * sz) cs.length=true:=by rfl) (hd:Nat.ble nt d=false:=by rfl):br P r ops Q nt D (⟨some d,.indexAddr t x y,ty,pos,af,none⟩::rest) fr B L:=by
 obtain ⟨h1,h2⟩:=iN ok ht
 exact ci (GR h1 h2 hx hy (by simpa [Nat.blt_eq] using hk) (by simpa [Nat.ble_eq] using hl)) hd rfl h
end
section
variable {P:Program} {tt:TT} {l:List Oper} {fr:bT} {fin:iR} {sk:m6} {acc:bT} {L:AL} {k:Nat} {dd:Option Tmp} {ty t t':TypeId} {pos:String} {af:Array Edge} {g:Option (Nat×Bool)} {x y:Operand} {u:AV}
theorem GX {a b:ByteArray} (h:DA P l fr fin sk ((k,.sc (.string (a++b)))::acc) L) (hx:bh (cx l.toArray acc fr af.toList) x=some (.sc (.string a)):=by rfl) (hy:bh (cx l.toArray acc fr af.toList) y=some (.sc (.string b)):=by rfl) (hs:a.size+b.size≤1000000:=by decide) (hg:it ⟨dd,.binOp .add t x y t',ty,pos,af,g⟩ acc:=by first | trivial | rfl):cA P l fr fin k .v ⟨dd,.binOp .add t x y t',ty,pos,af,g⟩ sk acc L:=fA hg (B7 (II hx hy hs)) h
theorem CT {a:Int} {q q':IntKind} {ti ti':TI} (ok:eu P tt) (h:DA P l fr fin sk ((k,.sc (.int q' (q'.wrap a)))::acc) L) (hx:bh (cx l.toArray acc fr af.toList) x=some (.sc (.int q a)):=by rfl) (ht:dw tt t=some ti:=by rfl) (hk:ti.k= .int q:=by rfl) (ht':dw tt t'=some ti':=by rfl) (hk':ti'.k= .int q':=by rfl) (hg:it ⟨dd,.convert t t' x,ty,pos,af,g⟩ acc:=by first | trivial | rfl):cA P l fr fin k .v ⟨dd,.convert t t' x,ty,pos,af,g⟩ sk acc L:=by
 haveI:=ok.int ht hk
 haveI:=ok.int ht' hk'
 exact fA hg (B7 (sv hx)) h
theorem yG (ok:eu P tt) {e by_:Nat} {c:Int} {ti ti':TI} (h:DA P l fr fin sk ((k,.sc (.string ⟨#[UInt8.ofNat c.toNat]⟩))::acc) L) (hx:bh (cx l.toArray acc fr af.toList) x=some u:=by rfl) (hu:j6 u=some (1,[[.sc (.int .u8 c)]]):=by rfl) (ht:kr tt t=some (e,1,by_):=by rfl) (he:dw tt e=some ti:=by rfl) (hk:ti.k= .int .u8:=by rfl) (ht':dw tt t'=some ti':=by rfl) (hk':ti'.k= .str:=by rfl) (hg:it ⟨dd,.convert t t' x,ty,pos,af,g⟩ acc:=by first | trivial | rfl):cA P l fr fin k .v ⟨dd,.convert t t' x,ty,pos,af,g⟩ sk acc L:=
 fA hg (B7 (F3 (bo ok ht).1 (ok.int he hk) (ok.str ht' hk') hx (cY hu))) h
theorem GW (ok:eu P tt) (m:Nat) {n e sz:Nat} {q:IntKind} {cs:List AV} (h:DA P l fr fin sk ((k,.iptr (cs.drop (m * sz)))::acc) L) (ht:zT tt t=some (n,e,sz):=by rfl) (hx:bh (cx l.toArray acc fr af.toList) x=some (.iptr cs):=by rfl) (hy:bh (cx l.toArray acc fr af.toList) y=some (.sc (.int q (m:Int))):=by rfl) (hk:Nat.blt m n=true:=by rfl) (hl:Nat.ble (m * sz) cs.length=true:=by rfl) (hg:it ⟨dd,.indexAddr t x y,ty,pos,af,g⟩ acc:=by first | trivial | rfl):cA P l fr fin k .v ⟨dd,.indexAddr t x y,ty,pos,af,g⟩ sk acc L:=by
 obtain ⟨h1,h2⟩:=iN ok ht
 exact fA hg (B7 (GR h1 h2 hx hy (by simpa [Nat.blt_eq] using hk) (by simpa [Nat.ble_eq] using hl))) h
end
section
variable {P:Program} {l:List Oper} {fr:bT} {fin:iR} {sk:m6} {acc:bT} {L:AL} {k j:Nat} {dd:Option Tmp} {op:Op} {ty:TypeId} {pos:String} {af:Array Edge} {b want:Bool}
theorem HV (hj:rc acc j= .sc (.bool b)) (hb:(b==want)=false) (hn:DA P l fr fin sk ((k,.sc undef)::acc) L):cA P l fr fin k .f ⟨dd,op,ty,pos,af,some (j,want)⟩ sk acc L:=by
 intro ho
 obtain ⟨pl,hpl⟩:=hn
 refine ⟨.eff k (fun c L'=>c= .sc undef∧L'=L) fun _ _=>pl,.f,sk,_,.inr (.inr ⟨rfl,fun c L' ⟨_,h2⟩ hK=>by rw [h2];exact hK⟩),rfl,ho,.inr ⟨⟨_,hj,fun e=>by injection e with e;subst e;simp at hb⟩,rfl,rfl⟩,fun c L' ⟨h1,h2⟩=>by rw [h1,h2];exact hpl⟩
end
end Go.Proofs.YtpmdfoaadejmkaaGreatDoor
namespace Go.Proofs.YtpmdfoaadejmkaaGreatDoor
open Go.RowKit
section
variable {P:Program} {fr:bT} {B:Bs} {L:AL} {d:Option Tmp} {ty t t':TypeId} {pos:String} {af:Array Edge} {g:Option (Nat×Bool)} {x y z q:Operand} {u:AV}
theorem CZ.cells {e:TypeId} {i:TypeInfo} {zz:Value} {zs:List Value} (hz:CZ P e zs) (hi:P.info? e=some i) (hzz:i.zero=some zz) (w:World):zz.cells=zs.toArray:=by
 obtain ⟨v,hv,hr⟩:=hz.run
 have:=hr w
 simp [zeroValue,typeInfo,hi,hzz] at this
 rw [this,hv]
theorem oh {σ:Mem} (l:List Value):cS σ (l.map .sc) l:=by
 refine ⟨by simp,fun i c u hc hu=>?_⟩
 rw [List.getElem?_map,hu] at hc
 cases hc
 exact .sc _
theorem fX {zs:Array Value} {n:Nat} {v:Value} (h:v∈(Builtin.zeroCells zs n).toList):v∈zs.toList:=by
 obtain ⟨i,hi,rfl⟩:=List.getElem_of_mem h
 simp only [Builtin.zeroCells] at hi ⊢
 by_cases h0:zs.size=0
 ·simp [h0] at hi
 ·have:i % zs.size < zs.size:=Nat.mod_lt _ (by omega)
  simp [this]
theorem wP (i:Nat) {e sz by_ b n cap:Nat} {cs es:List AV} {zs:List Value} (hc:ln P t e sz by_) (hs0:0 < sz) (hz:CZ P e zs) (hz1:zs.all (·.oneCell')=true) (hx:bh fr x=some (.sc (.slice (some ⟨b,0,none⟩) n cap))) (hy:bh fr y=some u) (hu:u.im= .imm sz [es]) (hL:L[i]?=some (b,.box cs e)) (hcl:cs.length=cap * sz) (hn:n≤cap) (hcm:cap≤maxLen) (h63:n+1≤maxLen) (hby:(n+1) * by_≤140737488355328):
  AO P ⟨d,.call ⟨.builtin .append,#[x,y],#[t,t]⟩,ty,pos,af,g⟩ fr B L (fun r L'=>∃b' cs' cap',r= .sc (.slice (some ⟨b',0,none⟩) (n+1) cap')∧cs'.length=cap' * sz∧cs'.take ((n+1) * sz)=cs.take (n * sz)++es∧n+1≤cap'∧cap'≤maxLen∧L'=(b',.box cs' e)::L.eraseIdx i):=by
 intro σ ρ w hρ hw0
 have hw:=hw0.perm (dY hL)
 have hxv:=(hρ x _ hx).sc_inv
 have hyv:=(hρ y u hy).im
 rw [hu] at hyv
 obtain ⟨A2,c2,hA2,_⟩:=hyv.imm_inv
 rw [hA2] at hyv
 obtain ⟨_,_,_,hs2,ys,hyl,hyr,hy1,hyc⟩:=hyv.row
 obtain ⟨b2,off2,rfl,hycc⟩:=hyc (by simp)
 haveI:=hc
 obtain ⟨inf,zz,hi,hsz,rfl,hzz,hzs⟩:=hc.info
 have hzc:=hz.cells hi hzz w
 obtain ⟨o,ho,vs,rfl,hvs,h1⟩:=hw.here _ (List.mem_cons_self ..)
 have hl:=hvs.1
 have hel:es.length=sz:=hs2 es (by simp)
 have hyl0:ys.length=sz:=by simpa [hel] using hyl
 have hyl':ys.length=1 * inf.size:=by rw [hsz];omega
 have hyr':cS σ es ys:=by simpa using hyr
 have hnews:∀j v,ys[j]?=some v→w.cell? ((⟨b2,off2,none⟩:Addr).add j)=some v:=fun j v hj=>by rw [dJ];exact hw.froz _ _ _ (hycc j v hj)
 have hA2':ρ y= .slice (some ⟨b2,off2,none⟩) 1 c2:=hA2
 have hmul:(n+1) * sz=n * sz+sz:=by rw [Nat.add_mul,Nat.one_mul]
 have hnc:n * sz≤cap * sz:=Nat.mul_le_mul_right _ hn
 unfold maxLen at hcm h63
 unfold gT
 by_cases hroom:n+1≤cap
 ·have hnc1:(n+1) * sz≤cap * sz:=Nat.mul_le_mul_right _ hroom
  have hr:=run_append_room (P:=P) w t ty e inf hc.under hi b n cap vs.toArray ho ⟨b2,off2,none⟩ 1 c2 ys hyl' hnews hy1 hroom (by rw [hsz];simp;omega)
  rw [show (execOp ρ ⟨d,.call ⟨.builtin .append,#[x,y],#[t,t]⟩,ty,pos,af,g⟩).run P w= .ok (.value (.slice (some ⟨b,0,none⟩) (n+1) cap)) (w.setRow b (vs.toArray.toList.take (n * inf.size)++ys++vs.toArray.toList.drop (n * inf.size+ys.length)).toArray) by
   simp [execOp,resolve,hxv,hA2',invoke,builtin,hr]]
  rw [hsz,hyl0]
  have hcl':(cs.take (n * sz)++es++cs.drop (n * sz+sz)).length=cap * sz:=by simp;omega
  refine ⟨σ,.sc _,_,Mem.le_refl _,.sc _,hw.put (a':= .box (cs.take (n * sz)++es++cs.drop (n * sz+sz)) e) (fun _=>trivial) ⟨rfl,rfl,rfl,by simp,fun k _ hk=>setRow_other w b k _ (fun e=>hk (by simp [e]))⟩ (setRow_heap w b _ _ e _ ho) ⟨_,rfl,eQ (eQ (ir hvs _) hyr') (og hvs _),fun u hu=>?_⟩,b,_,cap,rfl,hcl',?_,hroom,by unfold maxLen;omega,rfl⟩
  ·rcases Ll hu with hu | hu
   ·rcases Ll hu with hu | hu
    ·exact h1 _ (List.mem_of_mem_take hu)
    ·exact hy1 _ hu
   ·exact h1 _ (List.mem_of_mem_drop hu)
  ·rw [List.take_append_of_le_length (by simp;omega),List.take_of_length_le (by simp;omega)]
 ·have hncap:n=cap:=by omega
  subst hncap
  have holds:∀j v,vs[j]?=some v→w.cell? ((⟨b,0,none⟩:Addr).add j)=some v:=fun j v hj=>by
   rw [dJ,Nat.zero_add,cX ho]
   simpa using hj
  have hr:=run_append_grow (P:=P) w t ty e inf zz hc.under hi hzz ⟨b,0,none⟩ n n vs (by rw [hsz];omega) holds ⟨b2,off2,none⟩ 1 c2 ys hyl' hnews (by omega) (by omega) (growslice_fits (by omega) hby)
  rw [show (execOp ρ ⟨d,.call ⟨.builtin .append,#[x,y],#[t,t]⟩,ty,pos,af,g⟩).run P w= .ok (.value (.slice (some ⟨w.heap.size,0,none⟩) (n+1) (grownCap w (n+1) n e))) (w.drew.alloc (.cells (vs.toArray++ys.toArray++Builtin.zeroCells zz.cells (grownCap w (n+1) n e - (n+1))) e)) by
   simp [execOp,resolve,hxv,hA2',invoke,builtin,hr]]
  have hge:=grownCap_ge w (n+1) n e
  have hgm:=grownCap_le_maxLen w (n+1) n e (by unfold maxLen;omega)
  have hzl:∀k,(Builtin.zeroCells zz.cells k).toList.length=k * sz:=fun k=>by rw [Array.length_toList,size_zeroCells,hzs]
  have hzm:∀k,∀v∈(Builtin.zeroCells zz.cells k).toList,v.oneCell'=true:=fun k v hv=>by
   have:=fX hv
   rw [hzc] at this
   exact List.all_eq_true.1 hz1 v (by simpa using this)
  generalize grownCap w (n+1) n e=cap' at *
  have hmc:cap' * sz=(n+1) * sz+(cap' - (n+1)) * sz:=by rw [←Nat.add_mul];congr 1;omega
  have hzl':=hzl (cap' - (n+1))
  have hzm':=hzm (cap' - (n+1))
  generalize Builtin.zeroCells zz.cells (cap' - (n+1))=zc at *
  have hlen:(cs++es++zc.toList.map AV.sc).length=cap' * sz:=by simp only [List.length_append,Lu,hzl'];omega
  refine ⟨σ,.sc _,_,Mem.le_refl _,.sc _,((hw.sublist (List.sublist_cons_self ..)).drew _).alloc _ (.box (cs++es++zc.toList.map AV.sc) e) ⟨vs++ys++zc.toList,by simp,eQ (eQ hvs hyr') (oh _),fun u hu=>?_⟩,w.heap.size,_,cap',rfl,hlen,?_,hge,hgm,rfl⟩
  ·rcases Ll hu with hu | hu
   ·rcases Ll hu with hu | hu
    ·exact h1 _ hu
    ·exact hy1 _ hu
   ·exact hzm' u hu
  ·rw [List.take_append_of_le_length (by simp;omega),List.take_of_length_le (by simp;omega),List.take_of_length_le (by omega)]
theorem uV {e sz by_:Nat} {es:List AV} {zs:List Value} (hc:ln P t e sz by_) (hs0:0 < sz) (hz:CZ P e zs) (hz1:zs.all (·.oneCell')=true) (hx:bh fr x=some (.sc (.slice none 0 0))) (hy:bh fr y=some u) (hu:u.im= .imm sz [es]) (hby:by_≤140737488355328):
  AO P ⟨d,.call ⟨.builtin .append,#[x,y],#[t,t]⟩,ty,pos,af,g⟩ fr B L (fun r L'=>∃b' cs' cap',r= .sc (.slice (some ⟨b',0,none⟩) 1 cap')∧cs'.length=cap' * sz∧cs'.take (1 * sz)=es∧1≤cap'∧cap'≤maxLen∧L'=(b',.box cs' e)::L):=by
 intro σ ρ w hρ hw
 have hxv:=(hρ x _ hx).sc_inv
 have hyv:=(hρ y u hy).im
 rw [hu] at hyv
 obtain ⟨A2,c2,hA2,_⟩:=hyv.imm_inv
 rw [hA2] at hyv
 obtain ⟨_,_,_,hs2,ys,hyl,hyr,hy1,hyc⟩:=hyv.row
 obtain ⟨b2,off2,rfl,hycc⟩:=hyc (by simp)
 haveI:=hc
 obtain ⟨inf,zz,hi,hsz,rfl,hzz,hzs⟩:=hc.info
 have hzc:=hz.cells hi hzz w
 have hel:es.length=sz:=hs2 es (by simp)
 have hyl0:ys.length=sz:=by simpa [hel] using hyl
 have hyl':ys.length=1 * inf.size:=by rw [hsz];omega
 have hyr':cS σ es ys:=by simpa using hyr
 have hnews:∀j v,ys[j]?=some v→w.cell? ((⟨b2,off2,none⟩:Addr).add j)=some v:=fun j v hj=>by rw [dJ];exact hw.froz _ _ _ (hycc j v hj)
 have hA2':ρ y= .slice (some ⟨b2,off2,none⟩) 1 c2:=hA2
 have hr:=run_append_nil (P:=P) w t ty e inf zz hc.under hi hzz ⟨b2,off2,none⟩ 1 c2 ys hyl' hnews (by omega) (by omega) (by omega)
 unfold gT
 rw [show (execOp ρ ⟨d,.call ⟨.builtin .append,#[x,y],#[t,t]⟩,ty,pos,af,g⟩).run P w= .ok (.value (.slice (some ⟨w.heap.size,0,none⟩) 1 (grownCap w 1 0 e))) (w.drew.alloc (.cells (ys.toArray++Builtin.zeroCells zz.cells (grownCap w 1 0 e - 1)) e)) by
  simp [execOp,resolve,hxv,hA2',invoke,builtin,hr]]
 have hge:=grownCap_ge w 1 0 e
 have hgm:=grownCap_le_maxLen w 1 0 e (by unfold maxLen;omega)
 have hzl:∀k,(Builtin.zeroCells zz.cells k).toList.length=k * sz:=fun k=>by rw [Array.length_toList,size_zeroCells,hzs]
 have hzm:∀k,∀v∈(Builtin.zeroCells zz.cells k).toList,v.oneCell'=true:=fun k v hv=>by
  have:=fX hv
  rw [hzc] at this
  exact List.all_eq_true.1 hz1 v (by simpa using this)
 generalize grownCap w 1 0 e=cap' at *
 have hmc:cap' * sz=sz+(cap' - 1) * sz:=by
  have:cap'=1+(cap' - 1):=by omega
  rw [this,Nat.add_mul]
  simp
 have hzl':=hzl (cap' - 1)
 have hzm':=hzm (cap' - 1)
 generalize Builtin.zeroCells zz.cells (cap' - 1)=zc at *
 have hlen:(es++zc.toList.map AV.sc).length=cap' * sz:=by simp only [List.length_append,Lu,hzl'];omega
 refine ⟨σ,.sc _,_,Mem.le_refl _,.sc _,(hw.drew _).alloc _ (.box (es++zc.toList.map AV.sc) e) ⟨ys++zc.toList,by simp,eQ hyr' (oh _),fun u hu=>?_⟩,w.heap.size,_,cap',rfl,hlen,?_,hge,hgm,rfl⟩
 ·rcases Ll hu with hu | hu
  ·exact hy1 _ hu
  ·exact hzm' u hu
 ·rw [List.take_append_of_le_length (by simp;omega),List.take_of_length_le (by simp;omega)]
end
section
variable {B:Bs} {fr:bT} {nt:Nat} {D:List Deferred}
theorem cz {σ:Mem} {cs:List AV} {vs:List Value} {k:Nat} {c c':AV} (h:cS σ cs vs) (hk:cs[k]?=some c) (hc:∀v,VR σ c v→VR σ c' v):cS σ (cs.set k c') vs:=by
 refine ⟨by rw [List.length_set];exact h.1,fun i x u hx hu=>?_⟩
 by_cases e:k=i
 ·subst e
  rw [List.getElem?_set_self (Ln hk).1] at hx
  cases hx
  exact hc _ (h.2 k c u hk hu)
 ·rw [List.getElem?_set_ne e] at hx
  exact h.2 i x u hx hu
theorem tv {b p e e' sz n cap k:Nat} {cs ds:List AV} {R:AL} {l:List (List AV)} (hk:ds[k]?=some (.sc (.slice (some ⟨b,0,none⟩) n cap))) (hc:cs.take (n * sz)=l.flatten) (hcl:cs.length=cap * sz) (hs:∀q∈l,q.length=sz) (hn:l.length=n) (hnc:n≤cap) (hm:cap≤maxLen):jn nt D B fr ((b,.box cs e)::(p,.box ds e')::R) fr ((p,.box (ds.set k (.imm sz l)) e')::R):=by
 intro σ a w ha hw
 obtain ⟨o,ho,vs,rfl,hvs,h1⟩:=hw.here _ (List.mem_cons_self ..)
 have hfree:=hw.free _ (List.mem_cons_self ..)
 have hvl:vs.length=cap * sz:=by rw [←hvs.1,hcl]
 have hst:cL B σ ((b,.vec e sz 0 cap)::(p,.box ds e')::R) w:=by
  refine ⟨hw.os,hw.tape,hw.output,hw.size,hw.old,fun p' hp=>?_,fun p' hp=>?_,by simpa using hw.apart,hw.froz,fun p' hp off hm=>?_,hw.grow,hw.same,hw.cold⟩
  ·rcases List.mem_cons.1 hp with rfl | hp'
   ·exact ⟨_,ho,_,rfl,by simp [hvl],Nat.zero_le _,hm⟩
   ·exact hw.here p' (Ls _ hp')
  ·rcases List.mem_cons.1 hp with rfl | hp'
   ·exact hw.mine (b,.box cs e) (List.mem_cons_self ..)
   ·exact hw.mine p' (Ls _ hp')
  ·rcases List.mem_cons.1 hp with rfl | hp'
   ·exact hfree off trivial
   ·exact hw.free p' (Ls _ hp') off hm
 have hle':n * sz≤cap * sz:=Nat.mul_le_mul_right _ hnc
 obtain ⟨hst',hle⟩:=hst.freezeHead (n':=n) (xs:=vs.take (n * sz)) (fun j u hj=>by
  rw [List.getElem?_take] at hj
  split at hj
  ·rw [cX ho];simpa using hj
  ·cases hj) (by rw [List.length_take];omega) (Nat.zero_le _) hnc
 have hv:VR (σ.add b (vs.take (n * sz))) (.vec (some (b,cap)) sz l) (.slice (some ⟨b,0,none⟩) n cap):=by
  have:=lY (σ:=σ.add b (vs.take (n * sz))) (b:=b) (cap:=cap) hs (by rw [←hc];exact (ir hvs _).mono hle) (fun u hu=>h1 u (List.mem_of_mem_take hu)) (by omega) hm (fun j u hj=>Mem.add_at hj)
  rwa [hn] at this
 have hw2:=hst'.sublist (List.sublist_cons_self ..)
 refine ⟨_,ha.mono hle,?_⟩
 obtain ⟨o2,ho2,ws,rfl,hws,hw1⟩:=hw2.here _ (List.mem_cons_self ..)
 refine ⟨hw2.os,hw2.tape,hw2.output,hw2.size,hw2.old,fun p' hp=>?_,fun p' hp=>?_,by simpa using hw2.apart,hw2.froz,fun p' hp off hm=>?_,hw2.grow,hw2.same,hw2.cold⟩
 ·rcases List.mem_cons.1 hp with rfl | hp'
  ·exact ⟨_,ho2,ws,rfl,cz hws hk fun v hvv=>by rw [hvv.sc_inv];exact hv.im,hw1⟩
  ·exact hw2.here p' (Ls _ hp')
 ·rcases List.mem_cons.1 hp with rfl | hp'
  ·exact hw2.mine (p,.box ds e') (List.mem_cons_self ..)
  ·exact hw2.mine p' (Ls _ hp')
 ·rcases List.mem_cons.1 hp with rfl | hp'
  ·exact hw2.free (p,.box ds e') (List.mem_cons_self ..) off trivial
  ·exact hw2.free p' (Ls _ hp') off hm
end
section
variable {P:Program} {tt:TT} {l:List Oper} {fr:bT} {fin:iR} {sk:m6} {acc:bT} {L:AL} {k:Nat} {dd:Option Tmp} {ty t t':TypeId} {pos:String} {af:Array Edge} {g:Option (Nat×Bool)} {x y:Operand} {u:AV}
theorem Ah (ok:eu P tt) (i:Nat) {e sz by_ b n cap:Nat} {cs es:List AV} {zs:List Value} (ht:kr tt t=some (e,sz,by_)) (hz:zI tt e=some zs) (hz1:zs.all (·.oneCell')=true) (hx:bh (cx l.toArray acc fr af.toList) x=some (.sc (.slice (some ⟨b,0,none⟩) n cap))) (hy:bh (cx l.toArray acc fr af.toList) y=some u) (hu:j6 u=some (sz,[es])) (hL:L[i]?=some (b,.box cs e)) (hcl:cs.length=cap * sz) (hn:n≤cap) (hcm:cap≤maxLen) (h63:n+1≤maxLen) (hby:(n+1) * by_≤140737488355328) (hg:it ⟨dd,.call ⟨.builtin .append,#[x,y],#[t,t]⟩,ty,pos,af,g⟩ acc)
  (h:∀b' cs' cap',cs'.length=cap' * sz→cs'.take ((n+1) * sz)=cs.take (n * sz)++es→n+1≤cap'→cap'≤maxLen→DA P l fr fin sk ((k,.sc (.slice (some ⟨b',0,none⟩) (n+1) cap'))::acc) ((b',.box cs' e)::L.eraseIdx i)):
  cA P l fr fin k .e ⟨dd,.call ⟨.builtin .append,#[x,y],#[t,t]⟩,ty,pos,af,g⟩ sk acc L:=
 kH hg (fun _=>wP i (bo ok ht).1 (bo ok ht).2 (f5 ok hz) hz1 hx hy (cY hu) hL hcl hn hcm h63 hby) fun c L' ⟨b',cs',cap',h1,h2,h3,h4,h5,h6⟩=>by subst h1;subst h6;exact h b' cs' cap' h2 h3 h4 h5
theorem xd (ok:eu P tt) {e sz by_:Nat} {es:List AV} {zs:List Value} (ht:kr tt t=some (e,sz,by_)) (hz:zI tt e=some zs) (hz1:zs.all (·.oneCell')=true) (hx:bh (cx l.toArray acc fr af.toList) x=some (.sc (.slice none 0 0))) (hy:bh (cx l.toArray acc fr af.toList) y=some u) (hu:j6 u=some (sz,[es])) (hby:Nat.ble by_ 140737488355328=true) (hg:it ⟨dd,.call ⟨.builtin .append,#[x,y],#[t,t]⟩,ty,pos,af,g⟩ acc)
  (h:∀b' cs' cap',cs'.length=cap' * sz→cs'.take (1 * sz)=es→1≤cap'→cap'≤maxLen→DA P l fr fin sk ((k,.sc (.slice (some ⟨b',0,none⟩) 1 cap'))::acc) ((b',.box cs' e)::L)):
  cA P l fr fin k .e ⟨dd,.call ⟨.builtin .append,#[x,y],#[t,t]⟩,ty,pos,af,g⟩ sk acc L:=
 kH hg (fun _=>uV (bo ok ht).1 (bo ok ht).2 (f5 ok hz) hz1 hx hy (cY hu) (Nat.ble_eq .. ▸hby)) fun c L' ⟨b',cs',cap',h1,h2,h3,h4,h5,h6⟩=>by subst h1;subst h6;exact h b' cs' cap' h2 h3 h4 h5
theorem Ad (ok:eu P tt) (L0:AL) {e sz by_:Nat} {q:Option (Nat×Nat)} {l1 l2:List (List AV)} (ht:kr tt t=some (e,sz,by_)) (hx:bh (cx l.toArray acc fr af.toList) x=some (.vec q sz l1)) (hy:bh (cx l.toArray acc fr af.toList) y=some u) (hu:j6 u=some (sz,l2)) (hL:L.Perm (tok q e sz l1.length++L0)) (h63:l1.length+l2.length≤9223372036854775807) (hby:(l1.length+l2.length) * by_≤140737488355328) (hK:eC fin.gs L0) (hg:it ⟨dd,.call ⟨.builtin .append,#[x,y],#[t,t]⟩,ty,pos,af,g⟩ acc)
  (h:∀q',DA P l fr fin sk ((k,.vec q' sz (l1++l2))::acc) (tok q' e sz (l1++l2).length++L0)):
  cA P l fr fin k .f ⟨dd,.call ⟨.builtin .append,#[x,y],#[t,t]⟩,ty,pos,af,g⟩ sk acc L:=
 tN (fun c L' ⟨k',_,h2⟩ _=>by subst h2;exact vO hK _) hg (fun _=>ox L0 (bo ok ht).1 (bo ok ht).2 hx hy (cY hu) hL h63 hby) fun c L' ⟨k',h1,h2⟩=>by subst h1;subst h2;exact h k'
end
end Go.Proofs.YtpmdfoaadejmkaaGreatDoor
namespace Go.Proofs.YtpmdfoaadejmkaaGreatDoor
open Go.RowKit
end Go.Proofs.YtpmdfoaadejmkaaGreatDoor
namespace Go.Proofs.YtpmdfoaadejmkaaGreatDoor
open Go.RowKit
def uO (fr:bT) (B:Bs) (L:AL) (y:Operand) (sz m:Nat) (es:List AV):Prop:=∀σ (ρ:Operand→Value) w,(∀x c,bh fr x=some c→VR σ c (ρ x))→cL B σ L w→
 ∃A c ys,ρ y= .slice A m c∧cS σ es ys∧(∀u∈ys,u.oneCell'=true)∧ys.length=m * sz∧(0 < m→∃b off,A=some ⟨b,off,none⟩∧∀j v,ys[j]?=some v→w.cell? ((⟨b,off,none⟩:Addr).add j)=some v)
section
variable {P:Program} {fr:bT} {B:Bs} {L:AL} {d:Option Tmp} {ty t t':TypeId} {pos:String} {af:Array Edge} {g:Option (Nat×Bool)} {x y z q:Operand} {u:AV}
theorem rP {sz:Nat} {l:List (List AV)} (hy:bh fr y=some u) (hu:j6 u=some (sz,l)):uO fr B L y sz l.length l.flatten:=by
 intro σ ρ w hρ hw
 have hyv:=(hρ y u hy).im
 rw [cY hu] at hyv
 obtain ⟨A2,c2,hA2,_⟩:=hyv.imm_inv
 rw [hA2] at hyv
 obtain ⟨_,_,_,hs2,ys,hyl,hyr,hy1,hyc⟩:=hyv.row
 refine ⟨A2,c2,ys,hA2,by simpa using hyr,hy1,?_,fun h0=>?_⟩
 ·rw [hyl]
 ·obtain ⟨b2,off2,e,hycc⟩:=hyc h0
  exact ⟨b2,off2,e,fun j v hj=>by rw [dJ];exact hw.froz _ _ _ (hycc j v hj)⟩
theorem rQ (i:Nat) {b off n c sz:Nat} {cs:List AV} {e:TypeId} (hy:bh fr y=some (.sc (.slice (some ⟨b,off,none⟩) n c))) (hL:L[i]?=some (b,.box cs e)) (hb:off+n * sz≤cs.length):uO fr B L y sz n ((cs.drop off).take (n * sz)):=by
 intro σ ρ w hρ hw
 have hyv:=(hρ y _ hy).sc_inv
 obtain ⟨o,ho,vs,rfl,hvs,h1⟩:=hw.here _ (Lw hL)
 have hl:=hvs.1
 refine ⟨_,c,(vs.drop off).take (n * sz),hyv,ir (og hvs _) _,fun u hu=>h1 _ (List.mem_of_mem_drop (List.mem_of_mem_take hu)),by rw [List.length_take,List.length_drop];omega,fun h0=>⟨b,off,rfl,fun j v hj=>?_⟩⟩
 rw [dJ,cX ho]
 have hjl:=(Ln hj).1
 rw [List.length_take] at hjl
 rw [List.getElem?_take_of_lt (by omega),List.getElem?_drop] at hj
 simpa using hj
theorem wO (i:Nat) {e sz by_ b n cap m:Nat} {cs es:List AV} {zs:List Value} (hc:ln P t e sz by_) (hs0:0 < sz) (hz:CZ P e zs) (hz1:zs.all (·.oneCell')=true) (hx:bh fr x=some (.sc (.slice (some ⟨b,0,none⟩) n cap))) (hy:uO fr B L y sz m es) (hL:L[i]?=some (b,.box cs e)) (hcl:cap * sz≤cs.length) (hn:n≤cap) (hcm:cap≤maxLen) (h63:n+m≤maxLen) (hby:(n+m) * by_≤140737488355328):
  AO P ⟨d,.call ⟨.builtin .append,#[x,y],#[t,t]⟩,ty,pos,af,g⟩ fr B L (fun r L'=>∃b' cs' cap',r= .sc (.slice (some ⟨b',0,none⟩) (n+m) cap')∧cap' * sz≤cs'.length∧cs'.take ((n+m) * sz)=cs.take (n * sz)++es∧n+m≤cap'∧cap'≤maxLen∧(n+m≤cap→b'=b∧cap'=cap∧cs'=cs.take (n * sz)++es++cs.drop (n * sz+m * sz))∧L'=(b',.box cs' e)::L.eraseIdx i):=by
 intro σ ρ w hρ hw0
 obtain ⟨A2,c2,ys,hA2,hyr,hy1,hyl,hycc⟩:=hy σ ρ w hρ hw0
 have hw:=hw0.perm (dY hL)
 have hxv:=(hρ x _ hx).sc_inv
 haveI:=hc
 obtain ⟨inf,zz,hi,hsz,rfl,hzz,hzs⟩:=hc.info
 have hzc:=hz.cells hi hzz w
 obtain ⟨o,ho,vs,rfl,hvs,h1⟩:=hw.here _ (List.mem_cons_self ..)
 have hl:=hvs.1
 have hel:es.length=m * sz:=by rw [←hyl];exact hyr.1
 have hyl':ys.length=m * inf.size:=by rw [hsz];exact hyl
 have hmul:(n+m) * sz=n * sz+m * sz:=Nat.add_mul ..
 have hnc:n * sz≤cap * sz:=Nat.mul_le_mul_right _ hn
 unfold maxLen at hcm h63
 unfold gT
 by_cases hm0:m=0
 ·subst hm0
  have hes:es=[]:=List.eq_nil_of_length_eq_zero (by rw [hel];omega)
  subst hes
  rw [show (execOp ρ ⟨d,.call ⟨.builtin .append,#[x,y],#[t,t]⟩,ty,pos,af,g⟩).run P w= .ok (.value (.slice (some ⟨b,0,none⟩) n cap)) w by
   simp [execOp,resolve,hxv,hA2,invoke,builtin,li (t:=t) hn]]
  refine ⟨σ,.sc _,_,Mem.le_refl _,.sc _,hw,b,cs,cap,rfl,hcl,?_,hn,by unfold maxLen;omega,fun _=>⟨rfl,rfl,?_⟩,rfl⟩
  ·simp
  ·simp
 obtain ⟨b2,off2,rfl,hnews⟩:=hycc (by omega)
 by_cases hroom:n+m≤cap
 ·have hnc1:(n+m) * sz≤cap * sz:=Nat.mul_le_mul_right _ hroom
  have hr:=run_append_room (P:=P) w t ty e inf hc.under hi b n cap vs.toArray ho ⟨b2,off2,none⟩ m c2 ys hyl' hnews hy1 hroom (by rw [hsz];simp;omega)
  rw [show (execOp ρ ⟨d,.call ⟨.builtin .append,#[x,y],#[t,t]⟩,ty,pos,af,g⟩).run P w= .ok (.value (.slice (some ⟨b,0,none⟩) (n+m) cap)) (w.setRow b (vs.toArray.toList.take (n * inf.size)++ys++vs.toArray.toList.drop (n * inf.size+ys.length)).toArray) by
   simp [execOp,resolve,hxv,hA2,invoke,builtin,hr]]
  rw [hsz,hyl]
  refine ⟨σ,.sc _,_,Mem.le_refl _,.sc _,hw.put (a':= .box (cs.take (n * sz)++es++cs.drop (n * sz+m * sz)) e) (fun _=>trivial) ⟨rfl,rfl,rfl,by simp,fun k _ hk=>setRow_other w b k _ (fun e=>hk (by simp [e]))⟩ (setRow_heap w b _ _ e _ ho) ⟨_,rfl,eQ (eQ (ir hvs _) hyr) (og hvs _),fun u hu=>?_⟩,b,_,cap,rfl,?_,?_,hroom,by unfold maxLen;omega,fun _=>⟨rfl,rfl,rfl⟩,rfl⟩
  ·rcases Ll hu with hu | hu
   ·rcases Ll hu with hu | hu
    ·exact h1 _ (List.mem_of_mem_take hu)
    ·exact hy1 _ hu
   ·exact h1 _ (List.mem_of_mem_drop hu)
  ·simp only [List.length_append,List.length_take,List.length_drop,hel];omega
  ·rw [List.take_append_of_le_length (by simp;omega),List.take_of_length_le (by simp;omega)]
 ·have holds:∀j v,(vs.take (n * sz))[j]?=some v→w.cell? ((⟨b,0,none⟩:Addr).add j)=some v:=fun j v hj=>by
   rw [dJ,Nat.zero_add,cX ho]
   have hjl:=(Ln hj).1
   rw [List.length_take] at hjl
   rw [List.getElem?_take_of_lt (by omega)] at hj
   simpa using hj
  have hr:=run_append_grow (P:=P) w t ty e inf zz hc.under hi hzz ⟨b,0,none⟩ n cap (vs.take (n * sz)) (by rw [hsz,List.length_take];omega) holds ⟨b2,off2,none⟩ m c2 ys hyl' hnews (by omega) (by omega) (growslice_fits (by omega) hby)
  rw [show (execOp ρ ⟨d,.call ⟨.builtin .append,#[x,y],#[t,t]⟩,ty,pos,af,g⟩).run P w= .ok (.value (.slice (some ⟨w.heap.size,0,none⟩) (n+m) (grownCap w (n+m) cap e))) (w.drew.alloc (.cells ((vs.take (n * sz)).toArray++ys.toArray++Builtin.zeroCells zz.cells (grownCap w (n+m) cap e - (n+m))) e)) by
   simp [execOp,resolve,hxv,hA2,invoke,builtin,hr]]
  have hge:=grownCap_ge w (n+m) cap e
  have hgm:=grownCap_le_maxLen w (n+m) cap e (by unfold maxLen;omega)
  have hzl:∀k,(Builtin.zeroCells zz.cells k).toList.length=k * sz:=fun k=>by rw [Array.length_toList,size_zeroCells,hzs]
  have hzm:∀k,∀v∈(Builtin.zeroCells zz.cells k).toList,v.oneCell'=true:=fun k v hv=>by
   have:=fX hv
   rw [hzc] at this
   exact List.all_eq_true.1 hz1 v (by simpa using this)
  generalize grownCap w (n+m) cap e=cap' at *
  have hmc:cap' * sz=(n+m) * sz+(cap' - (n+m)) * sz:=by rw [←Nat.add_mul];congr 1;omega
  have hzl':=hzl (cap' - (n+m))
  have hzm':=hzm (cap' - (n+m))
  generalize Builtin.zeroCells zz.cells (cap' - (n+m))=zc at *
  refine ⟨σ,.sc _,_,Mem.le_refl _,.sc _,((hw.sublist (List.sublist_cons_self ..)).drew _).alloc _ (.box (cs.take (n * sz)++es++zc.toList.map AV.sc) e) ⟨vs.take (n * sz)++ys++zc.toList,by simp,eQ (eQ (ir hvs _) hyr) (oh _),fun u hu=>?_⟩,w.heap.size,_,cap',rfl,?_,?_,hge,hgm,fun hh=>absurd hh hroom,rfl⟩
  ·rcases Ll hu with hu | hu
   ·rcases Ll hu with hu | hu
    ·exact h1 _ (List.mem_of_mem_take hu)
    ·exact hy1 _ hu
   ·exact hzm' u hu
  ·simp only [List.length_append,Lu,hzl',List.length_take,hel];omega
  ·rw [List.take_append_of_le_length (by simp;omega),List.take_of_length_le (by simp;omega)]
theorem Hr {dd:Option Tmp} {e sz by_ b off n cap hi:Nat} {k k':IntKind} {a a':Int} (hc:ln P t e sz by_) (hx:bh fr x=some (.sc (.slice (some ⟨b,off,none⟩) n cap))) (hy:bh fr y=some (.sc (.int k a))) (ha:a=(hi:Int)) (hz:bh fr z=some (.sc (.int k' a'))) (ha':a'=(hi:Int)) (h:hi≤cap):Av P ⟨dd,.slice t x none (some y) (some z),ty,pos,af,g⟩ fr (.sc (.slice (some ⟨b,off,none⟩) hi hi)):=by
 intro σ ρ w hρ _
 subst ha;subst ha'
 haveI:=hc
 refine ⟨_,?_,.sc _⟩
 by_cases h0:hi=0
 ·subst h0
  simp [execOp,(hρ x _ hx).sc_inv,(hρ y _ hy).sc_inv,(hρ z _ hz).sc_inv,Instr.sliceAt,Instr.slice,Instr.sliceBounds,Instr.sliceBound,asIntOf,run_underlying hc.under,d5 (t:=t)]
 ·simp [execOp,(hρ x _ hx).sc_inv,(hρ y _ hy).sc_inv,(hρ z _ hz).sc_inv,Instr.sliceAt,Instr.slice,Instr.sliceBounds,Instr.sliceBound,asIntOf,run_underlying hc.under,d5 (t:=t),h,h0,dJ]
theorem yo {dd:Option Tmp} {e sz by_ b off n cap hi:Nat} {k:IntKind} {a:Int} (hc:ln P t e sz by_) (hx:bh fr x=some (.sc (.slice (some ⟨b,off,none⟩) n cap))) (hy:bh fr y=some (.sc (.int k a))) (ha:a=(hi:Int)) (h:hi≤cap):Av P ⟨dd,.slice t x none (some y) none,ty,pos,af,g⟩ fr (.sc (.slice (some ⟨b,off,none⟩) hi cap)):=by
 intro σ ρ w hρ _
 subst ha
 haveI:=hc
 refine ⟨_,?_,.sc _⟩
 by_cases h3:cap=0
 ·have:hi=0:=by omega
  subst h3;subst this
  simp [execOp,(hρ x _ hx).sc_inv,(hρ y _ hy).sc_inv,Instr.sliceAt,Instr.slice,Instr.sliceBounds,Instr.sliceBound,asIntOf,run_underlying hc.under,d5 (t:=t)]
 ·simp [execOp,(hρ x _ hx).sc_inv,(hρ y _ hy).sc_inv,Instr.sliceAt,Instr.slice,Instr.sliceBounds,Instr.sliceBound,asIntOf,run_underlying hc.under,d5 (t:=t),h,h3,dJ]
theorem sB:∀{L:AL} {i b:Nat} {a:AB},L[i]?=some (b,a)→eF L i a=L
 | [],_,_,_,h=>by simp at h
 | (c,x)::L,0,b,a,h=>by
  simp at h
  rw [h.2]
  rfl
 | (c,x)::L,i+1,b,a,h=>by
  have:=sB (L:=L) (i:=i) (by simpa using h)
  rw [eF,this]
theorem zP (i:Nat) {dd:Option Tmp} {e sz by_ b off m k cp:Nat} {cs:List AV} {zs:List Value} (hc:ln P t e sz by_) (hs0:0 < sz) (hz:CZ P e zs) (hz1:zs.all (·.oneCell')=true) (hx:bh fr x=some (.sc (.slice (some ⟨b,off,none⟩) k cp))) (ho:off=m * sz∨k=0) (hL:L[i]?=some (b,.box cs e)) (hfit:m * sz+k * sz≤cs.length):
  AO P ⟨dd,.call ⟨.builtin .clear,#[x],#[t]⟩,ty,pos,af,g⟩ fr B L (fun c L'=>∃cs',c= .sc (.tuple #[])∧cs'.length=cs.length∧cs'.take (m * sz)=cs.take (m * sz)∧L'=eF L i (.box cs' e)):=by
 intro σ ρ w hρ hw
 haveI:=hc
 obtain ⟨i0,zv,hi0,hs1,hs2,hzv,hzs⟩:=hc.info
 obtain ⟨zv',hz2,hz3⟩:=hz.run
 have hzz:zv=zv':=by
  have:=hz3 w
  simp [zeroValue,typeInfo,hi0,hzv] at this
  exact this
 subst hzz
 have hxv:=(hρ x _ hx).sc_inv
 obtain ⟨vs,hb,hvs,h1⟩:=hw.boxCell hL
 have hl:=hvs.1
 unfold gT
 by_cases hk0:k=0
 ·subst hk0
  rw [show (execOp ρ ⟨dd,.call ⟨.builtin .clear,#[x],#[t]⟩,ty,pos,af,g⟩).run P w= .ok (.value (.tuple #[])) w by
   simp [execOp,resolve,hxv,invoke,builtin,Builtin.clear_,run_underlying hc.under,hz3,Builtin.zeroCells,storeCells]]
  refine ⟨σ,.sc _,_,Mem.le_refl _,.sc _,?_,cs,rfl,rfl,rfl,rfl⟩
  rw [sB hL]
  exact hw
 obtain rfl:off=m * sz:=ho.resolve_right hk0
 have hzl:(Builtin.zeroCells zv.cells k).toList.length=k * sz:=by simp [Builtin.zeroCells,hzs]
 have hone:∀v∈(Builtin.zeroCells zv.cells k).toList,v.oneCell'=true:=fun v hv=>by
  have:=fX hv
  have hzl2:zv.cells.toList=zs:=by rw [hz2]
  rw [hzl2] at this
  exact List.all_eq_true.1 hz1 v this
 have hrun:=run_storeCells_cells (P:=P) b (m * sz) (Builtin.zeroCells zv.cells k).toList 0 w (fun j hj=>by rw [Nat.add_zero,cX hb];rw [hzl] at hj;simp;omega) (fun j hj=>sU hb) hone
 simp only [Nat.add_zero] at hrun
 obtain ⟨hg,cs',hh,hs',hj⟩:=i7 b (Builtin.zeroCells zv.cells k).toList (m * sz) w _ e (0,0) hb
 obtain ⟨q,hq⟩:∃q,k=q+1:=⟨k - 1,by omega⟩
 rw [show (execOp ρ ⟨dd,.call ⟨.builtin .clear,#[x],#[t]⟩,ty,pos,af,g⟩).run P w= .ok (.value (.tuple #[])) (w.setCells b (m * sz) (Builtin.zeroCells zv.cells k).toList) by
  rw [hq] at hxv hrun ⊢
  simp [execOp,resolve,hxv,invoke,builtin,Builtin.clear_,run_underlying hc.under,hz3,hrun]]
 generalize hzz:(Builtin.zeroCells zv.cells k).toList=ys at *
 refine ⟨σ,.sc _,_,Mem.le_refl _,.sc _,hw.putAt (a':= .box (fx cs (m * sz) (ys.map .sc)) e) hL (fun _=>trivial) hg hh ⟨cs'.toList,by simp,⟨by rw [je,hl];simp [hs'],fun i c u hc hu=>?_⟩,fun u hu=>?_⟩,_,rfl,je ..,?_,rfl⟩
 ·have hu':cs'[i]?=some u:=by simpa using hu
  rw [hj i] at hu'
  rw [gL _ _ _ _ (by simp;omega)] at hc
  simp only [Lu] at hc
  have hvz:vs.toArray.size=vs.length:=rfl
  by_cases hi:m * sz≤i∧i < m * sz+ys.length
  ·rw [if_pos hi] at hc
   rw [if_pos ⟨hi.1,hi.2,by omega⟩] at hu'
   rw [List.getElem?_map,hu'] at hc
   cases hc
   exact .sc _
  ·rw [if_neg hi] at hc
   rw [if_neg (fun e=>hi ⟨e.1,e.2.1⟩)] at hu'
   exact hvs.2 i c u hc (by simpa using hu')
 ·obtain ⟨i,hi⟩:=List.mem_iff_getElem?.1 hu
  have hu':cs'[i]?=some u:=by simpa using hi
  rw [hj i] at hu'
  split at hu'
  ·exact hone _ (Lw hu')
  ·exact h1 _ (Lw (by simpa using hu'))
 ·refine List.ext_getElem? fun j=>?_
  by_cases hjm:j < m * sz
  ·rw [List.getElem?_take_of_lt hjm,List.getElem?_take_of_lt hjm,gL _ _ _ _ (by simp;omega),if_neg (by omega)]
  ·rw [List.getElem?_eq_none (by rw [List.length_take];omega),List.getElem?_eq_none (by rw [List.length_take];omega)]
end
section
variable {P:Program} {tt:TT} {r:Option Nat} {ops:Array Oper} {Q:Exit→Act→World→Prop} {nt:Nat} {D:List Deferred} {fr:bT} {B:Bs} {L:AL} {rest:List Oper} {d:Nat} {ty t t':TypeId} {pos:String} {af:Array Edge} {x y z:Operand} {u:AV}
theorem jU (ok:eu P tt) (i:Nat) {e sz by_ b n cap m:Nat} {cs es:List AV} {zs:List Value} (ht:kr tt t=some (e,sz,by_)) (hz:zI tt e=some zs) (hz1:zs.all (·.oneCell')=true) (hx:bh fr x=some (.sc (.slice (some ⟨b,0,none⟩) n cap))) (hy:uO fr B L y sz m es) (hL:L[i]?=some (b,.box cs e)) (hcl:cap * sz≤cs.length) (hn:n≤cap) (hcm:cap≤maxLen) (h63:n+m≤maxLen) (hby:(n+m) * by_≤140737488355328) (hd:Nat.ble nt d=false)
  (h:∀b' cs' cap',cap' * sz≤cs'.length→cs'.take ((n+m) * sz)=cs.take (n * sz)++es→n+m≤cap'→cap'≤maxLen→(n+m≤cap→b'=b∧cap'=cap∧cs'=cs.take (n * sz)++es++cs.drop (n * sz+m * sz))→br P r ops Q nt D rest ((d,.sc (.slice (some ⟨b',0,none⟩) (n+m) cap'))::fr) B ((b',.box cs' e)::L.eraseIdx i)):
  br P r ops Q nt D (⟨some d,.call ⟨.builtin .append,#[x,y],#[t,t]⟩,ty,pos,af,none⟩::rest) fr B L:=
 cw hd rfl (wO i (bo ok ht).1 (bo ok ht).2 (f5 ok hz) hz1 hx hy hL hcl hn hcm h63 hby) fun c L' ⟨b',cs',cap',h1,h2,h3,h4,h5,h6,h7⟩=>by subst h1;subst h7;exact h b' cs' cap' h2 h3 h4 h5 h6
theorem Ia (ok:eu P tt) (hi:Nat) {e sz by_ b off n cap:Nat} {k k':IntKind} {a a':Int} (ht:kr tt t=some (e,sz,by_)) (hx:bh fr x=some (.sc (.slice (some ⟨b,off,none⟩) n cap))) (hy:bh fr y=some (.sc (.int k a))) (ha:a=(hi:Int)) (hz:bh fr z=some (.sc (.int k' a'))) (ha':a'=(hi:Int)) (h1:hi≤cap) (hd:Nat.ble nt d=false) (h:br P r ops Q nt D rest ((d,.sc (.slice (some ⟨b,off,none⟩) hi hi))::fr) B L):
  br P r ops Q nt D (⟨some d,.slice t x none (some y) (some z),ty,pos,af,none⟩::rest) fr B L:=ci (Hr (bo ok ht).1 hx hy ha hz ha' h1) hd rfl h
theorem z7 (ok:eu P tt) (hi:Nat) {e sz by_ b off n cap:Nat} {k:IntKind} {a:Int} (ht:kr tt t=some (e,sz,by_)) (hx:bh fr x=some (.sc (.slice (some ⟨b,off,none⟩) n cap))) (hy:bh fr y=some (.sc (.int k a))) (ha:a=(hi:Int)) (h1:hi≤cap) (hd:Nat.ble nt d=false) (h:br P r ops Q nt D rest ((d,.sc (.slice (some ⟨b,off,none⟩) hi cap))::fr) B L):
  br P r ops Q nt D (⟨some d,.slice t x none (some y) none,ty,pos,af,none⟩::rest) fr B L:=ci (yo (bo ok ht).1 hx hy ha h1) hd rfl h
theorem DU (ok:eu P tt) (i:Nat) {e sz by_ b off m k cp:Nat} {cs:List AV} {zs:List Value} (ht:kr tt t=some (e,sz,by_)) (hz:zI tt e=some zs) (hz1:zs.all (·.oneCell')=true) (hx:bh fr x=some (.sc (.slice (some ⟨b,off,none⟩) k cp))) (ho:off=m * sz∨k=0) (hL:L[i]?=some (b,.box cs e)) (hfit:m * sz+k * sz≤cs.length)
  (h:∀cs',cs'.length=cs.length→cs'.take (m * sz)=cs.take (m * sz)→br P r ops Q nt D rest fr B (eF L i (.box cs' e))):
  br P r ops Q nt D (⟨none,.call ⟨.builtin .clear,#[x],#[t]⟩,ty,pos,af,none⟩::rest) fr B L:=
 iV rfl (zP i (bo ok ht).1 (bo ok ht).2 (f5 ok hz) hz1 hx ho hL hfit) fun c L' ⟨cs',h1,h2,h3,h4⟩=>by subst h4;exact h cs' h2 h3
end
end Go.Proofs.YtpmdfoaadejmkaaGreatDoor
namespace Go.Proofs.YtpmdfoaadejmkaaGreatDoor
open Go.RowKit
def C3 (P:Program):Nat→List Field→Prop
 | _,[]=>True
 | k,f::fs=>(f.name≠ "_" ∧f.offset=k∧P.underlying f.type=some (.int .i64))∧C3 P (k+1) fs
structure yj (P:Program) (t:TypeId) (n:Nat):Prop where
 ex:∃fs:Array Field,P.underlying t=some (.struct fs)∧fs.size=n∧C3 P 0 fs.toList
 st:P.stoodInHeld t=false
 gd:P.eqGuardType P.depth t=false
def pM (l:List Int):List Value:=l.map fun z=> .int .i64 z
section
variable {P:Program}
theorem rK (w:World) (d:Nat) (xs ys:List Int):∀(fs:List Field) (k:Nat),C3 P k fs→k+fs.length=xs.length→xs.length=ys.length→
  (Op.eqFields (d+1) (pM xs).toArray (pM ys).toArray fs).run P w= .ok (decide (xs.drop k=ys.drop k)) w
 | [],k,_,hx,hy=>by
  simp only [List.length_nil,Nat.add_zero] at hx
  rw [List.drop_of_length_le (by omega),List.drop_of_length_le (by omega)]
  simp [Op.eqFields]
 | f::fs,k,h,hx,hy=>by
  obtain ⟨⟨hn,ho,hu⟩,hr⟩:=h
  simp only [List.length_cons] at hx
  have hkx:k < xs.length:=by omega
  have hky:k < ys.length:=by omega
  have ih:=rK w d xs ys fs (k+1) hr (by omega) hy
  simp only [Op.eqFields,if_pos hn,Sem.run_bind,ho]
  rw [eD hu (v:= .int .i64 xs[k]) (by simp [pM,hkx])]
  simp only [Result.andThen]
  rw [eD hu (v:= .int .i64 ys[k]) (by simp [pM,hky])]
  simp only [Result.andThen]
  rw [run_equalIn_int w d f.type .i64 .i64 _ _ hu]
  simp only [Result.andThen,Sem.run_ite]
  have e:decide (xs.drop k=ys.drop k)=decide (xs[k]=ys[k]∧xs.drop (k+1)=ys.drop (k+1)):=by
   rw [List.drop_eq_getElem_cons hkx,List.drop_eq_getElem_cons hky]
   exact decide_eq_decide.2 (by rw [List.cons.injEq])
  rw [e,ih]
  by_cases he:xs[k]=ys[k]
  ·simp only [he,true_and]
   simp
  ·simp [he]
theorem yj.eq {t:TypeId} {n:Nat} (h:yj P t n) {xs ys:List Int} (hx:xs.length=n) (hy:ys.length=n) (w:World):(Op.equal t (.agg (pM xs).toArray) (.agg (pM ys).toArray)).run P w= .ok (decide (xs=ys)) w:=by
 obtain ⟨⟨fs,hu,hs,hf⟩,hst,_⟩:=h
 have hf':P.fieldsOf t=fs:=by simp [Program.fieldsOf,hu]
 have hu':P.underlying t=some (.struct (P.fieldsOf t)):=by rw [hf'];exact hu
 unfold Op.equal
 rw [show Op.maxDepth=9999+1 from rfl,run_equalIn_struct w 9999 t _ _ hu' hst,hf',show (9999:Nat)=9998+1 from rfl,rK w 9998 xs ys fs.toList 0 hf (by simp;omega) (by omega)]
 rfl
theorem zB {σ:Mem} {l:List Int} {v:Value} (h:VR σ (.agg ((pM l).map .sc)) v):v= .agg (pM l).toArray:=by
 cases h with
 | agg _ vs hl h h1=>
  simp only [Lu] at hl
  have e:vs=pM l:=by
   refine List.ext_getElem? fun i=>?_
   by_cases hi:i < vs.length
   ·rw [Iy hi,Iy (by omega)]
    have:=h i (.sc (pM l)[i]) vs[i] (by rw [List.getElem?_map,Iy (by omega)];rfl) (Iy hi)
    rw [this.sc_inv]
   ·rw [List.getElem?_eq_none (by omega),List.getElem?_eq_none (by omega)]
  rw [e]
end
section
variable {P:Program} {fr:bT} {B:Bs} {L:AL} {d:Option Tmp} {ty t t':TypeId} {pos:String} {af:Array Edge} {g:Option (Nat×Bool)} {x y z:Operand}
theorem HA {n:Nat} {a b:List Int} (ht:yj P t n) (hx:bh fr x=some (.agg ((pM a).map .sc))) (hy:bh fr y=some (.agg ((pM b).map .sc))) (ha:a.length=n) (hb:b.length=n):Av P ⟨d,.binOp .neq t x y t',ty,pos,af,g⟩ fr (.sc (.bool (!decide (a=b)))):=by
 intro σ ρ w hρ _
 refine ⟨_,?_,.sc _⟩
 have h1:=zB (hρ x _ hx)
 have h2:=zB (hρ y _ hy)
 have h3:=ht.eq ha hb w
 unfold Op.equal at h3
 rw [show Op.maxDepth=10000 from rfl] at h3
 simp only [execOp,h1,h2,Sem.run_bind,run_eqGuard_agg w .neq t x y _ _ ht.gd,run_neq_struct,h3,Result.andThen,Sem.run_pure]
end
end Go.Proofs.YtpmdfoaadejmkaaGreatDoor
namespace Go.Proofs.YtpmdfoaadejmkaaGreatDoor
open Go.RowKit
attribute [local irreducible] AT br AX AO Av Kt b7 dm DA cA
def c6 (a b:AV):Prop:=∀σ v,VR σ a v→VR σ b v
def iS:List AV→List AV→Prop
 | [],[]=>True
 | a::r,b::q=>c6 a b∧iS r q
 | _,_=>False
def s7:List (List AV)→List (List AV)→Prop
 | [],[]=>True
 | a::r,b::q=>iS a b∧s7 r q
 | _,_=>False
theorem c6.refl (a:AV):c6 a a:=fun _ _ h=>h
theorem c6.nil (n:Nat):c6 (.sc (.slice none 0 0)) (.imm n []):=fun _ _ h=>jy n h
theorem iS.len:∀{a b:List AV},iS a b→a.length=b.length
 | [],[],_=>rfl
 | _::_,_::_,h=>by simp [h.2.len]
theorem iS.at:∀{a b:List AV},iS a b→∀(i:Nat) c c',a[i]?=some c→b[i]?=some c'→c6 c c'
 | x::a,y::b,h,0,c,c',h1,h2=>by
  simp at h1 h2
  subst h1;subst h2
  exact h.1
 | _::a,_::b,h,i+1,c,c',h1,h2=>h.2.at i c c' (by simpa using h1) (by simpa using h2)
theorem iS.vrs {a b:List AV} (h:iS a b) {σ:Mem} {vs:List Value} (hv:cS σ a vs):cS σ b vs:=zC h.len (fun i c c' h1 h2=>h.at i c c' h1 h2 σ) hv
theorem s7.len:∀{a b:List (List AV)},s7 a b→a.length=b.length
 | [],[],_=>rfl
 | _::_,_::_,h=>by simp [h.2.len]
theorem s7.at:∀{a b:List (List AV)},s7 a b→∀(i:Nat) c c',a[i]?=some c→b[i]?=some c'→iS c c'
 | x::a,y::b,h,0,c,c',h1,h2=>by
  simp at h1 h2
  subst h1;subst h2
  exact h.1
 | _::a,_::b,h,i+1,c,c',h1,h2=>h.2.at i c c' (by simpa using h1) (by simpa using h2)
theorem c6.agg {a b:List AV} (h:iS a b):c6 (.agg a) (.agg b):=fun σ v hv=>by
 cases hv with
 | agg _ vs hl hx h1=>exact .agg _ _ (h.len▸hl) (fun i c u hc hu=>(h.vrs (σ:=σ) ⟨hl,hx⟩).2 i c u hc hu) h1
theorem c6.imm {s:Nat} {a b:List (List AV)} (h:s7 a b):c6 (.imm s a) (.imm s b):=fun σ v hv=>by
 cases hv with
 | imm _ _ A cap hc hm hs ha hx hh=>
  have hl:=h.len
  rw [hl]
  have get:∀{i:Nat} {e:List AV},b[i]?=some e→∃e',a[i]?=some e'∧iS e' e:=fun {i e} he=>by
   have hi:i < a.length:=by rw [hl];exact (Ln he).1
   exact ⟨_,Iy hi,h.at i _ _ (Iy hi) he⟩
  refine .imm s b A cap (hl▸hc) hm (fun e he=>?_) (fun hb=>ha fun e=>hb (List.eq_nil_of_length_eq_zero (by rw [←hl,e];rfl))) (fun i b' off j hA hi hj=>hx i b' off j hA (hl▸hi) hj) fun i e b' off j c u he hA hj hu=>?_
  ·obtain ⟨i,hi⟩:=List.mem_iff_getElem?.1 he
   obtain ⟨e',h1,h2⟩:=get hi
   rw [←h2.len]
   exact hs _ (Lw h1)
  ·obtain ⟨e',h1,h2⟩:=get he
   have hj':j < e'.length:=by rw [h2.len];exact (Ln hj).1
   exact h2.at j _ c (Iy hj') hj σ u (hh i e' b' off j _ u h1 hA (Iy hj') hu)
theorem c6.trans {a b c:AV} (h:c6 a b) (k:c6 b c):c6 a c:=fun σ v hv=>k σ v (h σ v hv)
theorem AC.args {P:Program} {f:FuncId} {a b:List AV} {L:AL} {Post:AV→AL→Prop} (h:AC P f b L Post) (k:iS a b):AC P f a L Post:=fun σ w vs hv hs=>h σ w vs (k.vrs hv) hs
section
variable {P:Program} {nt:Nat} {fr:bT} {B:Bs} {L:AL}
theorem nW {fn:Func} {t:Tmp} {e:TypeId} {b k:Nat} {cs:List Value} {tmps:Array Value} {w:World} [GN P e k] (h:fn.results=#[.cell t e]) (ht:tmps.getD t undef= .pointer (some ⟨b,0,none⟩)) (hl:cs.length=k) (hc:∀j v,cs[j]?=some v→w.cell? ⟨b,0+j,none⟩=some v):
  (results fn tmps).run P w= .ok (.agg cs.toArray) w:=by
 rw [Array.getD_eq_getD_getElem?] at ht
 simp [results,h,ht,asAddr,fI hl hc]
theorem Fh (ok:eu P tt) (i:Nat) {fn:Func} {Post:AV→AL→Prop} {t:Tmp} {e e':TypeId} {b k:Nat} {cs:List AV} (hr:fn.results=#[.cell t e]) (hk:HM tt e=some k) (hv:ca fr t=some (.sc (.pointer (some ⟨b,0,none⟩)))) (hL:L[i]?=some (b,.box cs e')) (hl:Nat.beq cs.length k=true) (h:Post (.agg cs) L):
  AX P .ret (bodyPost P fn (i8 B Post)) nt [] fr B L:=by
 unfold AX
 intro σ a w ha hw
 haveI:=ee ok hk
 obtain ⟨vs,hb,hs,h1⟩:=hw.boxCell hL
 have hl:=Nat.eq_of_beq_eq_true hl
 refine ⟨ha.defers,_,nW (cs:=vs) hr (ha.look t _ hv).sc_inv (hs.1.symm.trans hl) (fun j v hj=>by rw [cX hb,Nat.zero_add];simpa using hj),_,σ,_,L,rfl,.agg cs vs hs.1 hs.2 h1,hw,h⟩
end
end Go.Proofs.YtpmdfoaadejmkaaGreatDoor
