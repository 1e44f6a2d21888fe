/-
  Texts put together, texts of bytes, places in arrays, rests.
-/
import Derived.Test.YtjjpkibjffmceaaGreatM11
import Derived.Test.YtjjpkibjffmceaaGreatM06
import Derived.Test.YtjjpkibjffmceaaGreatM07
import Derived.WalkSpells
namespace Go.Proofs.YtjjpkibjffmceaaGreat
open Go.RowKit
section
variable {P:Program} {fr:cu} {B:Bs} {L:AL} {d:Option Tmp} {ty t t':TypeId} {pos:String} {af:Array Edge} {g:Option (Nat×Bool)} {x y:Operand} {u:AV}
theorem Eo {a b:ByteArray} (hx:bO fr x=some (.sc (.string a))) (hy:bO fr y=some (.sc (.string b))) (h:a.size+b.size≤1000000):Av P ⟨d,.binOp .add t x y t',ty,pos,af,g⟩ fr (.sc (.string (a++b))):=
 f9 fun ρ w hρ=>by
  have:¬(9223372036854775807:Int) < ((a.size+b.size:Nat):Int):=by omega
  have h9:IntKind.max .i64=9223372036854775807:=rfl
  simp [execOp,hρ _ _ hx,hρ _ _ hy,eqGuard,binOp,Op.stringOp,h9]
  omega
theorem wL {e by_:Nat} {c:Int} (hs:oC P t e 1 by_) (he:Cz P e .u8) (hd:CB P t') (hx:bO fr x=some u) (hu:u.im= .imm 1 [[.sc (.int .u8 c)]]):Av P ⟨d,.convert t t' x,ty,pos,af,g⟩ fr (.sc (.string ⟨#[UInt8.ofNat c.toNat]⟩)):=
 fun σ ρ w hρ hw=>by
  have h1:=(hρ x _ hx).im
  rw [hu] at h1
  obtain ⟨A,cap,hv,_,_,hsz,ha,hcx,hcy⟩:=h1.imm_inv
  obtain ⟨b,off,rfl⟩:=ha (by simp)
  obtain ⟨v,hv1,_⟩:=hcx 0 b off 0 rfl (by simp) (by omega)
  have hv2:=hcy 0 _ b off 0 _ v rfl rfl rfl hv1
  have hv3:=hv2.sc_inv
  subst hv3
  have hcell:w.cell? ⟨b,off,none⟩=some (.int .u8 c):=by
   have:=hw _ _ _ hv1
   simpa using this
  have hload:(loadCells ⟨b,off,none⟩ 1).run P w= .ok #[.int .u8 c] w:=by
   have:=run_loadCells_list (P:=P) w ⟨b,off,none⟩ [.int .u8 c] fun j v hj=>by
    cases j with
    | zero=>simp at hj;subst hj;simpa [Addr.add] using hcell
    | succ j=>simp at hj
   simpa using this
  refine ⟨_,?_,.sc _⟩
  simp [execOp,hv,convert,run_underlying hs.under,run_underlying he.under,run_underlying hd.under,Conv.bytesToString,hload]
  rfl
theorem En {n e sz k:Nat} {q:IntKind} {cs:List AV} (ht:P.underlying t=some (.array n e)) (hs:(P.info? e).map (·.size)=some sz) (hx:bO fr x=some (.iptr cs)) (hy:bO fr y=some (.sc (.int q (k:Int)))) (hk:k < n) (hl:k * sz≤cs.length):Av P ⟨d,.indexAddr t x y,ty,pos,af,g⟩ fr (.iptr (cs.drop (k * sz))):=
 fun σ ρ w hρ _=>by
  have hyv:=(hρ y _ hy).sc_inv
  obtain ⟨b,off,hv,hcx,hcy⟩:=(hρ x _ hx).iptr_inv
  have hk':(k:Int) < (n:Int):=by omega
  have hso:(sizeOf e:Sem Nat).run P w= .ok sz w:=by
   cases hi:P.info? e with
   | none=>rw [hi] at hs;cases hs
   | some i=>rw [hi] at hs;simp at hs;simp [sizeOf,typeInfo,hi,hs]
  refine ⟨.pointer (some ⟨b,off+k * sz,none⟩),?_,.iptr _ _ _ (fun j hj=>?_) fun j c v hc hw=>?_⟩
  ·simp [execOp,hv,hyv,Instr.indexAt,asIntOf,run_underlying ht,hk',hso,Instr.sureAddr,Addr.add]
   by_cases hn:n≤1 <;> by_cases h0:k * sz=0 <;> simp [hn,run_underlying ht,hso,hk,h0]
  ·have:=hcx (k * sz+j) (by simp at hj;omega)
   simpa [Nat.add_assoc] using this
  ·exact hcy (k * sz+j) c v (by simpa using hc) (by simpa [Nat.add_assoc] using hw)
end
def xO (tt:TT) (t:Nat):Option (Nat×Nat×Nat):=match dP tt t with
 | some ⟨.arr n e sz,_,_⟩=>some (n,e,sz)
 | _=>none
theorem nR {P:Program} {tt:TT} (ok:fp P tt) {t n e sz:Nat} (h:xO tt t=some (n,e,sz)):P.underlying t=some (.array n e)∧(P.info? e).map (·.size)=some sz:=by
 unfold xO at h
 split at h
 ·rename_i n' e' sz' si z ht
  cases h
  have:=ok.ok t _ ht
  simp only [zD,Bool.and_eq_true] at this
  obtain ⟨_,h2⟩:=this
  split at h2 <;> simp at h2
  rename_i hu
  obtain ⟨⟨rfl,rfl⟩,h3⟩:=h2
  refine ⟨hu,?_⟩
  unfold oZ at h3
  split at h3
  ·rename_i i hi
   simp at h3
   simp [hi,h3]
  ·cases h3
 ·cases h
section
variable {P:Program} {tt:TT} {r:Option Nat} {ops:Array Oper} {Q:Exit→Act→World→Prop} {nt:Nat} {D:List Deferred} {fr:cu} {B:Bs} {L:AL} {rest:List Oper} {d:Nat} {ty t t':TypeId} {pos:String} {af:Array Edge} {x y z:Operand} {u:AV}
theorem BL {a b:Int} (h:bW P r ops Q nt D rest ((d,.sc (.int .i64 (a.tmod b)))::fr) B L) (hx:bO fr x=some (.sc (.int .i64 a)):=by rfl) (hy:bO fr y=some (.sc (.int .i64 b)):=by rfl) (hb:b≠0:=by omega) (hd:Nat.ble nt d=false:=by rfl):bW P r ops Q nt D (⟨some d,.binOp .rem t x y t',ty,pos,af,none⟩::rest) fr B L:=dX (Gd hx hy hb) hd rfl h
theorem GA (ok:fp P tt) (k:Nat) {n e sz:Nat} {q:IntKind} {cs:List AV} (h:bW P r ops Q nt D rest ((d,.iptr (cs.drop (k * sz)))::fr) B L) (ht:xO tt t=some (n,e,sz):=by rfl) (hx:bO fr x=some (.iptr cs):=by rfl) (hy:bO fr y=some (.sc (.int q (k:Int))):=by rfl) (hk:Nat.blt k n=true:=by rfl) (hl:Nat.ble (k * sz) cs.length=true:=by rfl) (hd:Nat.ble nt d=false:=by rfl):bW P r ops Q nt D (⟨some d,.indexAddr t x y,ty,pos,af,none⟩::rest) fr B L:=by
 obtain ⟨h1,h2⟩:=nR ok ht
 exact dX (En h1 h2 hx hy (by simpa [Nat.blt_eq] using hk) (by simpa [Nat.ble_eq] using hl)) hd rfl h
end
section
variable {P:Program} {tt:TT} {l:List Oper} {fr:cu} {fin:kF} {sk:mF} {acc:cu} {L:AL} {k:Nat} {dd:Option Tmp} {ty t t':TypeId} {pos:String} {af:Array Edge} {g:Option (Nat×Bool)} {x y:Operand} {u:AV}
theorem dy {a b:ByteArray} (h:DA P l fr fin sk ((k,.sc (.string (a++b)))::acc) L) (hx:bO (dc l.toArray acc fr af.toList) x=some (.sc (.string a)):=by rfl) (hy:bO (dc l.toArray acc fr af.toList) y=some (.sc (.string b)):=by rfl) (hs:a.size+b.size≤1000000:=by decide) (hg:jt ⟨dd,.binOp .add t x y t',ty,pos,af,g⟩ acc:=by first | trivial | rfl):dl P l fr fin k .v ⟨dd,.binOp .add t x y t',ty,pos,af,g⟩ sk acc L:=ir hg (FB (Eo hx hy hs)) h
theorem AH {a:Int} {q q':IntKind} {ti ti':TI} (ok:fp P tt) (h:DA P l fr fin sk ((k,.sc (.int q' (q'.wrap a)))::acc) L) (hx:bO (dc l.toArray acc fr af.toList) x=some (.sc (.int q a)):=by rfl) (ht:dP tt t=some ti:=by rfl) (hk:ti.k= .int q:=by rfl) (ht':dP tt t'=some ti':=by rfl) (hk':ti'.k= .int q':=by rfl) (hg:jt ⟨dd,.convert t t' x,ty,pos,af,g⟩ acc:=by first | trivial | rfl):dl P l fr fin k .v ⟨dd,.convert t t' x,ty,pos,af,g⟩ sk acc L:=by
 haveI:=ok.int ht hk
 haveI:=ok.int ht' hk'
 exact ir hg (FB (ru hx)) h
theorem wX (ok:fp P tt) {e by_:Nat} {c:Int} {ti ti':TI} (h:DA P l fr fin sk ((k,.sc (.string ⟨#[UInt8.ofNat c.toNat]⟩))::acc) L) (hx:bO (dc l.toArray acc fr af.toList) x=some u:=by rfl) (hu:j9 u=some (1,[[.sc (.int .u8 c)]]):=by rfl) (ht:nH tt t=some (e,1,by_):=by rfl) (he:dP tt e=some ti:=by rfl) (hk:ti.k= .int .u8:=by rfl) (ht':dP tt t'=some ti':=by rfl) (hk':ti'.k= .str:=by rfl) (hg:jt ⟨dd,.convert t t' x,ty,pos,af,g⟩ acc:=by first | trivial | rfl):dl P l fr fin k .v ⟨dd,.convert t t' x,ty,pos,af,g⟩ sk acc L:=
 ir hg (FB (wL (cf ok ht).1 (ok.int he hk) (ok.str ht' hk') hx (dm hu))) h
theorem Er (ok:fp P tt) (m:Nat) {n e sz:Nat} {q:IntKind} {cs:List AV} (h:DA P l fr fin sk ((k,.iptr (cs.drop (m * sz)))::acc) L) (ht:xO tt t=some (n,e,sz):=by rfl) (hx:bO (dc l.toArray acc fr af.toList) x=some (.iptr cs):=by rfl) (hy:bO (dc l.toArray acc fr af.toList) y=some (.sc (.int q (m:Int))):=by rfl) (hk:Nat.blt m n=true:=by rfl) (hl:Nat.ble (m * sz) cs.length=true:=by rfl) (hg:jt ⟨dd,.indexAddr t x y,ty,pos,af,g⟩ acc:=by first | trivial | rfl):dl P l fr fin k .v ⟨dd,.indexAddr t x y,ty,pos,af,g⟩ sk acc L:=by
 obtain ⟨h1,h2⟩:=nR ok ht
 exact ir hg (FB (En h1 h2 hx hy (by simpa [Nat.blt_eq] using hk) (by simpa [Nat.ble_eq] using hl))) h
end
section
variable {P:Program} {l:List Oper} {fr:cu} {fin:kF} {sk:mF} {acc:cu} {L:AL} {k j:Nat} {dd:Option Tmp} {op:Op} {ty:TypeId} {pos:String} {af:Array Edge} {b want:Bool}
theorem Fa (hj:pe acc j= .sc (.bool b)) (hb:(b==want)=false) (hn:DA P l fr fin sk ((k,.sc undef)::acc) L):dl P l fr fin k .f ⟨dd,op,ty,pos,af,some (j,want)⟩ sk acc L:=by
 intro ho
 obtain ⟨pl,hpl⟩:=hn
 refine ⟨.eff k (fun c L'=>c= .sc undef∧L'=L) fun _ _=>pl,.f,sk,_,.inr (.inr ⟨rfl,fun c L' ⟨_,h2⟩ hK=>by rw [h2];exact hK⟩),rfl,ho,.inr ⟨⟨_,hj,fun e=>by injection e with e;subst e;simp at hb⟩,rfl,rfl⟩,fun c L' ⟨h1,h2⟩=>by rw [h1,h2];exact hpl⟩
end
end Go.Proofs.YtjjpkibjffmceaaGreat
namespace Go.Proofs.YtjjpkibjffmceaaGreat
open Go.RowKit
section
variable {P:Program} {fr:cu} {B:Bs} {L:AL} {d:Option Tmp} {ty t t':TypeId} {pos:String} {af:Array Edge} {g:Option (Nat×Bool)} {x y z q:Operand} {u:AV}
theorem CZ.cells {e:TypeId} {i:TypeInfo} {zz:Value} {zs:List Value} (hz:CZ P e zs) (hi:P.info? e=some i) (hzz:i.zero=some zz) (w:World):zz.cells=zs.toArray:=by
 obtain ⟨v,hv,hr⟩:=hz.run
 have:=hr w
 simp [zeroValue,typeInfo,hi,hzz] at this
 rw [this,hv]
theorem xD {σ:ce} (l:List Value):dx σ (l.map .sc) l:=by
 refine ⟨by simp,fun i c u hc hu=>?_⟩
 rw [List.getElem?_map,hu] at hc
 cases hc
 exact .sc _
theorem lV {zs:Array Value} {n:Nat} {v:Value} (h:v∈(Builtin.zeroCells zs n).toList):v∈zs.toList:=by
 obtain ⟨i,hi,rfl⟩:=List.getElem_of_mem h
 simp only [Builtin.zeroCells] at hi ⊢
 by_cases h0:zs.size=0
 ·simp [h0] at hi
 ·have:i % zs.size < zs.size:=Nat.mod_lt _ (by omega)
  simp [this]
theorem vv (i:Nat) {e sz by_ b n cap:Nat} {cs es:List AV} {zs:List Value} (hc:oC P t e sz by_) (hs0:0 < sz) (hz:CZ P e zs) (hz1:zs.all (·.oneCell')=true) (hx:bO fr x=some (.sc (.slice (some ⟨b,0,none⟩) n cap))) (hy:bO fr y=some u) (hu:u.im= .imm sz [es]) (hL:L[i]?=some (b,.box cs e)) (hcl:cs.length=cap * sz) (hn:n≤cap) (hcm:cap≤maxLen) (h63:n+1≤maxLen) (hby:(n+1) * by_≤140737488355328):
  AO P ⟨d,.call ⟨.builtin .append,#[x,y],#[t,t]⟩,ty,pos,af,g⟩ fr B L (fun r L'=>∃b' cs' cap',r= .sc (.slice (some ⟨b',0,none⟩) (n+1) cap')∧cs'.length=cap' * sz∧cs'.take ((n+1) * sz)=cs.take (n * sz)++es∧n+1≤cap'∧cap'≤maxLen∧L'=(b',.box cs' e)::L.eraseIdx i):=by
 intro σ ρ w hρ hw0
 have hw:=hw0.perm (fP hL)
 have hxv:=(hρ x _ hx).sc_inv
 have hyv:=(hρ y u hy).im
 rw [hu] at hyv
 obtain ⟨A2,c2,hA2,_⟩:=hyv.imm_inv
 rw [hA2] at hyv
 obtain ⟨_,_,_,hs2,ys,hyl,hyr,hy1,hyc⟩:=hyv.row
 obtain ⟨b2,off2,rfl,hycc⟩:=hyc (by simp)
 haveI:=hc
 obtain ⟨inf,zz,hi,hsz,rfl,hzz,hzs⟩:=hc.info
 have hzc:=hz.cells hi hzz w
 obtain ⟨o,ho,vs,rfl,hvs,h1⟩:=hw.here _ (List.mem_cons_self ..)
 have hl:=hvs.1
 have hel:es.length=sz:=hs2 es (by simp)
 have hyl0:ys.length=sz:=by simpa [hel] using hyl
 have hyl':ys.length=1 * inf.size:=by rw [hsz];omega
 have hyr':dx σ es ys:=by simpa using hyr
 have hnews:∀j v,ys[j]?=some v→w.cell? ((⟨b2,off2,none⟩:Addr).add j)=some v:=fun j v hj=>by rw [gz];exact hw.froz _ _ _ (hycc j v hj)
 have hA2':ρ y= .slice (some ⟨b2,off2,none⟩) 1 c2:=hA2
 have hmul:(n+1) * sz=n * sz+sz:=by rw [Nat.add_mul,Nat.one_mul]
 have hnc:n * sz≤cap * sz:=Nat.mul_le_mul_right _ hn
 unfold maxLen at hcm h63
 unfold iN
 by_cases hroom:n+1≤cap
 ·have hnc1:(n+1) * sz≤cap * sz:=Nat.mul_le_mul_right _ hroom
  have hr:=run_append_room (P:=P) w t ty e inf hc.under hi b n cap vs.toArray ho ⟨b2,off2,none⟩ 1 c2 ys hyl' hnews hy1 hroom (by rw [hsz];simp;omega)
  rw [show (execOp ρ ⟨d,.call ⟨.builtin .append,#[x,y],#[t,t]⟩,ty,pos,af,g⟩).run P w= .ok (.value (.slice (some ⟨b,0,none⟩) (n+1) cap)) (w.setRow b (vs.toArray.toList.take (n * inf.size)++ys++vs.toArray.toList.drop (n * inf.size+ys.length)).toArray) by
   simp [execOp,resolve,hxv,hA2',invoke,builtin,hr]]
  rw [hsz,hyl0]
  have hcl':(cs.take (n * sz)++es++cs.drop (n * sz+sz)).length=cap * sz:=by simp;omega
  refine ⟨σ,.sc _,_,ce.le_refl _,.sc _,hw.put (a':= .box (cs.take (n * sz)++es++cs.drop (n * sz+sz)) e) (fun _=>trivial) ⟨rfl,rfl,rfl,by simp,fun k _ hk=>setRow_other w b k _ (fun e=>hk (by simp [e]))⟩ (setRow_heap w b _ _ e _ ho) ⟨_,rfl,i4 (i4 (qY hvs _) hyr') (vi hvs _),fun u hu=>?_⟩,b,_,cap,rfl,hcl',?_,hroom,by unfold maxLen;omega,rfl⟩
  ·rcases Il hu with hu | hu
   ·rcases Il hu with hu | hu
    ·exact h1 _ (List.mem_of_mem_take hu)
    ·exact hy1 _ hu
   ·exact h1 _ (List.mem_of_mem_drop hu)
  ·rw [List.take_append_of_le_length (by simp;omega),List.take_of_length_le (by simp;omega)]
 ·have hncap:n=cap:=by omega
  subst hncap
  have holds:∀j v,vs[j]?=some v→w.cell? ((⟨b,0,none⟩:Addr).add j)=some v:=fun j v hj=>by
   rw [gz,Nat.zero_add,ep ho]
   simpa using hj
  have hr:=run_append_grow (P:=P) w t ty e inf zz hc.under hi hzz ⟨b,0,none⟩ n n vs (by rw [hsz];omega) holds ⟨b2,off2,none⟩ 1 c2 ys hyl' hnews (by omega) (by omega) (growslice_fits (by omega) hby)
  rw [show (execOp ρ ⟨d,.call ⟨.builtin .append,#[x,y],#[t,t]⟩,ty,pos,af,g⟩).run P w= .ok (.value (.slice (some ⟨w.heap.size,0,none⟩) (n+1) (grownCap w (n+1) n e))) (w.drew.alloc (.cells (vs.toArray++ys.toArray++Builtin.zeroCells zz.cells (grownCap w (n+1) n e - (n+1))) e)) by
   simp [execOp,resolve,hxv,hA2',invoke,builtin,hr]]
  have hge:=grownCap_ge w (n+1) n e
  have hgm:=grownCap_le_maxLen w (n+1) n e (by unfold maxLen;omega)
  have hzl:∀k,(Builtin.zeroCells zz.cells k).toList.length=k * sz:=fun k=>by rw [Array.length_toList,size_zeroCells,hzs]
  have hzm:∀k,∀v∈(Builtin.zeroCells zz.cells k).toList,v.oneCell'=true:=fun k v hv=>by
   have:=lV hv
   rw [hzc] at this
   exact List.all_eq_true.1 hz1 v (by simpa using this)
  generalize grownCap w (n+1) n e=cap' at *
  have hmc:cap' * sz=(n+1) * sz+(cap' - (n+1)) * sz:=by rw [←Nat.add_mul];congr 1;omega
  have hzl':=hzl (cap' - (n+1))
  have hzm':=hzm (cap' - (n+1))
  generalize Builtin.zeroCells zz.cells (cap' - (n+1))=zc at *
  have hlen:(cs++es++zc.toList.map AV.sc).length=cap' * sz:=by simp only [List.length_append,It,hzl'];omega
  refine ⟨σ,.sc _,_,ce.le_refl _,.sc _,((hw.sublist (List.sublist_cons_self ..)).drew _).alloc _ (.box (cs++es++zc.toList.map AV.sc) e) ⟨vs++ys++zc.toList,by simp,i4 (i4 hvs hyr') (xD _),fun u hu=>?_⟩,w.heap.size,_,cap',rfl,hlen,?_,hge,hgm,rfl⟩
  ·rcases Il hu with hu | hu
   ·rcases Il hu with hu | hu
    ·exact h1 _ hu
    ·exact hy1 _ hu
   ·exact hzm' u hu
  ·rw [List.take_append_of_le_length (by simp;omega),List.take_of_length_le (by simp;omega),List.take_of_length_le (by omega)]
theorem tJ {e sz by_:Nat} {es:List AV} {zs:List Value} (hc:oC P t e sz by_) (hs0:0 < sz) (hz:CZ P e zs) (hz1:zs.all (·.oneCell')=true) (hx:bO fr x=some (.sc (.slice none 0 0))) (hy:bO fr y=some u) (hu:u.im= .imm sz [es]) (hby:by_≤140737488355328):
  AO P ⟨d,.call ⟨.builtin .append,#[x,y],#[t,t]⟩,ty,pos,af,g⟩ fr B L (fun r L'=>∃b' cs' cap',r= .sc (.slice (some ⟨b',0,none⟩) 1 cap')∧cs'.length=cap' * sz∧cs'.take (1 * sz)=es∧1≤cap'∧cap'≤maxLen∧L'=(b',.box cs' e)::L):=by
 intro σ ρ w hρ hw
 have hxv:=(hρ x _ hx).sc_inv
 have hyv:=(hρ y u hy).im
 rw [hu] at hyv
 obtain ⟨A2,c2,hA2,_⟩:=hyv.imm_inv
 rw [hA2] at hyv
 obtain ⟨_,_,_,hs2,ys,hyl,hyr,hy1,hyc⟩:=hyv.row
 obtain ⟨b2,off2,rfl,hycc⟩:=hyc (by simp)
 haveI:=hc
 obtain ⟨inf,zz,hi,hsz,rfl,hzz,hzs⟩:=hc.info
 have hzc:=hz.cells hi hzz w
 have hel:es.length=sz:=hs2 es (by simp)
 have hyl0:ys.length=sz:=by simpa [hel] using hyl
 have hyl':ys.length=1 * inf.size:=by rw [hsz];omega
 have hyr':dx σ es ys:=by simpa using hyr
 have hnews:∀j v,ys[j]?=some v→w.cell? ((⟨b2,off2,none⟩:Addr).add j)=some v:=fun j v hj=>by rw [gz];exact hw.froz _ _ _ (hycc j v hj)
 have hA2':ρ y= .slice (some ⟨b2,off2,none⟩) 1 c2:=hA2
 have hr:=run_append_nil (P:=P) w t ty e inf zz hc.under hi hzz ⟨b2,off2,none⟩ 1 c2 ys hyl' hnews (by omega) (by omega) (by omega)
 unfold iN
 rw [show (execOp ρ ⟨d,.call ⟨.builtin .append,#[x,y],#[t,t]⟩,ty,pos,af,g⟩).run P w= .ok (.value (.slice (some ⟨w.heap.size,0,none⟩) 1 (grownCap w 1 0 e))) (w.drew.alloc (.cells (ys.toArray++Builtin.zeroCells zz.cells (grownCap w 1 0 e - 1)) e)) by
  simp [execOp,resolve,hxv,hA2',invoke,builtin,hr]]
 have hge:=grownCap_ge w 1 0 e
 have hgm:=grownCap_le_maxLen w 1 0 e (by unfold maxLen;omega)
 have hzl:∀k,(Builtin.zeroCells zz.cells k).toList.length=k * sz:=fun k=>by rw [Array.length_toList,size_zeroCells,hzs]
 have hzm:∀k,∀v∈(Builtin.zeroCells zz.cells k).toList,v.oneCell'=true:=fun k v hv=>by
  have:=lV hv
  rw [hzc] at this
  exact List.all_eq_true.1 hz1 v (by simpa using this)
 generalize grownCap w 1 0 e=cap' at *
 have hmc:cap' * sz=sz+(cap' - 1) * sz:=by
  have:cap'=1+(cap' - 1):=by omega
  rw [this,Nat.add_mul]
  simp
 have hzl':=hzl (cap' - 1)
 have hzm':=hzm (cap' - 1)
 generalize Builtin.zeroCells zz.cells (cap' - 1)=zc at *
 have hlen:(es++zc.toList.map AV.sc).length=cap' * sz:=by simp only [List.length_append,It,hzl'];omega
 refine ⟨σ,.sc _,_,ce.le_refl _,.sc _,(hw.drew _).alloc _ (.box (es++zc.toList.map AV.sc) e) ⟨ys++zc.toList,by simp,i4 hyr' (xD _),fun u hu=>?_⟩,w.heap.size,_,cap',rfl,hlen,?_,hge,hgm,rfl⟩
 ·rcases Il hu with hu | hu
  ·exact hy1 _ hu
  ·exact hzm' u hu
 ·rw [List.take_append_of_le_length (by simp;omega),List.take_of_length_le (by simp;omega)]
end
section
variable {B:Bs} {fr:cu} {nt:Nat} {D:List Deferred}
theorem cC {σ:ce} {cs:List AV} {vs:List Value} {k:Nat} {c c':AV} (h:dx σ cs vs) (hk:cs[k]?=some c) (hc:∀v,VR σ c v→VR σ c' v):dx σ (cs.set k c') vs:=by
 refine ⟨by rw [List.length_set];exact h.1,fun i x u hx hu=>?_⟩
 by_cases e:k=i
 ·subst e
  rw [List.getElem?_set_self (Io hk).1] at hx
  cases hx
  exact hc _ (h.2 k c u hk hu)
 ·rw [List.getElem?_set_ne e] at hx
  exact h.2 i x u hx hu
theorem zF {b p e e' sz n cap k:Nat} {cs ds:List AV} {R:AL} {l:List (List AV)} (hk:ds[k]?=some (.sc (.slice (some ⟨b,0,none⟩) n cap))) (hc:cs.take (n * sz)=l.flatten) (hcl:cs.length=cap * sz) (hs:∀q∈l,q.length=sz) (hn:l.length=n) (hnc:n≤cap) (hm:cap≤maxLen):mK nt D B fr ((b,.box cs e)::(p,.box ds e')::R) fr ((p,.box (ds.set k (.imm sz l)) e')::R):=by
 intro σ a w ha hw
 obtain ⟨o,ho,vs,rfl,hvs,h1⟩:=hw.here _ (List.mem_cons_self ..)
 have hfree:=hw.free _ (List.mem_cons_self ..)
 have hvl:vs.length=cap * sz:=by rw [←hvs.1,hcl]
 have hst:dC B σ ((b,.vec e sz 0 cap)::(p,.box ds e')::R) w:=by
  refine ⟨hw.os,hw.tape,hw.output,hw.size,hw.old,fun p' hp=>?_,fun p' hp=>?_,by simpa using hw.apart,hw.froz,fun p' hp off hm=>?_,hw.grow,hw.same,hw.cold⟩
  ·rcases List.mem_cons.1 hp with rfl | hp'
   ·exact ⟨_,ho,_,rfl,by simp [hvl],Nat.zero_le _,hm⟩
   ·exact hw.here p' (Is _ hp')
  ·rcases List.mem_cons.1 hp with rfl | hp'
   ·exact hw.mine (b,.box cs e) (List.mem_cons_self ..)
   ·exact hw.mine p' (Is _ hp')
  ·rcases List.mem_cons.1 hp with rfl | hp'
   ·exact hfree off trivial
   ·exact hw.free p' (Is _ hp') off hm
 have hle':n * sz≤cap * sz:=Nat.mul_le_mul_right _ hnc
 obtain ⟨hst',hle⟩:=hst.freezeHead (n':=n) (xs:=vs.take (n * sz)) (fun j u hj=>by
  rw [List.getElem?_take] at hj
  split at hj
  ·rw [ep ho];simpa using hj
  ·cases hj) (by rw [List.length_take];omega) (Nat.zero_le _) hnc
 have hv:VR (σ.add b (vs.take (n * sz))) (.vec (some (b,cap)) sz l) (.slice (some ⟨b,0,none⟩) n cap):=by
  have:=oB (σ:=σ.add b (vs.take (n * sz))) (b:=b) (cap:=cap) hs (by rw [←hc];exact (qY hvs _).mono hle) (fun u hu=>h1 u (List.mem_of_mem_take hu)) (by omega) hm (fun j u hj=>ce.add_at hj)
  rwa [hn] at this
 have hw2:=hst'.sublist (List.sublist_cons_self ..)
 refine ⟨_,ha.mono hle,?_⟩
 obtain ⟨o2,ho2,ws,rfl,hws,hw1⟩:=hw2.here _ (List.mem_cons_self ..)
 refine ⟨hw2.os,hw2.tape,hw2.output,hw2.size,hw2.old,fun p' hp=>?_,fun p' hp=>?_,by simpa using hw2.apart,hw2.froz,fun p' hp off hm=>?_,hw2.grow,hw2.same,hw2.cold⟩
 ·rcases List.mem_cons.1 hp with rfl | hp'
  ·exact ⟨_,ho2,ws,rfl,cC hws hk fun v hvv=>by rw [hvv.sc_inv];exact hv.im,hw1⟩
  ·exact hw2.here p' (Is _ hp')
 ·rcases List.mem_cons.1 hp with rfl | hp'
  ·exact hw2.mine (p,.box ds e') (List.mem_cons_self ..)
  ·exact hw2.mine p' (Is _ hp')
 ·rcases List.mem_cons.1 hp with rfl | hp'
  ·exact hw2.free (p,.box ds e') (List.mem_cons_self ..) off trivial
  ·exact hw2.free p' (Is _ hp') off hm
end
section
variable {P:Program} {tt:TT} {l:List Oper} {fr:cu} {fin:kF} {sk:mF} {acc:cu} {L:AL} {k:Nat} {dd:Option Tmp} {ty t t':TypeId} {pos:String} {af:Array Edge} {g:Option (Nat×Bool)} {x y:Operand} {u:AV}
theorem ya (ok:fp P tt) (i:Nat) {e sz by_ b n cap:Nat} {cs es:List AV} {zs:List Value} (ht:nH tt t=some (e,sz,by_)) (hz:zI tt e=some zs) (hz1:zs.all (·.oneCell')=true) (hx:bO (dc l.toArray acc fr af.toList) x=some (.sc (.slice (some ⟨b,0,none⟩) n cap))) (hy:bO (dc l.toArray acc fr af.toList) y=some u) (hu:j9 u=some (sz,[es])) (hL:L[i]?=some (b,.box cs e)) (hcl:cs.length=cap * sz) (hn:n≤cap) (hcm:cap≤maxLen) (h63:n+1≤maxLen) (hby:(n+1) * by_≤140737488355328) (hg:jt ⟨dd,.call ⟨.builtin .append,#[x,y],#[t,t]⟩,ty,pos,af,g⟩ acc)
  (h:∀b' cs' cap',cs'.length=cap' * sz→cs'.take ((n+1) * sz)=cs.take (n * sz)++es→n+1≤cap'→cap'≤maxLen→DA P l fr fin sk ((k,.sc (.slice (some ⟨b',0,none⟩) (n+1) cap'))::acc) ((b',.box cs' e)::L.eraseIdx i)):
  dl P l fr fin k .e ⟨dd,.call ⟨.builtin .append,#[x,y],#[t,t]⟩,ty,pos,af,g⟩ sk acc L:=
 iQ hg (fun _=>vv i (cf ok ht).1 (cf ok ht).2 (f5 ok hz) hz1 hx hy (dm hu) hL hcl hn hcm h63 hby) fun c L' ⟨b',cs',cap',h1,h2,h3,h4,h5,h6⟩=>by subst h1;subst h6;exact h b' cs' cap' h2 h3 h4 h5
theorem vN (ok:fp P tt) {e sz by_:Nat} {es:List AV} {zs:List Value} (ht:nH tt t=some (e,sz,by_)) (hz:zI tt e=some zs) (hz1:zs.all (·.oneCell')=true) (hx:bO (dc l.toArray acc fr af.toList) x=some (.sc (.slice none 0 0))) (hy:bO (dc l.toArray acc fr af.toList) y=some u) (hu:j9 u=some (sz,[es])) (hby:Nat.ble by_ 140737488355328=true) (hg:jt ⟨dd,.call ⟨.builtin .append,#[x,y],#[t,t]⟩,ty,pos,af,g⟩ acc)
  (h:∀b' cs' cap',cs'.length=cap' * sz→cs'.take (1 * sz)=es→1≤cap'→cap'≤maxLen→DA P l fr fin sk ((k,.sc (.slice (some ⟨b',0,none⟩) 1 cap'))::acc) ((b',.box cs' e)::L)):
  dl P l fr fin k .e ⟨dd,.call ⟨.builtin .append,#[x,y],#[t,t]⟩,ty,pos,af,g⟩ sk acc L:=
 iQ hg (fun _=>tJ (cf ok ht).1 (cf ok ht).2 (f5 ok hz) hz1 hx hy (dm hu) (Nat.ble_eq .. ▸hby)) fun c L' ⟨b',cs',cap',h1,h2,h3,h4,h5,h6⟩=>by subst h1;subst h6;exact h b' cs' cap' h2 h3 h4 h5
theorem y8 (ok:fp P tt) (L0:AL) {e sz by_:Nat} {q:Option (Nat×Nat)} {l1 l2:List (List AV)} (ht:nH tt t=some (e,sz,by_)) (hx:bO (dc l.toArray acc fr af.toList) x=some (.vec q sz l1)) (hy:bO (dc l.toArray acc fr af.toList) y=some u) (hu:j9 u=some (sz,l2)) (hL:L.Perm (tok q e sz l1.length++L0)) (h63:l1.length+l2.length≤9223372036854775807) (hby:(l1.length+l2.length) * by_≤140737488355328) (hK:eU fin.gs L0) (hg:jt ⟨dd,.call ⟨.builtin .append,#[x,y],#[t,t]⟩,ty,pos,af,g⟩ acc)
  (h:∀q',DA P l fr fin sk ((k,.vec q' sz (l1++l2))::acc) (tok q' e sz (l1++l2).length++L0)):
  dl P l fr fin k .f ⟨dd,.call ⟨.builtin .append,#[x,y],#[t,t]⟩,ty,pos,af,g⟩ sk acc L:=
 sH (fun c L' ⟨k',_,h2⟩ _=>by subst h2;exact uu hK _) hg (fun _=>nP L0 (cf ok ht).1 (cf ok ht).2 hx hy (dm hu) hL h63 hby) fun c L' ⟨k',h1,h2⟩=>by subst h1;subst h2;exact h k'
end
end Go.Proofs.YtjjpkibjffmceaaGreat
namespace Go.Proofs.YtjjpkibjffmceaaGreat
open Go.RowKit
end Go.Proofs.YtjjpkibjffmceaaGreat
namespace Go.Proofs.YtjjpkibjffmceaaGreat
open Go.RowKit
def i5 (P:Program) (u:AV) (args:List AV) (L:AL) (Post:AV→AL→Prop):Prop:=(∃f caps,bN P f∧jN u=some (f,caps)∧AC P f (args++caps) L Post)∨∃f fs caps,bN P f∧u= .fnB f fs caps∧AC P f (fs++(args++caps)) L Post
theorem i5.fn {P:Program} {f:FuncId} {caps args:List AV} {L:AL} {Post:AV→AL→Prop} [h:bN P f] (k:AC P f (args++caps) L Post):i5 P (.fn f caps) args L Post:= .inl ⟨f,caps,h,rfl,k⟩
theorem i5.fn0 {P:Program} {f:FuncId} {args:List AV} {L:AL} {Post:AV→AL→Prop} [h:bN P f] (k:AC P f (args++[]) L Post):i5 P (.sc (.func (.func f) #[] #[])) args L Post:= .inl ⟨f,[],h,rfl,k⟩
theorem i5.fnB {P:Program} {f:FuncId} {fs caps args:List AV} {L:AL} {Post:AV→AL→Prop} [h:bN P f] (k:AC P f (fs++(args++caps)) L Post):i5 P (.fnB f fs caps) args L Post:= .inr ⟨f,fs,caps,h,rfl,k⟩
def gM (u:AV):Bool:=match u with
 | .fn _ _=>true
 | .fnB _ _ _=>true
 | .sc _=>true
 | _=>false
section
variable {P:Program} {r:Option Nat} {ops:Array Oper} {Q:Exit→Act→World→Prop} {nt:Nat} {D:List Deferred} {fr:cu} {B:Bs} {L:AL} {rest:List Oper} {d:Nat} {ty t:TypeId} {pos:String} {af:Array Edge} {x y z:Operand} {u:AV} {g:Option (Nat×Bool)}
theorem tK (Lc Lf:AL) {d:Option Tmp} {f:FuncId} {args:Array Operand} {ts:Array TypeId} {cs fs caps:List AV} {Post:AV→AL→Prop} [hf:bN P f] (hx:bO fr x=some (.fnB f fs caps)) (hv:eB fr args.toList=some cs) (hL:L.Perm (Lc++Lf)) (h:AC P f (fs++(cs++caps)) Lc Post):
  AO P ⟨d,.call ⟨.value x,args,ts⟩,ty,pos,af,g⟩ fr B L (fun c L'=>∃L1,Post c L1∧L'=L1++Lf):=by
 intro σ ρ w hρ hw0
 have hw:=hw0.perm hL
 obtain ⟨qs,ws,hw1,hw0',hw2⟩:=(hρ x _ hx).fnB_inv
 have hvs:=f8 hρ _ _ hv
 have e:args.map ρ=(args.toList.map ρ).toArray:=by apply Array.toList_inj.1;simp
 unfold iN
 rw [show (execOp ρ ⟨d,.call ⟨.value x,args,ts⟩,ty,pos,af,g⟩).run P w= .ok (.enter f (qs++(args.toList.map ρ++ws)).toArray) w by
  simp [execOp,resolve,hw1,Deferred.ofValue,invoke,hf.enters]]
 have happ:∀{ps bs:List AV} {us vs:List Value},dx σ ps us→dx σ bs vs→dx σ (ps++bs) (us++vs):=by
  intro ps bs us vs ha hb
  refine ⟨by rw [List.length_append,List.length_append,ha.1,hb.1],fun i c u hc hu=>?_⟩
  have hq:=ha.1
  by_cases hi:i < ps.length
  ·rw [List.getElem?_append_left hi] at hc
   rw [List.getElem?_append_left (by omega)] at hu
   exact ha.2 i c u hc hu
  ·rw [List.getElem?_append_right (by omega)] at hc
   rw [List.getElem?_append_right (by omega),←hq] at hu
   exact hb.2 _ c u hc hu
 have hall:=happ hw0' (happ hvs hw2)
 refine (h σ w _ hall hw.enter).mono fun en w' ⟨v,τ,c,L',h1,h2,h3,h4⟩=>⟨v,h1,τ,c,L'++Lf,h3.grow,h2,hw.leave h3,L',h4,rfl⟩
theorem eK {args:Array Operand} {ts:Array TypeId} {cs:List AV} {Post:AV→AL→Prop} (Lc Lf:AL) (hc:i5 P u cs Lc Post) (hx:bO fr x=some u) (hv:eB fr args.toList=some cs) (hL:L.Perm (Lc++Lf)) (hn:Oper.noDefer ⟨some d,.call ⟨.value x,args,ts⟩,ty,pos,af,none⟩=true) (hd:Nat.ble nt d=false) (h:∀c L1,Post c L1→bW P r ops Q nt D rest ((d,c)::fr) B (L1++Lf)):
  bW P r ops Q nt D (⟨some d,.call ⟨.value x,args,ts⟩,ty,pos,af,none⟩::rest) fr B L:=by
 rcases hc with ⟨f,caps,hf,hu,hc⟩ | ⟨f,fs,caps,hf,rfl,hc⟩
 ·exact dk hd hn (pI Lc Lf hx hu hv hL hc) fun c L' ⟨L1,h1,h2⟩=>by subst h2;exact h c L1 h1
 ·exact dk hd hn (tK Lc Lf hx hv hL hc) fun c L' ⟨L1,h1,h2⟩=>by subst h2;exact h c L1 h1
end
section
variable {P:Program} {l:List Oper} {fr:cu} {fin:kF} {sk:mF} {acc:cu} {L:AL} {k:Nat} {dd:Option Tmp} {ty:TypeId} {pos:String} {af:Array Edge} {g:Option (Nat×Bool)} {x:Operand} {u:AV}
theorem ly {args:Array Operand} {ts:Array TypeId} {cs:List AV} {Post:AV→AL→Prop} (Lc Lf:AL) (hc:i5 P u cs Lc Post) (hx:bO (dc l.toArray acc fr af.toList) x=some u) (hv:eB (dc l.toArray acc fr af.toList) args.toList=some cs) (hL:L.Perm (Lc++Lf)) (hg:jt ⟨dd,.call ⟨.value x,args,ts⟩,ty,pos,af,g⟩ acc) (h:∀c L1,Post c L1→DA P l fr fin sk ((k,c)::acc) (L1++Lf)):
  dl P l fr fin k .e ⟨dd,.call ⟨.value x,args,ts⟩,ty,pos,af,g⟩ sk acc L:=by
 rcases hc with ⟨f,caps,hf,hu,hc⟩ | ⟨f,fs,caps,hf,rfl,hc⟩
 ·exact iQ hg (fun B=>pI Lc Lf hx hu hv hL hc) fun c L' ⟨L1,h1,h2⟩=>by subst h2;exact h c L1 h1
 ·exact iQ hg (fun B=>tK Lc Lf hx hv hL hc) fun c L' ⟨L1,h1,h2⟩=>by subst h2;exact h c L1 h1
end
end Go.Proofs.YtjjpkibjffmceaaGreat
namespace Go.Proofs.YtjjpkibjffmceaaGreat
open Go.RowKit
section
variable {P:Program} {tt:TT} {r:Option Nat} {ops:Array Oper} {Q:Exit→Act→World→Prop} {nt:Nat} {D:List Deferred} {fr:cu} {B:Bs} {L:AL} {rest:List Oper} {d:Nat} {ty t t':TypeId} {pos:String} {af:Array Edge} {x y z:Operand} {u:AV} {g:Option (Nat×Bool)}
theorem Ad {dd:Option Tmp} {e sz by_ s:Nat} {l:List (List AV)} (hc:oC P t e sz by_) (hx:bO fr x=some u) (hu:u.im= .imm s l) (hy:bO fr y=some (.sc (.slice none 0 0))):
  AO P ⟨dd,.binOp .eql t x y t',ty,pos,af,g⟩ fr B L (fun c L'=>∃b,c= .sc (.bool b)∧(b=true→l=[])∧L'=L):=by
 intro σ ρ w hρ hw
 have hxv:=(hρ x u hx).im
 rw [hu] at hxv
 have hyv:=(hρ y _ hy).sc_inv
 have key:∀v,VR σ (.imm s l) v→∃A cap,v= .slice A l.length cap∧(l≠[]→∃b off,A=some ⟨b,off,none⟩):=by
  intro v hv
  cases hv with
  | imm sz l A cap h1 h2 h3 ha hx2 h4=>exact ⟨A,cap,rfl,ha⟩
 obtain ⟨A,cap,hval,ha⟩:=key _ hxv
 ·have hrun:=Lib.run_eql_slice_nil (P:=P) w t e A l.length cap 0 0 hc.under
  unfold iN
  rw [show (execOp ρ ⟨dd,.binOp .eql t x y t',ty,pos,af,g⟩).run P w= .ok (.value (.bool A.isNone)) w by
   simp [execOp,hval,hyv,eqGuard,hrun]]
  refine ⟨σ,.sc _,L,ce.le_refl σ,.sc _,hw,A.isNone,rfl,fun h=>?_,rfl⟩
  cases A with
  | none=>exact Decidable.byContradiction fun hn=>by obtain ⟨b,o,hh⟩:=ha hn;cases hh
  | some a=>cases h
theorem hQ (ok:fp P tt) {e sz by_ s:Nat} {l:List (List AV)} (ht:nH tt t=some (e,sz,by_)) (hx:bO fr x=some u) (hu:j9 u=some (s,l)) (hy:bO fr y=some (.sc (.slice none 0 0))) (hd:Nat.ble nt d=false) (h:∀b,(b=true→l=[])→bW P r ops Q nt D rest ((d,.sc (.bool b))::fr) B L):
  bW P r ops Q nt D (⟨some d,.binOp .eql t x y t',ty,pos,af,none⟩::rest) fr B L:=
 dk hd rfl (Ad (cf ok ht).1 hx (dm hu) hy) fun c L' ⟨b,h1,h2,h3⟩=>by subst h1;subst h3;exact h b h2
end
section
variable {P:Program} {nt:Nat} {fr:cu} {B:Bs} {L L':AL}
theorem dv (L':AL) {fn:Func} {Post:AV→AL→Prop} {cs:List AV} (hr:qE P fr L fn.results.toList cs) (hs:L'.Sublist L) (h:Post (uI cs) L'):AX P .ret (bodyPost P fn (j8 B Post)) nt [] fr B L:=by
 intro σ a w ha hw
 obtain ⟨v,h1,h2⟩:=li ha hw hr
 exact ⟨ha.defers,v,h1,v,σ,uI cs,L',rfl,h2,hw.sublist hs,h⟩
end
end Go.Proofs.YtjjpkibjffmceaaGreat
