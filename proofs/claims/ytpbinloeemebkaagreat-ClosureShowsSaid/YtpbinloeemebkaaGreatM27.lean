/-
  Rows that are written: any row appended, cut, made empty behind; rows that begin empty.
-/
import Derived.Test.YtpbinloeemebkaaGreatM26
import Derived.Test.YtpbinloeemebkaaGreatM10
import Derived.Test.YtpbinloeemebkaaGreatM05
import Derived.Laws.Shifts
import Derived.Laws.Pointers
import Derived.Test.YtpbinloeemebkaaGreatM07
import Derived.Scope
import Derived.Laws.CopyRow
namespace Go.Proofs.YtpbinloeemebkaaGreat
open Go.RowKit
def qN (fr:c6) (B:Bs) (L:AL) (y:Operand) (sz m:Nat) (es:List AV):Prop:=∀σ (ρ:Operand→Value) w,(∀x c,bt fr x=some c→VR σ c (ρ x))→cZ B σ L w→
 ∃A c ys,ρ y= .slice A m c∧dv σ es ys∧(∀u∈ys,u.oneCell'=true)∧ys.length=m * sz∧(0 < m→∃b off,A=some ⟨b,off,none⟩∧∀j v,ys[j]?=some v→w.cell? ((⟨b,off,none⟩:Addr).add j)=some v)
section
variable {P:Program} {fr:c6} {B:Bs} {L:AL} {d:Option Tmp} {ty t t':TypeId} {pos:String} {af:Array Edge} {g:Option (Nat×Bool)} {x y z q:Operand} {u:AV}
theorem BS {sz:Nat} {l:List (List AV)} (hy:bt fr y=some u) (hu:hQ u=some (sz,l)):qN fr B L y sz l.length l.flatten:=by
 intro σ ρ w hρ hw
 have hyv:=(hρ y u hy).im
 rw [cM hu] at hyv
 obtain ⟨A2,c2,hA2,_⟩:=hyv.imm_inv
 rw [hA2] at hyv
 obtain ⟨_,_,_,hs2,ys,hyl,hyr,hy1,hyc⟩:=hyv.row
 refine ⟨A2,c2,ys,hA2,by simpa using hyr,hy1,?_,fun h0=>?_⟩
 ·rw [hyl]
 ·obtain ⟨b2,off2,e,hycc⟩:=hyc h0
  exact ⟨b2,off2,e,fun j v hj=>by rw [dN];exact hw.froz _ _ _ (hycc j v hj)⟩
theorem qA (i:Nat) {b off n c sz:Nat} {cs:List AV} {e:TypeId} (hy:bt fr y=some (.sc (.slice (some ⟨b,off,none⟩) n c))) (hL:L[i]?=some (b,.box cs e)) (hb:off+n * sz≤cs.length):qN fr B L y sz n ((cs.drop off).take (n * sz)):=by
 intro σ ρ w hρ hw
 have hyv:=(hρ y _ hy).sc_inv
 obtain ⟨o,ho,vs,rfl,hvs,h1⟩:=hw.here _ (Hw hL)
 have hl:=hvs.1
 refine ⟨_,c,(vs.drop off).take (n * sz),hyv,fE (ld hvs _) _,fun u hu=>h1 _ (List.mem_of_mem_drop (List.mem_of_mem_take hu)),by rw [List.length_take,List.length_drop];omega,fun h0=>⟨b,off,rfl,fun j v hj=>?_⟩⟩
 rw [dN,cY ho]
 have hjl:=(Hp hj).1
 rw [List.length_take] at hjl
 rw [List.getElem?_take_of_lt (by omega),List.getElem?_drop] at hj
 simpa using hj
theorem v6 (i:Nat) {e sz by_ b n cap m:Nat} {cs es:List AV} {zs:List Value} (hc:kw P t e sz by_) (hs0:0 < sz) (hz:CZ P e zs) (hz1:zs.all (·.oneCell')=true) (hx:bt fr x=some (.sc (.slice (some ⟨b,0,none⟩) n cap))) (hy:qN fr B L y sz m es) (hL:L[i]?=some (b,.box cs e)) (hcl:cap * sz≤cs.length) (hn:n≤cap) (hcm:cap≤maxLen) (h63:n+m≤maxLen) (hby:(n+m) * by_≤140737488355328):
  AO P ⟨d,.call ⟨.builtin .append,#[x,y],#[t,t]⟩,ty,pos,af,g⟩ fr B L (fun r L'=>∃b' cs' cap',r= .sc (.slice (some ⟨b',0,none⟩) (n+m) cap')∧cap' * sz≤cs'.length∧cs'.take ((n+m) * sz)=cs.take (n * sz)++es∧n+m≤cap'∧cap'≤maxLen∧(n+m≤cap→b'=b∧cap'=cap∧cs'=cs.take (n * sz)++es++cs.drop (n * sz+m * sz))∧L'=(b',.box cs' e)::L.eraseIdx i):=by
 intro σ ρ w hρ hw0
 obtain ⟨A2,c2,ys,hA2,hyr,hy1,hyl,hycc⟩:=hy σ ρ w hρ hw0
 have hw:=hw0.perm (fh hL)
 have hxv:=(hρ x _ hx).sc_inv
 haveI:=hc
 obtain ⟨inf,zz,hi,hsz,rfl,hzz,hzs⟩:=hc.info
 have hzc:=hz.cells hi hzz w
 obtain ⟨o,ho,vs,rfl,hvs,h1⟩:=hw.here _ (List.mem_cons_self ..)
 have hl:=hvs.1
 have hel:es.length=m * sz:=by rw [←hyl];exact hyr.1
 have hyl':ys.length=m * inf.size:=by rw [hsz];exact hyl
 have hmul:(n+m) * sz=n * sz+m * sz:=Nat.add_mul ..
 have hnc:n * sz≤cap * sz:=Nat.mul_le_mul_right _ hn
 unfold maxLen at hcm h63
 unfold gU
 by_cases hm0:m=0
 ·subst hm0
  have hes:es=[]:=List.eq_nil_of_length_eq_zero (by rw [hel];omega)
  subst hes
  rw [show (execOp ρ ⟨d,.call ⟨.builtin .append,#[x,y],#[t,t]⟩,ty,pos,af,g⟩).run P w= .ok (.value (.slice (some ⟨b,0,none⟩) n cap)) w by
   simp [execOp,resolve,hxv,hA2,invoke,builtin,kq (t:=t) hn]]
  refine ⟨σ,.sc _,_,ci.le_refl _,.sc _,hw,b,cs,cap,rfl,hcl,?_,hn,by unfold maxLen;omega,fun _=>⟨rfl,rfl,?_⟩,rfl⟩
  ·simp
  ·simp
 obtain ⟨b2,off2,rfl,hnews⟩:=hycc (by omega)
 by_cases hroom:n+m≤cap
 ·have hnc1:(n+m) * sz≤cap * sz:=Nat.mul_le_mul_right _ hroom
  have hr:=run_append_room (P:=P) w t ty e inf hc.under hi b n cap vs.toArray ho ⟨b2,off2,none⟩ m c2 ys hyl' hnews hy1 hroom (by rw [hsz];simp;omega)
  rw [show (execOp ρ ⟨d,.call ⟨.builtin .append,#[x,y],#[t,t]⟩,ty,pos,af,g⟩).run P w= .ok (.value (.slice (some ⟨b,0,none⟩) (n+m) cap)) (w.setRow b (vs.toArray.toList.take (n * inf.size)++ys++vs.toArray.toList.drop (n * inf.size+ys.length)).toArray) by
   simp [execOp,resolve,hxv,hA2,invoke,builtin,hr]]
  rw [hsz,hyl]
  refine ⟨σ,.sc _,_,ci.le_refl _,.sc _,hw.put (a':= .box (cs.take (n * sz)++es++cs.drop (n * sz+m * sz)) e) (fun _=>trivial) ⟨rfl,rfl,rfl,by simp,fun k _ hk=>setRow_other w b k _ (fun e=>hk (by simp [e]))⟩ (setRow_heap w b _ _ e _ ho) ⟨_,rfl,dV (dV (fE hvs _) hyr) (ld hvs _),fun u hu=>?_⟩,b,_,cap,rfl,?_,?_,hroom,by unfold maxLen;omega,fun _=>⟨rfl,rfl,rfl⟩,rfl⟩
  ·rcases Hn hu with hu | hu
   ·rcases Hn hu with hu | hu
    ·exact h1 _ (List.mem_of_mem_take hu)
    ·exact hy1 _ hu
   ·exact h1 _ (List.mem_of_mem_drop hu)
  ·simp only [List.length_append,List.length_take,List.length_drop,hel];omega
  ·rw [List.take_append_of_le_length (by simp;omega),List.take_of_length_le (by simp;omega)]
 ·have holds:∀j v,(vs.take (n * sz))[j]?=some v→w.cell? ((⟨b,0,none⟩:Addr).add j)=some v:=fun j v hj=>by
   rw [dN,Nat.zero_add,cY ho]
   have hjl:=(Hp hj).1
   rw [List.length_take] at hjl
   rw [List.getElem?_take_of_lt (by omega)] at hj
   simpa using hj
  have hr:=run_append_grow (P:=P) w t ty e inf zz hc.under hi hzz ⟨b,0,none⟩ n cap (vs.take (n * sz)) (by rw [hsz,List.length_take];omega) holds ⟨b2,off2,none⟩ m c2 ys hyl' hnews (by omega) (by omega) (growslice_fits (by omega) hby)
  rw [show (execOp ρ ⟨d,.call ⟨.builtin .append,#[x,y],#[t,t]⟩,ty,pos,af,g⟩).run P w= .ok (.value (.slice (some ⟨w.heap.size,0,none⟩) (n+m) (grownCap w (n+m) cap e))) (w.drew.alloc (.cells ((vs.take (n * sz)).toArray++ys.toArray++Builtin.zeroCells zz.cells (grownCap w (n+m) cap e - (n+m))) e)) by
   simp [execOp,resolve,hxv,hA2,invoke,builtin,hr]]
  have hge:=grownCap_ge w (n+m) cap e
  have hgm:=grownCap_le_maxLen w (n+m) cap e (by unfold maxLen;omega)
  have hzl:∀k,(Builtin.zeroCells zz.cells k).toList.length=k * sz:=fun k=>by rw [Array.length_toList,size_zeroCells,hzs]
  have hzm:∀k,∀v∈(Builtin.zeroCells zz.cells k).toList,v.oneCell'=true:=fun k v hv=>by
   have:=fF hv
   rw [hzc] at this
   exact List.all_eq_true.1 hz1 v (by simpa using this)
  generalize grownCap w (n+m) cap e=cap' at *
  have hmc:cap' * sz=(n+m) * sz+(cap' - (n+m)) * sz:=by rw [←Nat.add_mul];congr 1;omega
  have hzl':=hzl (cap' - (n+m))
  have hzm':=hzm (cap' - (n+m))
  generalize Builtin.zeroCells zz.cells (cap' - (n+m))=zc at *
  refine ⟨σ,.sc _,_,ci.le_refl _,.sc _,((hw.sublist (List.sublist_cons_self ..)).drew _).alloc _ (.box (cs.take (n * sz)++es++zc.toList.map AV.sc) e) ⟨vs.take (n * sz)++ys++zc.toList,by simp,dV (dV (fE hvs _) hyr) (nf _),fun u hu=>?_⟩,w.heap.size,_,cap',rfl,?_,?_,hge,hgm,fun hh=>absurd hh hroom,rfl⟩
  ·rcases Hn hu with hu | hu
   ·rcases Hn hu with hu | hu
    ·exact h1 _ (List.mem_of_mem_take hu)
    ·exact hy1 _ hu
   ·exact hzm' u hu
  ·simp only [List.length_append,Hu,hzl',List.length_take,hel];omega
  ·rw [List.take_append_of_le_length (by simp;omega),List.take_of_length_le (by simp;omega)]
theorem wF {dd:Option Tmp} {e sz by_ b off n cap hi:Nat} {k:IntKind} {a:Int} (hc:kw P t e sz by_) (hx:bt fr x=some (.sc (.slice (some ⟨b,off,none⟩) n cap))) (hy:bt fr y=some (.sc (.int k a))) (ha:a=(hi:Int)) (h:hi≤cap):Av P ⟨dd,.slice t x none (some y) none,ty,pos,af,g⟩ fr (.sc (.slice (some ⟨b,off,none⟩) hi cap)):=by
 intro σ ρ w hρ _
 subst ha
 haveI:=hc
 refine ⟨_,?_,.sc _⟩
 by_cases h3:cap=0
 ·have:hi=0:=by omega
  subst h3;subst this
  simp [execOp,(hρ x _ hx).sc_inv,(hρ y _ hy).sc_inv,Instr.sliceAt,Instr.slice,Instr.sliceBounds,Instr.sliceBound,asIntOf,run_underlying hc.under,cV (t:=t)]
 ·simp [execOp,(hρ x _ hx).sc_inv,(hρ y _ hy).sc_inv,Instr.sliceAt,Instr.slice,Instr.sliceBounds,Instr.sliceBound,asIntOf,run_underlying hc.under,cV (t:=t),h,h3,dN]
theorem zP {dd:Option Tmp} {e sz by_ b n cap lo:Nat} {k:IntKind} {a:Int} (hc:kw P t e sz by_) (hx:bt fr x=some (.sc (.slice (some ⟨b,0,none⟩) n cap))) (hy:bt fr y=some (.sc (.int k a))) (ha:a=(lo:Int)) (h:lo≤n) (hn:n≤cap):AO P ⟨dd,.slice t x (some y) none none,ty,pos,af,g⟩ fr B L (fun r L'=>∃off,r= .sc (.slice (some ⟨b,off,none⟩) (n - lo) (cap - lo))∧(off=lo * sz∨off=0∧lo=cap)∧L'=L):=by
 intro σ ρ w hρ hw
 subst ha
 haveI:=hc
 unfold gU
 by_cases h3:cap=lo
 ·have:n=lo:=by omega
  subst h3;subst this
  rw [show (execOp ρ ⟨dd,.slice t x (some y) none none,ty,pos,af,g⟩).run P w= .ok (.value (.slice (some ⟨b,0,none⟩) 0 0)) w by
   simp [execOp,(hρ x _ hx).sc_inv,(hρ y _ hy).sc_inv,Instr.sliceAt,Instr.slice,Instr.sliceBounds,Instr.sliceBound,asIntOf,run_underlying hc.under,cV (t:=t)]]
  exact ⟨σ,.sc _,L,ci.le_refl _,.sc _,hw,0,by simp,.inr ⟨rfl,rfl⟩,rfl⟩
 ·rw [show (execOp ρ ⟨dd,.slice t x (some y) none none,ty,pos,af,g⟩).run P w= .ok (.value (.slice (some ⟨b,lo * sz,none⟩) (n - lo) (cap - lo))) w by
   simp [execOp,(hρ x _ hx).sc_inv,(hρ y _ hy).sc_inv,Instr.sliceAt,Instr.slice,Instr.sliceBounds,Instr.sliceBound,asIntOf,run_underlying hc.under,cV (t:=t),h,h3,dN]]
  exact ⟨σ,.sc _,L,ci.le_refl _,.sc _,hw,lo * sz,rfl,.inl rfl,rfl⟩
theorem r9:∀{L:AL} {i b:Nat} {a:AB},L[i]?=some (b,a)→fi L i a=L
 | [],_,_,_,h=>by simp at h
 | (c,x)::L,0,b,a,h=>by
  simp at h
  rw [h.2]
  rfl
 | (c,x)::L,i+1,b,a,h=>by
  have:=r9 (L:=L) (i:=i) (by simpa using h)
  rw [fi,this]
theorem xI (i:Nat) {dd:Option Tmp} {e sz by_ b off m k cp:Nat} {cs:List AV} {zs:List Value} (hc:kw P t e sz by_) (hs0:0 < sz) (hz:CZ P e zs) (hz1:zs.all (·.oneCell')=true) (hx:bt fr x=some (.sc (.slice (some ⟨b,off,none⟩) k cp))) (ho:off=m * sz∨k=0) (hL:L[i]?=some (b,.box cs e)) (hfit:m * sz+k * sz≤cs.length):
  AO P ⟨dd,.call ⟨.builtin .clear,#[x],#[t]⟩,ty,pos,af,g⟩ fr B L (fun c L'=>∃cs',c= .sc (.tuple #[])∧cs'.length=cs.length∧cs'.take (m * sz)=cs.take (m * sz)∧L'=fi L i (.box cs' e)):=by
 intro σ ρ w hρ hw
 haveI:=hc
 obtain ⟨i0,zv,hi0,hs1,hs2,hzv,hzs⟩:=hc.info
 obtain ⟨zv',hz2,hz3⟩:=hz.run
 have hzz:zv=zv':=by
  have:=hz3 w
  simp [zeroValue,typeInfo,hi0,hzv] at this
  exact this
 subst hzz
 have hxv:=(hρ x _ hx).sc_inv
 obtain ⟨vs,hb,hvs,h1⟩:=hw.boxCell hL
 have hl:=hvs.1
 unfold gU
 by_cases hk0:k=0
 ·subst hk0
  rw [show (execOp ρ ⟨dd,.call ⟨.builtin .clear,#[x],#[t]⟩,ty,pos,af,g⟩).run P w= .ok (.value (.tuple #[])) w by
   simp [execOp,resolve,hxv,invoke,builtin,Builtin.clear_,run_underlying hc.under,hz3,Builtin.zeroCells,storeCells]]
  refine ⟨σ,.sc _,_,ci.le_refl _,.sc _,?_,cs,rfl,rfl,rfl,rfl⟩
  rw [r9 hL]
  exact hw
 obtain rfl:off=m * sz:=ho.resolve_right hk0
 have hzl:(Builtin.zeroCells zv.cells k).toList.length=k * sz:=by simp [Builtin.zeroCells,hzs]
 have hone:∀v∈(Builtin.zeroCells zv.cells k).toList,v.oneCell'=true:=fun v hv=>by
  have:=fF hv
  have hzl2:zv.cells.toList=zs:=by rw [hz2]
  rw [hzl2] at this
  exact List.all_eq_true.1 hz1 v this
 have hrun:=run_storeCells_cells (P:=P) b (m * sz) (Builtin.zeroCells zv.cells k).toList 0 w (fun j hj=>by rw [Nat.add_zero,cY hb];rw [hzl] at hj;simp;omega) (fun j hj=>nQ hb) hone
 simp only [Nat.add_zero] at hrun
 obtain ⟨hg,cs',hh,hs',hj⟩:=gG b (Builtin.zeroCells zv.cells k).toList (m * sz) w _ e (0,0) hb
 obtain ⟨q,hq⟩:∃q,k=q+1:=⟨k - 1,by omega⟩
 rw [show (execOp ρ ⟨dd,.call ⟨.builtin .clear,#[x],#[t]⟩,ty,pos,af,g⟩).run P w= .ok (.value (.tuple #[])) (w.setCells b (m * sz) (Builtin.zeroCells zv.cells k).toList) by
  rw [hq] at hxv hrun ⊢
  simp [execOp,resolve,hxv,invoke,builtin,Builtin.clear_,run_underlying hc.under,hz3,hrun]]
 generalize hzz:(Builtin.zeroCells zv.cells k).toList=ys at *
 refine ⟨σ,.sc _,_,ci.le_refl _,.sc _,hw.putAt (a':= .box (gg cs (m * sz) (ys.map .sc)) e) hL (fun _=>trivial) hg hh ⟨cs'.toList,by simp,⟨by rw [gQ,hl];simp [hs'],fun i c u hc hu=>?_⟩,fun u hu=>?_⟩,_,rfl,gQ ..,?_,rfl⟩
 ·have hu':cs'[i]?=some u:=by simpa using hu
  rw [hj i] at hu'
  rw [eO _ _ _ _ (by simp;omega)] at hc
  simp only [Hu] at hc
  have hvz:vs.toArray.size=vs.length:=rfl
  by_cases hi:m * sz≤i∧i < m * sz+ys.length
  ·rw [if_pos hi] at hc
   rw [if_pos ⟨hi.1,hi.2,by omega⟩] at hu'
   rw [List.getElem?_map,hu'] at hc
   cases hc
   exact .sc _
  ·rw [if_neg hi] at hc
   rw [if_neg (fun e=>hi ⟨e.1,e.2.1⟩)] at hu'
   exact hvs.2 i c u hc (by simpa using hu')
 ·obtain ⟨i,hi⟩:=List.mem_iff_getElem?.1 hu
  have hu':cs'[i]?=some u:=by simpa using hi
  rw [hj i] at hu'
  split at hu'
  ·exact hone _ (Hw hu')
  ·exact h1 _ (Hw (by simpa using hu'))
 ·refine List.ext_getElem? fun j=>?_
  by_cases hjm:j < m * sz
  ·rw [List.getElem?_take_of_lt hjm,List.getElem?_take_of_lt hjm,eO _ _ _ _ (by simp;omega),if_neg (by omega)]
  ·rw [List.getElem?_eq_none (by rw [List.length_take];omega),List.getElem?_eq_none (by rw [List.length_take];omega)]
end
section
variable {P:Program} {tt:TT} {r:Option Nat} {ops:Array Oper} {Q:Exit→Act→World→Prop} {nt:Nat} {D:List Deferred} {fr:c6} {B:Bs} {L:AL} {rest:List Oper} {d:Nat} {ty t t':TypeId} {pos:String} {af:Array Edge} {x y z:Operand} {u:AV}
theorem nX (ok:ev P tt) (i:Nat) {e sz by_ b n cap m:Nat} {cs es:List AV} {zs:List Value} (ht:jt tt t=some (e,sz,by_)) (hz:zI tt e=some zs) (hz1:zs.all (·.oneCell')=true) (hx:bt fr x=some (.sc (.slice (some ⟨b,0,none⟩) n cap))) (hy:qN fr B L y sz m es) (hL:L[i]?=some (b,.box cs e)) (hcl:cap * sz≤cs.length) (hn:n≤cap) (hcm:cap≤maxLen) (h63:n+m≤maxLen) (hby:(n+m) * by_≤140737488355328) (hd:Nat.ble nt d=false)
  (h:∀b' cs' cap',cap' * sz≤cs'.length→cs'.take ((n+m) * sz)=cs.take (n * sz)++es→n+m≤cap'→cap'≤maxLen→(n+m≤cap→b'=b∧cap'=cap∧cs'=cs.take (n * sz)++es++cs.drop (n * sz+m * sz))→bO P r ops Q nt D rest ((d,.sc (.slice (some ⟨b',0,none⟩) (n+m) cap'))::fr) B ((b',.box cs' e)::L.eraseIdx i)):
  bO P r ops Q nt D (⟨some d,.call ⟨.builtin .append,#[x,y],#[t,t]⟩,ty,pos,af,none⟩::rest) fr B L:=
 cU hd rfl (v6 i (bq ok ht).1 (bq ok ht).2 (fw ok hz) hz1 hx hy hL hcl hn hcm h63 hby) fun c L' ⟨b',cs',cap',h1,h2,h3,h4,h5,h6,h7⟩=>by subst h1;subst h7;exact h b' cs' cap' h2 h3 h4 h5 h6
theorem sy (ok:ev P tt) (hi:Nat) {e sz by_ b off n cap:Nat} {k:IntKind} {a:Int} (ht:jt tt t=some (e,sz,by_)) (hx:bt fr x=some (.sc (.slice (some ⟨b,off,none⟩) n cap))) (hy:bt fr y=some (.sc (.int k a))) (ha:a=(hi:Int)) (h1:hi≤cap) (hd:Nat.ble nt d=false) (h:bO P r ops Q nt D rest ((d,.sc (.slice (some ⟨b,off,none⟩) hi cap))::fr) B L):
  bO P r ops Q nt D (⟨some d,.slice t x none (some y) none,ty,pos,af,none⟩::rest) fr B L:=d8 (wF (bq ok ht).1 hx hy ha h1) hd rfl h
theorem lA (ok:ev P tt) (lo:Nat) {e sz by_ b n cap:Nat} {k:IntKind} {a:Int} (ht:jt tt t=some (e,sz,by_)) (hx:bt fr x=some (.sc (.slice (some ⟨b,0,none⟩) n cap))) (hy:bt fr y=some (.sc (.int k a))) (ha:a=(lo:Int)) (h1:lo≤n) (hn:n≤cap) (hd:Nat.ble nt d=false) (h:∀off,(off=lo * sz∨off=0∧lo=cap)→bO P r ops Q nt D rest ((d,.sc (.slice (some ⟨b,off,none⟩) (n - lo) (cap - lo)))::fr) B L):
  bO P r ops Q nt D (⟨some d,.slice t x (some y) none none,ty,pos,af,none⟩::rest) fr B L:=cU hd rfl (zP (bq ok ht).1 hx hy ha h1 hn) fun c L' ⟨off,h1,h2,h3⟩=>by subst h1;subst h3;exact h off h2
theorem qa (ok:ev P tt) (i:Nat) {e sz by_ b off m k cp:Nat} {cs:List AV} {zs:List Value} (ht:jt tt t=some (e,sz,by_)) (hz:zI tt e=some zs) (hz1:zs.all (·.oneCell')=true) (hx:bt fr x=some (.sc (.slice (some ⟨b,off,none⟩) k cp))) (ho:off=m * sz∨k=0) (hL:L[i]?=some (b,.box cs e)) (hfit:m * sz+k * sz≤cs.length)
  (h:∀cs',cs'.length=cs.length→cs'.take (m * sz)=cs.take (m * sz)→bO P r ops Q nt D rest fr B (fi L i (.box cs' e))):
  bO P r ops Q nt D (⟨none,.call ⟨.builtin .clear,#[x],#[t]⟩,ty,pos,af,none⟩::rest) fr B L:=
 kE rfl (xI i (bq ok ht).1 (bq ok ht).2 (fw ok hz) hz1 hx ho hL hfit) fun c L' ⟨cs',h1,h2,h3,h4⟩=>by subst h4;exact h cs' h2 h3
end
end Go.Proofs.YtpbinloeemebkaaGreat
namespace Go.Proofs.YtpbinloeemebkaaGreat
open Go.RowKit
section
variable {P:Program} {tt:TT} {r:Option Nat} {ops:Array Oper} {Q:Exit→Act→World→Prop} {nt:Nat} {D:List Deferred} {fr:c6} {B:Bs} {L:AL} {rest:List Oper} {d:Nat} {ty t t':TypeId} {pos:String} {af:Array Edge} {g:Option (Nat×Bool)} {x y z:Operand} {u:AV}
theorem Er {dd:Option Tmp} {k kk:IntKind} {a b:Int} (i:Nat) (hx:bt fr x=some (.sc (.int k a))) (hy:bt fr y=some (.sc (.int kk b))) (hb:b=(i:Int)):Av P ⟨dd,.binOp .shr t x y t',ty,pos,af,g⟩ fr (.sc (.int k (a / 2 ^ min i k.bits))):=by
 intro σ ρ w hρ _
 subst hb
 refine ⟨_,?_,.sc _⟩
 have h:=shift_shr_any k kk a (i:Int) (Int.natCast_nonneg i)
 simp [execOp,(hρ x _ hx).sc_inv,(hρ y _ hy).sc_inv,eqGuard,binOp,h]
theorem EU (i:Nat) {k kk:IntKind} {a b:Int} (hx:bt fr x=some (.sc (.int k a))) (hy:bt fr y=some (.sc (.int kk b))) (hb:b=(i:Int)) (hd:Nat.ble nt d=false) (h:bO P r ops Q nt D rest ((d,.sc (.int k (a / 2 ^ min i k.bits)))::fr) B L):
  bO P r ops Q nt D (⟨some d,.binOp .shr t x y t',ty,pos,af,none⟩::rest) fr B L:=d8 (Er i hx hy hb) hd rfl h
end
end Go.Proofs.YtpbinloeemebkaaGreat
namespace Go.Proofs.YtpbinloeemebkaaGreat
open Go.RowKit
def H9:AV→Option Bool
 | .iptr _=>some false
 | .sc (.pointer none)=>some true
 | .sc (.pointer (some _))=>some false
 | _=>none
section
variable {P:Program} {fr:c6} {B:Bs} {L:AL} {d:Option Tmp} {ty t t':TypeId} {pos:String} {af:Array Edge} {g:Option (Nat×Bool)} {x y z q:Operand} {u:AV}
theorem Cj {e sz by_:Nat} {parts:Array (Nat×Operand)} (hc:kw P t e sz by_) (hsz:0 < sz) (hp:parts=#[]):AO P ⟨d,.buildSlice t 0 parts,ty,pos,af,g⟩ fr B L (fun c L'=>∃b,c= .sc (.slice (some ⟨b,0,none⟩) 0 0)∧L'=(b,.box [] e)::L):=by
 intro σ ρ w hρ hw
 subst hp
 haveI:=hc
 have hr:=BI (P:=P) (t:=t) (by simpa [Nat.blt_eq] using hsz) [] (by simp) (by simp [Nat.ble_eq]) w
 simp at hr
 unfold gU
 rw [show (execOp ρ ⟨d,.buildSlice t 0 #[],ty,pos,af,g⟩).run P w= .ok (.value (.slice (some ⟨w.heap.size,0,none⟩) 0 0)) (w.alloc (.cells #[] e)) by
  simp [execOp,hr]]
 exact ⟨σ,.sc _,_,ci.le_refl _,.sc _,hw.alloc _ (.box [] e) ⟨[],rfl,dv.nil,by simp⟩,_,rfl,rfl⟩
end
section
variable {P:Program} {tt:TT} {r:Option Nat} {ops:Array Oper} {Q:Exit→Act→World→Prop} {nt:Nat} {D:List Deferred} {fr:c6} {B:Bs} {L:AL} {rest:List Oper} {d:Nat} {ty t t':TypeId} {pos:String} {af:Array Edge} {x y z:Operand} {u:AV}
theorem ET (ok:ev P tt) {e sz by_:Nat} (ht:jt tt t=some (e,sz,by_)) (hd:Nat.ble nt d=false) (h:∀b,bO P r ops Q nt D rest ((d,.sc (.slice (some ⟨b,0,none⟩) 0 0))::fr) B ((b,.box [] e)::L)):
  bO P r ops Q nt D (⟨some d,.buildSlice t 0 #[],ty,pos,af,none⟩::rest) fr B L:=cU hd rfl (Cj (bq ok ht).1 (bq ok ht).2 rfl) fun c L' ⟨b,h1,h2⟩=>by subst h1;subst h2;exact h b
theorem xb (ok:ev P tt) {a:Int} {q q':IntKind} {ti ti':TI} (hx:bt fr x=some (.sc (.int q a))) (ht:du tt t=some ti) (hk:ti.k= .int q) (ht':du tt t'=some ti') (hk':ti'.k= .int q') (hd:Nat.ble nt d=false) (h:bO P r ops Q nt D rest ((d,.sc (.int q' (q'.wrap a)))::fr) B L):
  bO P r ops Q nt D (⟨some d,.convert t t' x,ty,pos,af,none⟩::rest) fr B L:=by
 haveI:=ok.int ht hk
 haveI:=ok.int ht' hk'
 exact d8 (r6 hx) hd rfl h
end
end Go.Proofs.YtpbinloeemebkaaGreat
namespace Go.Proofs.YtpbinloeemebkaaGreat
open Go.RowKit
section
variable {P:Program} {fr:c6} {B:Bs} {L:AL} {ty t t':TypeId} {pos:String} {af:Array Edge} {g:Option (Nat×Bool)} {x y z q:Operand} {u:AV}
theorem Ca {d:Option Tmp} {s e sz by_ hi:Nat} {l:List (List AV)} {k k':IntKind} {a b:Int} (hc:kw P t e sz by_) (hx:bt fr x=some u) (hu:hQ u=some (s,l)) (hs:Nat.beq s sz=true) (hy:bt fr y=some (.sc (.int k a))) (hz:bt fr z=some (.sc (.int k' b))) (ha:a=(hi:Int)) (hb:b=(hi:Int)) (h:hi≤l.length):Av P ⟨d,.slice t x none (some y) (some z),ty,pos,af,g⟩ fr (.imm s (l.take hi)):=by
 intro σ ρ w hρ _
 subst ha hb
 rw [Nat.beq_eq] at hs
 subst hs
 have h1:=(hρ x u hx).im
 rw [cM hu] at h1
 obtain ⟨A,cap,hv,hcap,_⟩:=h1.imm_inv
 rw [hv] at h1
 have hvr:=h1.cut (lo:=0) (hi:=hi) (m:=hi) (Nat.zero_le _) h (Nat.le_refl _) (by omega)
 haveI:=hc
 simp only [List.drop_zero,Nat.sub_zero,Nat.zero_mul] at hvr
 refine ⟨_,?_,hvr⟩
 have h4:hi≤cap:=by omega
 simp [execOp,hv,(hρ y _ hy).sc_inv,(hρ z _ hz).sc_inv,Instr.sliceAt,Instr.slice,Instr.sliceBounds,Instr.sliceBound,asIntOf,run_underlying hc.under,cV (t:=t),h4]
end
section
variable {P:Program} {tt:TT} {l:List Oper} {fr:c6} {fin:iq} {sk:ky} {acc:c6} {L:AL} {k:Nat} {dd:Option Tmp} {ty t:TypeId} {pos:String} {af:Array Edge} {g:Option (Nat×Bool)} {x y z:Operand} {u:AV}
theorem Cz (ok:ev P tt) (hi:Nat) {s e sz by_:Nat} {ll:List (List AV)} {q q':IntKind} {a b:Int} (ht:jt tt t=some (e,sz,by_)) (hx:bt (cB l.toArray acc fr af.toList) x=some u) (hu:hQ u=some (s,ll)) (hs:Nat.beq s sz=true) (hy:bt (cB l.toArray acc fr af.toList) y=some (.sc (.int q a))) (hz:bt (cB l.toArray acc fr af.toList) z=some (.sc (.int q' b))) (ha:a=(hi:Int)) (hb:b=(hi:Int)) (h1:hi≤ll.length) (hg:iL ⟨dd,.slice t x none (some y) (some z),ty,pos,af,g⟩ acc) (h:DA P l fr fin sk ((k,.imm s (ll.take hi))::acc) L):
  cT P l fr fin k .v ⟨dd,.slice t x none (some y) (some z),ty,pos,af,g⟩ sk acc L:=f6 hg (zq (Ca (bq ok ht).1 hx hu hs hy hz ha hb h1)) h
end
end Go.Proofs.YtpbinloeemebkaaGreat
namespace Go.Proofs.YtpbinloeemebkaaGreat
open Go.RowKit
section
variable {P:Program} {tt:TT} {l:List Oper} {fr:c6} {fin:iq} {sk:ky} {acc:c6} {L:AL} {k:Nat} {dd:Option Tmp} {ty t:TypeId} {pos:String} {af:Array Edge} {g:Option (Nat×Bool)} {x y z:Operand} {u:AV}
theorem Cy (ok:ev P tt) (lo:Nat) {s e sz by_:Nat} {ll:List (List AV)} {q:IntKind} {a:Int} (ht:jt tt t=some (e,sz,by_)) (hx:bt (cB l.toArray acc fr af.toList) x=some u) (hu:hQ u=some (s,ll)) (hs:Nat.beq s sz=true) (hy:bt (cB l.toArray acc fr af.toList) y=some (.sc (.int q a))) (ha:a=(lo:Int)) (h1:lo≤ll.length) (hg:iL ⟨dd,.slice t x (some y) none none,ty,pos,af,g⟩ acc) (h:DA P l fr fin sk ((k,.imm s (ll.drop lo))::acc) L):
  cT P l fr fin k .v ⟨dd,.slice t x (some y) none none,ty,pos,af,g⟩ sk acc L:=f6 hg (zq (zD (bq ok ht).1 hx (cM hu) hs hy ha h1)) h
end
end Go.Proofs.YtpbinloeemebkaaGreat
namespace Go.Proofs.YtpbinloeemebkaaGreat
open Go.RowKit
theorem Dv (a:Int) {b:Int} (hb:0 < b): -b < a.tmod b∧a.tmod b < b:=⟨Int.lt_tmod_of_pos a hb,Int.tmod_lt_of_pos a hb⟩
theorem xv {a b:Int} (ha:0≤a) (hb:0 < b):0≤a.tmod b∧a.tmod b < b:=⟨Int.tmod_nonneg b ha,Int.tmod_lt_of_pos a hb⟩
theorem tN {α:Type} {sz:Nat}:∀(l:List (List α)) (i c:Nat) (e:List α) (v:α),(∀e∈l,e.length=sz)→l[i]?=some e→c < sz→l.flatten.set (i * sz+c) v=(l.set i (e.set c v)).flatten
 | [],i,c,e,v,_,h,_=>by simp at h
 | x::l,0,c,e,v,hs,h,hc=>by
  simp at h
  subst h
  have hx:=hs x (List.mem_cons_self ..)
  rw [List.flatten_cons,List.set_cons_zero,List.flatten_cons,Nat.zero_mul,Nat.zero_add,List.set_append_left _ _ (by omega)]
 | x::l,i+1,c,e,v,hs,h,hc=>by
  have hx:=hs x (List.mem_cons_self ..)
  rw [List.flatten_cons,List.set_cons_succ,List.flatten_cons,←tN l i c e v (fun e he=>hs e (Ht _ he)) (by simpa using h) hc,List.set_append_right _ _ (by rw [hx,Nat.add_mul];omega),hx,show (i+1) * sz+c - sz=i * sz+c by rw [Nat.add_mul];omega]
theorem ku {P:Program} (w:World) (t tn ty e:TypeId) (i:TypeInfo) (z:Value) (k kn:IntKind) (ht:P.underlying t=some (.slice e)) (htn:P.underlying tn=some (.int kn)) (hi:P.info? e=some i) (hz:i.zero=some z)
  (b:Addr) (sLen sCap:Nat) (olds:List Value) (hlo:olds.length=sLen * i.size) (holds:∀j v,olds[j]?=some v→w.cell? (b.add j)=some v)
  (n:Nat) (h0:0 < n) (hs:0 < i.size) (hg:sCap < sLen+n) (h63:((sLen+n:Nat):Int)≤9223372036854775807) (h48:n * i.bytes≤281474976710656) (hfit:Builtin.nextslicecap (sLen+n) sCap * i.bytes≤281474976710656):
  (Builtin.append_ #[t,tn] ty #[.slice (some b) sLen sCap,.int k n]).run P w=
   .ok (.slice (some ⟨w.heap.size,0,none⟩) (sLen+n) (grownCap w (sLen+n) sCap e)) (w.drew.alloc (.cells (olds.toArray++Builtin.zeroCells z.cells n++Builtin.zeroCells z.cells (grownCap w (sLen+n) sCap e - (sLen+n))) e)):=by
 have hn:n≠0:=by omega
 have hnn:¬(sLen+n≤sCap):=by omega
 have hw:IntKind.i64.wrap (n:Int)=n:=by rw [IntKind.wrap_i64];omega
 have h63':¬(9223372036854775807 < ((sLen:Int)+(n:Int))):=by omega
 have h48':¬(281474976710656 < Builtin.nextslicecap (sLen+n) sCap * i.bytes):=by omega
 have h48i:¬(281474976710656 < (n:Int) * (i.bytes:Int)):=by
  rw [←Int.natCast_mul]
  omega
 have hneg:¬((n:Int) < 0):=by omega
 have hns:¬(n * i.size=0):=Nat.mul_ne_zero hn (by omega)
 have hfo:=run_firstCells_some (P:=P) w.drew i.size sLen b sLen sCap olds hlo (by simpa using holds)
 simp [Builtin.append_,run_underlying ht,run_underlying htn,sizeOf,typeInfo,zeroValue,hi,hz,asInt,asIntOf,hw,hn,hnn,hneg,hns,h63',h48',h48i,Question.forced,hfo,newRow,grownCap]
section
variable {P:Program} {fr:c6} {B:Bs} {L:AL} {d:Option Tmp} {ty t t' tn:TypeId} {pos:String} {af:Array Edge} {g:Option (Nat×Bool)} {x y z q:Operand} {u:AV}
theorem t8 (i:Nat) {e sz by_ b n cap m:Nat} {k kn:IntKind} {a:Int} {cs:List AV} {zs:List Value} (hc:kw P t e sz by_) (hs0:0 < sz) (hz:CZ P e zs) (hz1:zs.all (·.oneCell')=true) (hn':P.underlying tn=some (.int kn)) (hx:bt fr x=some (.sc (.slice (some ⟨b,0,none⟩) n cap))) (hy:bt fr y=some (.sc (.int k a))) (ha:a=(m:Int)) (h0:0 < m) (hL:L[i]?=some (b,.box cs e)) (hcl:cap * sz≤cs.length) (hn:n≤cap) (hg:cap < n+m) (h63:n+m≤maxLen) (hby:(n+m) * by_≤140737488355328):
  AO P ⟨d,.call ⟨.builtin .append,#[x,y],#[t,tn]⟩,ty,pos,af,g⟩ fr B L (fun r L'=>∃b' cs' cap',r= .sc (.slice (some ⟨b',0,none⟩) (n+m) cap')∧cap' * sz≤cs'.length∧cs'.take (n * sz)=cs.take (n * sz)∧n+m≤cap'∧cap'≤maxLen∧L'=(b',.box cs' e)::L):=by
 intro σ ρ w hρ hw
 subst ha
 have hxv:=(hρ x _ hx).sc_inv
 haveI:=hc
 obtain ⟨inf,zz,hi,hsz,rfl,hzz,hzs⟩:=hc.info
 have hzc:=hz.cells hi hzz w
 obtain ⟨o,ho,vs,rfl,hvs,h1⟩:=hw.here _ (Hw hL)
 have hl:=hvs.1
 have hnc:n * sz≤cap * sz:=Nat.mul_le_mul_right _ hn
 have hm63:=h63
 unfold maxLen at h63
 unfold gU
 have holds:∀j v,(vs.take (n * sz))[j]?=some v→w.cell? ((⟨b,0,none⟩:Addr).add j)=some v:=fun j v hj=>by
  rw [dN,Nat.zero_add,cY ho]
  have hjl:=(Hp hj).1
  rw [List.length_take] at hjl
  rw [List.getElem?_take_of_lt (by omega)] at hj
  simpa using hj
 have hbm:m * inf.bytes≤(n+m) * inf.bytes:=Nat.mul_le_mul_right _ (by omega)
 have hr:=ku (P:=P) w t tn ty e inf zz k kn hc.under hn' hi hzz ⟨b,0,none⟩ n cap (vs.take (n * sz)) (by rw [hsz,List.length_take];omega) holds m h0 (by omega) hg (by omega) (by omega) (growslice_fits (by omega) hby)
 rw [show (execOp ρ ⟨d,.call ⟨.builtin .append,#[x,y],#[t,tn]⟩,ty,pos,af,g⟩).run P w= .ok (.value (.slice (some ⟨w.heap.size,0,none⟩) (n+m) (grownCap w (n+m) cap e))) (w.drew.alloc (.cells ((vs.take (n * sz)).toArray++Builtin.zeroCells zz.cells m++Builtin.zeroCells zz.cells (grownCap w (n+m) cap e - (n+m))) e)) by
  simp [execOp,resolve,hxv,(hρ y _ hy).sc_inv,invoke,builtin,hr]]
 have hge:=grownCap_ge w (n+m) cap e
 have hgm:=grownCap_le_maxLen w (n+m) cap e hm63
 have hzl:∀k,(Builtin.zeroCells zz.cells k).toList.length=k * sz:=fun k=>by rw [Array.length_toList,size_zeroCells,hzs]
 have hzm:∀k,∀v∈(Builtin.zeroCells zz.cells k).toList,v.oneCell'=true:=fun k v hv=>by
  have:=fF hv
  rw [hzc] at this
  exact List.all_eq_true.1 hz1 v (by simpa using this)
 generalize grownCap w (n+m) cap e=cap' at *
 have hmc:cap' * sz=n * sz+(m * sz+(cap' - (n+m)) * sz):=by rw [←Nat.add_mul,←Nat.add_mul];congr 1;omega
 have hzl':=hzl (cap' - (n+m))
 have hzm':=hzm (cap' - (n+m))
 have hzl2:=hzl m
 have hzm2:=hzm m
 generalize Builtin.zeroCells zz.cells (cap' - (n+m))=zc at *
 generalize Builtin.zeroCells zz.cells m=zd at *
 refine ⟨σ,.sc _,_,ci.le_refl _,.sc _,(hw.drew _).alloc _ (.box (cs.take (n * sz)++zd.toList.map AV.sc++zc.toList.map AV.sc) e) ⟨vs.take (n * sz)++zd.toList++zc.toList,by simp,dV (dV (fE hvs _) (nf _)) (nf _),fun u hu=>?_⟩,w.heap.size,_,cap',rfl,?_,?_,hge,hgm,rfl⟩
 ·rcases Hn hu with hu | hu
  ·rcases Hn hu with hu | hu
   ·exact h1 _ (List.mem_of_mem_take hu)
   ·exact hzm2 u hu
  ·exact hzm' u hu
 ·simp only [List.length_append,Hu,hzl',hzl2,List.length_take];omega
 ·rw [List.append_assoc,List.take_append_of_le_length (by simp;omega),List.take_of_length_le (by simp;omega)]
end
section
variable {P:Program} {tt:TT} {r:Option Nat} {ops:Array Oper} {Q:Exit→Act→World→Prop} {nt:Nat} {D:List Deferred} {fr:c6} {B:Bs} {L:AL} {rest:List Oper} {d:Nat} {ty t t' tn:TypeId} {pos:String} {af:Array Edge} {x y z:Operand} {u:AV}
theorem vY (ok:ev P tt) (i m:Nat) {e sz by_ b n cap:Nat} {k kn:IntKind} {a:Int} {cs:List AV} {zs:List Value} (ht:jt tt t=some (e,sz,by_)) (hz:zI tt e=some zs) (hz1:zs.all (·.oneCell')=true) (hn':P.underlying tn=some (.int kn)) (hx:bt fr x=some (.sc (.slice (some ⟨b,0,none⟩) n cap))) (hy:bt fr y=some (.sc (.int k a))) (ha:a=(m:Int)) (h0:0 < m) (hL:L[i]?=some (b,.box cs e)) (hcl:cap * sz≤cs.length) (hn:n≤cap) (hg:cap < n+m) (h63:n+m≤maxLen) (hby:(n+m) * by_≤140737488355328) (hd:Nat.ble nt d=false)
  (h:∀b' cs' cap',cap' * sz≤cs'.length→cs'.take (n * sz)=cs.take (n * sz)→n+m≤cap'→cap'≤maxLen→bO P r ops Q nt D rest ((d,.sc (.slice (some ⟨b',0,none⟩) (n+m) cap'))::fr) B ((b',.box cs' e)::L)):
  bO P r ops Q nt D (⟨some d,.call ⟨.builtin .append,#[x,y],#[t,tn]⟩,ty,pos,af,none⟩::rest) fr B L:=
 cU hd rfl (t8 i (bq ok ht).1 (bq ok ht).2 (fw ok hz) hz1 hn' hx hy ha h0 hL hcl hn hg h63 hby) fun c L' ⟨b',cs',cap',h1,h2,h3,h4,h5,h7⟩=>by subst h1;subst h7;exact h b' cs' cap' h2 h3 h4 h5
theorem Be (ok:ev P tt) (lo hi:Nat) {e sz by_ b n cap:Nat} {k k2:IntKind} {a a2:Int} {q:Operand} (ht:jt tt t=some (e,sz,by_)) (hx:bt fr x=some (.sc (.slice (some ⟨b,0,none⟩) n cap))) (hq:bt fr q=some (.sc (.int k2 a2))) (ha2:a2=(lo:Int)) (hy:bt fr y=some (.sc (.int k a))) (ha:a=(hi:Int)) (h0:lo < hi) (h1:hi≤cap) (hd:Nat.ble nt d=false) (h:bO P r ops Q nt D rest ((d,.sc (.slice (some ⟨b,lo * sz,none⟩) (hi - lo) (cap - lo)))::fr) B L):
  bO P r ops Q nt D (⟨some d,.slice t x (some q) (some y) none,ty,pos,af,none⟩::rest) fr B L:=by
 refine d8 (fun σ ρ w hρ _=>?_) hd rfl h
 haveI:=(bq ok ht).1
 subst ha;subst ha2
 have e6:¬(cap - lo=0):=by omega
 have e7:¬(cap=lo):=by omega
 have e8:lo≤hi:=by omega
 refine ⟨_,?_,.sc _⟩
 simp [execOp,(hρ x _ hx).sc_inv,(hρ y _ hy).sc_inv,(hρ q _ hq).sc_inv,Instr.sliceAt,Instr.slice,Instr.sliceBounds,Instr.sliceBound,asIntOf,run_underlying (bq ok ht).1.under,cV (t:=t),e6,e7,e8,h1,dN]
theorem EQ (ok:ev P tt) (lo hi m:Nat) {e sz by_ b n cap:Nat} {k k' k2:IntKind} {a a' a2:Int} {q:Operand} (ht:jt tt t=some (e,sz,by_)) (hx:bt fr x=some (.sc (.slice (some ⟨b,0,none⟩) n cap))) (hq:bt fr q=some (.sc (.int k2 a2))) (ha2:a2=(lo:Int)) (hy:bt fr y=some (.sc (.int k a))) (ha:a=(hi:Int)) (hz:bt fr z=some (.sc (.int k' a'))) (ha':a'=(m:Int)) (h0:lo < hi) (h1:hi≤m) (h2:m≤cap) (hd:Nat.ble nt d=false) (h:bO P r ops Q nt D rest ((d,.sc (.slice (some ⟨b,lo * sz,none⟩) (hi - lo) (m - lo)))::fr) B L):
  bO P r ops Q nt D (⟨some d,.slice t x (some q) (some y) (some z),ty,pos,af,none⟩::rest) fr B L:=by
 refine d8 (fun σ ρ w hρ _=>?_) hd rfl h
 haveI:=(bq ok ht).1
 subst ha;subst ha';subst ha2
 have e4:¬(cap < m):=by omega
 have e6:¬(m - lo=0):=by omega
 have e7:¬(m=lo):=by omega
 have e8:lo≤hi:=by omega
 refine ⟨_,?_,.sc _⟩
 simp [execOp,(hρ x _ hx).sc_inv,(hρ y _ hy).sc_inv,(hρ z _ hz).sc_inv,(hρ q _ hq).sc_inv,Instr.sliceAt,Instr.slice,Instr.sliceBounds,Instr.sliceBound,asIntOf,run_underlying (bq ok ht).1.under,cV (t:=t),e4,e6,e7,e8,h1,h2,dN]
end
theorem Cb {P:Program} {fr:c6} {t ty:TypeId} {x y:Operand} {pos:String} {af:Array Edge} {g:Option (Nat×Bool)} {dd:Option Tmp} {e sz by_ b n cap lo:Nat} {k:IntKind} {a:Int} (hc:kw P t e sz by_) (hx:bt fr x=some (.sc (.slice (some ⟨b,0,none⟩) n cap))) (hy:bt fr y=some (.sc (.int k a))) (ha:a=(lo:Int)) (h:lo≤n) (hn:n≤cap):Av P ⟨dd,.slice t x (some y) none none,ty,pos,af,g⟩ fr (.sc (.slice (some ⟨b,if cap=lo then 0 else lo * sz,none⟩) (n - lo) (cap - lo))):=by
 intro σ ρ w hρ _
 subst ha
 haveI:=hc
 refine ⟨_,?_,.sc _⟩
 by_cases h3:cap=lo
 ·have:n=lo:=by omega
  subst h3;subst this
  simp [execOp,(hρ x _ hx).sc_inv,(hρ y _ hy).sc_inv,Instr.sliceAt,Instr.slice,Instr.sliceBounds,Instr.sliceBound,asIntOf,run_underlying hc.under,cV (t:=t)]
 ·simp [execOp,(hρ x _ hx).sc_inv,(hρ y _ hy).sc_inv,Instr.sliceAt,Instr.slice,Instr.sliceBounds,Instr.sliceBound,asIntOf,run_underlying hc.under,cV (t:=t),h,h3,dN]
section
variable {P:Program} {tt:TT} {l:List Oper} {fr:c6} {fin:iq} {sk:ky} {acc:c6} {L:AL} {k:Nat} {dd:Option Tmp} {ty t:TypeId} {pos:String} {af:Array Edge} {g:Option (Nat×Bool)} {x y:Operand}
theorem wN (ok:ev P tt) (hi:Nat) {e sz by_ b off n cap:Nat} {q:IntKind} {a:Int} (ht:jt tt t=some (e,sz,by_)) (hx:bt (cB l.toArray acc fr af.toList) x=some (.sc (.slice (some ⟨b,off,none⟩) n cap))) (hy:bt (cB l.toArray acc fr af.toList) y=some (.sc (.int q a))) (ha:a=(hi:Int)) (h1:hi≤cap) (hg:iL ⟨dd,.slice t x none (some y) none,ty,pos,af,g⟩ acc) (h:DA P l fr fin sk ((k,.sc (.slice (some ⟨b,off,none⟩) hi cap))::acc) L):cT P l fr fin k .v ⟨dd,.slice t x none (some y) none,ty,pos,af,g⟩ sk acc L:=f6 hg (zq (wF (bq ok ht).1 hx hy ha h1)) h
theorem iT (ok:ev P tt) (lo:Nat) {e sz by_ b n cap:Nat} {q:IntKind} {a:Int} (ht:jt tt t=some (e,sz,by_)) (hx:bt (cB l.toArray acc fr af.toList) x=some (.sc (.slice (some ⟨b,0,none⟩) n cap))) (hy:bt (cB l.toArray acc fr af.toList) y=some (.sc (.int q a))) (ha:a=(lo:Int)) (h1:lo≤n) (hn:n≤cap) (hg:iL ⟨dd,.slice t x (some y) none none,ty,pos,af,g⟩ acc) (h:DA P l fr fin sk ((k,.sc (.slice (some ⟨b,if cap=lo then 0 else lo * sz,none⟩) (n - lo) (cap - lo)))::acc) L):cT P l fr fin k .v ⟨dd,.slice t x (some y) none none,ty,pos,af,g⟩ sk acc L:=f6 hg (zq (Cb (bq ok ht).1 hx hy ha h1 hn)) h
end
end Go.Proofs.YtpbinloeemebkaaGreat
namespace Go.Proofs.YtpbinloeemebkaaGreat
open Go.RowKit
end Go.Proofs.YtpbinloeemebkaaGreat
namespace Go.Proofs.YtpbinloeemebkaaGreat
open Go.RowKit
section
variable {nt:Nat} {fr:c6} {B:Bs} {L:AL} {D:List Deferred}
theorem qH {t b e sz n cap:Nat} {cs:List AV} {l:List (List AV)} (i:Nat) (hl:bY fr t=some (.sc (.slice (some ⟨b,0,none⟩) n cap))) (hL:L[i]?=some (b,.box cs e)) (hc:cs.take (n * sz)=l.flatten) (hcl:n * sz≤cs.length) (hs:∀q∈l,q.length=sz) (hn:l.length=n) (hnc:n≤cap) (hm:cap≤maxLen):mx nt D B fr L ((t,.imm sz l)::fr) (L.eraseIdx i):=by
 intro σ a w ha hw0
 have hw:=hw0.perm (fh hL)
 obtain ⟨o,ho,vs,rfl,hvs,h1⟩:=hw.here _ (List.mem_cons_self ..)
 have hfree:=hw.free _ (List.mem_cons_self ..)
 have hvl:vs.length=cs.length:=hvs.1.symm
 have hst:cZ B σ ((b,.vec e cs.length 0 1)::L.eraseIdx i) w:=by
  refine ⟨hw.os,hw.tape,hw.output,hw.size,hw.old,fun p hp=>?_,fun p hp=>?_,by simpa using hw.apart,hw.froz,fun p hp off hm=>?_,hw.grow,hw.same⟩
  ·rcases List.mem_cons.1 hp with rfl | hp'
   ·exact ⟨_,ho,_,rfl,by simp [hvl],Nat.zero_le _,by unfold maxLen;omega⟩
   ·exact hw.here p (Ht _ hp')
  ·rcases List.mem_cons.1 hp with rfl | hp'
   ·exact hw.mine (b,.box cs e) (List.mem_cons_self ..)
   ·exact hw.mine p (Ht _ hp')
  ·rcases List.mem_cons.1 hp with rfl | hp'
   ·exact hfree off trivial
   ·exact hw.free p (Ht _ hp') off hm
 obtain ⟨hst',hle⟩:=hst.freezeHead (n':=1) (xs:=vs) (fun j u hj=>by rw [cY ho];simpa using hj) (by omega) (Nat.zero_le _) (Nat.le_refl _)
 have hv:VR (σ.add b vs) (.vec (some (b,cap)) sz l) (.slice (some ⟨b,0,none⟩) n cap):=by
  have:=mv (σ:=σ.add b vs) (b:=b) (cap:=cap) hs (by rw [←hc];exact (fE hvs _).mono hle) (fun u hu=>h1 u (List.mem_of_mem_take hu)) (by omega) hm (fun j u hj=>ci.add_at (by
   rw [List.getElem?_take] at hj
   split at hj
   ·exact hj
   ·cases hj))
  rwa [hn] at this
 refine ⟨_,?_,hst'.sublist (.cons _ (List.Sublist.refl _))⟩
 have ha':=ha.mono hle
 refine ⟨ha'.size,ha'.defers,fun t' v' hl'=>?_⟩
 rw [cm] at hl'
 by_cases e:t=t'
 ·subst e
  simp only [if_true,Option.some.injEq] at hl'
  subst hl'
  rw [(ha.look t _ hl).sc_inv]
  exact hv.im
 ·rw [if_neg e] at hl'
  exact ha'.look t' v' hl'
end
end Go.Proofs.YtpbinloeemebkaaGreat
namespace Go.Proofs.YtpbinloeemebkaaGreat
open Go.RowKit
section
variable {P:Program} {fr:c6} {B:Bs} {L:AL} {ty t t':TypeId} {pos:String} {af:Array Edge} {g:Option (Nat×Bool)} {x y:Operand}
theorem zO (i:Nat) {dd:Option Tmp} {e e' sz by_ b off n c m:Nat} {cs es:List AV} (hc:kw P t e sz by_) (hx:bt fr x=some (.sc (.slice (some ⟨b,off,none⟩) n c))) (hy:qN fr B L y sz m es) (hL:L[i]?=some (b,.box cs e')) (hfit:off+min m n * sz≤cs.length):
  AO P ⟨dd,.call ⟨.builtin .copy,#[x,y],#[t,t']⟩,ty,pos,af,g⟩ fr B L (fun r L'=>r=aH ((min m n:Nat):Int)∧L'=fi L i (.box (cs.take off++es.take (min m n * sz)++cs.drop (off+min m n * sz)) e')):=by
 intro σ ρ w hρ hw
 obtain ⟨A,c2,ys,hA,hyr,hy1,hyl,hyc⟩:=hy σ ρ w hρ hw
 have hxv:=(hρ x _ hx).sc_inv
 haveI:=hc
 obtain ⟨inf,zz,hi,hsz,_,_,_⟩:=hc.info
 obtain ⟨vs,hb,hvs,h1⟩:=hw.boxCell hL
 have hl:=hvs.1
 have hmin:Nat.min m n=min m n:=rfl
 generalize hk:min m n=k at *
 have hlen:(ys.take (k * sz)).length=k * sz:=by
  rw [List.length_take,hyl]
  have:k≤m:=by omega
  have:=Nat.mul_le_mul_right sz this
  omega
 have hstore:=run_storeCells_at P b off e' (ys.take (k * sz)) 0 vs.toArray w hb (by rw [hlen];simp;omega) (fun v hv=>hy1 v (List.mem_of_mem_take hv))
 unfold gU
 rw [show (execOp ρ ⟨dd,.call ⟨.builtin .copy,#[x,y],#[t,t']⟩,ty,pos,af,g⟩).run P w= .ok (.value (.int .i64 k)) (w.setRow b (vs.toArray.toList.take off++ys.take (k * sz)++vs.toArray.toList.drop (off+(ys.take (k * sz)).length)).toArray) by
  by_cases hk0:k=0
  ·subst hk0
   simp only [Nat.zero_mul,List.take_zero,List.append_nil,List.length_nil,Nat.add_zero,List.take_append_drop] at hstore ⊢
   have h0:(Builtin.firstCells inf.size 0 (.slice A m c2)).run P w= .ok #[] w:=by
    cases A with
    | none=>rfl
    | some a=>
     have:=run_loadCells_list (P:=P) w a [] (by simp)
     simpa [Builtin.firstCells] using this
   simp [execOp,resolve,hxv,hA,invoke,builtin,Builtin.copy_,run_underlying hc.under,Builtin.lenOf,sizeOf,typeInfo,hi,hmin,h0,storeCells,goInt]
   exact (setRow_self w b vs.toArray e' (0,0) hb).symm
  ·have hm0:0 < m:=by omega
   obtain ⟨b2,off2,rfl,hcell⟩:=hyc hm0
   have hld:=run_loadCells_list (P:=P) w ⟨b2,off2,none⟩ (ys.take (k * sz)) (fun j v hj=>hcell j v (by
    have hjl:=(Hp hj).1
    rw [List.length_take] at hjl
    rw [List.getElem?_take_of_lt (by omega)] at hj
    exact hj))
   rw [hlen] at hld
   simp only [Nat.add_zero] at hstore
   simp [execOp,resolve,hxv,hA,invoke,builtin,Builtin.copy_,run_underlying hc.under,Builtin.lenOf,Builtin.firstCells,sizeOf,typeInfo,hi,hsz,hmin,hld,hstore,goInt]]
 rw [hlen]
 refine ⟨σ,.sc _,_,ci.le_refl _,.sc _,hw.putAt (a':= .box (cs.take off++es.take (k * sz)++cs.drop (off+k * sz)) e') hL (fun _=>trivial) ⟨rfl,rfl,rfl,by simp,fun k _ hk=>setRow_other w b k _ (fun e=>hk (by simp [e]))⟩ (setRow_heap w b _ _ e' _ hb) ⟨_,rfl,dV (dV (fE hvs _) (fE hyr _)) (ld hvs _),fun u hu=>?_⟩,rfl,rfl⟩
 rcases Hn hu with hu | hu
 ·rcases Hn hu with hu | hu
  ·exact h1 _ (List.mem_of_mem_take hu)
  ·exact hy1 _ (List.mem_of_mem_take hu)
 ·exact h1 _ (List.mem_of_mem_drop hu)
end
section
variable {P:Program} {tt:TT} {r:Option Nat} {ops:Array Oper} {Q:Exit→Act→World→Prop} {nt:Nat} {D:List Deferred} {fr:c6} {B:Bs} {L:AL} {rest:List Oper} {d:Nat} {ty t t':TypeId} {pos:String} {af:Array Edge} {x y:Operand}
theorem lz (ok:ev P tt) (i:Nat) {e e' sz by_ b off n c m:Nat} {cs es:List AV} (ht:jt tt t=some (e,sz,by_)) (hx:bt fr x=some (.sc (.slice (some ⟨b,off,none⟩) n c))) (hy:qN fr B L y sz m es) (hL:L[i]?=some (b,.box cs e')) (hfit:off+min m n * sz≤cs.length) (hd:Nat.ble nt d=false)
  (h:bO P r ops Q nt D rest ((d,aH ((min m n:Nat):Int))::fr) B (fi L i (.box (cs.take off++es.take (min m n * sz)++cs.drop (off+min m n * sz)) e'))):
  bO P r ops Q nt D (⟨some d,.call ⟨.builtin .copy,#[x,y],#[t,t']⟩,ty,pos,af,none⟩::rest) fr B L:=
 cU hd rfl (zO i (bq ok ht).1 hx hy hL hfit) fun c L' ⟨h1,h2⟩=>by subst h1;subst h2;exact h
end
end Go.Proofs.YtpbinloeemebkaaGreat
