/-
  Steps: cells of a row copied into a row that is written.
-/
import Derived.Test.YtamjlkdanllgjaaGreatDoorM14
import Derived.Laws.CopyRow
import Derived.Test.YtamjlkdanllgjaaGreatDoorM17
import Derived.Test.YtamjlkdanllgjaaGreatDoorM08
import Derived.Test.YtamjlkdanllgjaaGreatDoorM06
import Derived.Test.YtamjlkdanllgjaaGreatDoorM21
import Derived.Test.YtamjlkdanllgjaaGreatDoorM12
import Derived.Test.YtamjlkdanllgjaaGreatDoorM16
namespace Go.Proofs.YtamjlkdanllgjaaGreatDoor
open Go.RowKit
section
variable {P:Program} {fr:bP} {B:Bs} {L:AL} {ty t t':TypeId} {pos:String} {af:Array Edge} {g:Option (Nat×Bool)} {x y:Operand}
theorem Ao (i:Nat) {dd:Option Tmp} {e e' sz by_ b off n c m:Nat} {cs es:List AV} (hc:jE P t e sz by_) (hx:bc fr x=some (.sc (.slice (some ⟨b,off,none⟩) n c))) (hy:rY fr B L y sz m es) (hL:L[i]?=some (b,.box cs e')) (hfit:off+min m n * sz≤cs.length):
  AO P ⟨dd,.call ⟨.builtin .copy,#[x,y],#[t,t']⟩,ty,pos,af,g⟩ fr B L (fun r L'=>r=aF ((min m n:Nat):Int)∧L'=f3 L i (.box (cs.take off++es.take (min m n * sz)++cs.drop (off+min m n * sz)) e')):=by
 intro σ ρ w hρ hw
 obtain ⟨A,c2,ys,hA,hyr,hy1,hyl,hyc⟩:=hy σ ρ w hρ hw
 have hxv:=(hρ x _ hx).sc_inv
 haveI:=hc
 obtain ⟨inf,zz,hi,hsz,_,_,_⟩:=hc.info
 obtain ⟨vs,hb,hvs,h1⟩:=hw.boxCell hL
 have hl:=hvs.1
 have hmin:Nat.min m n=min m n:=rfl
 generalize hk:min m n=k at *
 have hlen:(ys.take (k * sz)).length=k * sz:=by
  rw [List.length_take,hyl]
  have:k≤m:=by omega
  have:=Nat.mul_le_mul_right sz this
  omega
 have hstore:=run_storeCells_at P b off e' (ys.take (k * sz)) 0 vs.toArray w hb (by rw [hlen];simp;omega) (fun v hv=>hy1 v (List.mem_of_mem_take hv))
 unfold gn
 rw [show (execOp ρ ⟨dd,.call ⟨.builtin .copy,#[x,y],#[t,t']⟩,ty,pos,af,g⟩).run P w= .ok (.value (.int .i64 k)) (w.setRow b (vs.toArray.toList.take off++ys.take (k * sz)++vs.toArray.toList.drop (off+(ys.take (k * sz)).length)).toArray) by
  by_cases hk0:k=0
  ·subst hk0
   simp only [Nat.zero_mul,List.take_zero,List.append_nil,List.length_nil,Nat.add_zero,List.take_append_drop] at hstore ⊢
   have h0:(Builtin.firstCells inf.size 0 (.slice A m c2)).run P w= .ok #[] w:=by
    cases A with
    | none=>rfl
    | some a=>
     have:=run_loadCells_list (P:=P) w a [] (by simp)
     simpa [Builtin.firstCells] using this
   simp [execOp,resolve,hxv,hA,invoke,builtin,Builtin.copy_,run_underlying hc.under,Builtin.lenOf,sizeOf,typeInfo,hi,hmin,h0,storeCells,goInt]
   exact (setRow_self w b vs.toArray e' (0,0) hb).symm
  ·have hm0:0 < m:=by omega
   obtain ⟨b2,off2,rfl,hcell⟩:=hyc hm0
   have hld:=run_loadCells_list (P:=P) w ⟨b2,off2,none⟩ (ys.take (k * sz)) (fun j v hj=>hcell j v (by
    have hjl:=(Mq hj).1
    rw [List.length_take] at hjl
    rw [List.getElem?_take_of_lt (by omega)] at hj
    exact hj))
   rw [hlen] at hld
   simp only [Nat.add_zero] at hstore
   simp [execOp,resolve,hxv,hA,invoke,builtin,Builtin.copy_,run_underlying hc.under,Builtin.lenOf,Builtin.firstCells,sizeOf,typeInfo,hi,hsz,hmin,hld,hstore,goInt]]
 rw [hlen]
 refine ⟨σ,.sc _,_,bW.le_refl _,.sc _,hw.putAt (a':= .box (cs.take off++es.take (k * sz)++cs.drop (off+k * sz)) e') hL (fun _=>trivial) ⟨rfl,rfl,rfl,by simp,fun k _ hk=>setRow_other w b k _ (fun e=>hk (by simp [e]))⟩ (setRow_heap w b _ _ e' _ hb) ⟨_,rfl,dx (dx (eR hvs _) (eR hyr _)) (iV hvs _),fun u hu=>?_⟩,rfl,rfl⟩
 rcases Mo hu with hu | hu
 ·rcases Mo hu with hu | hu
  ·exact h1 _ (List.mem_of_mem_take hu)
  ·exact hy1 _ (List.mem_of_mem_take hu)
 ·exact h1 _ (List.mem_of_mem_drop hu)
end
section
variable {P:Program} {tt:TT} {r:Option Nat} {ops:Array Oper} {Q:Exit→Act→World→Prop} {nt:Nat} {D:List Deferred} {fr:bP} {B:Bs} {L:AL} {rest:List Oper} {d:Nat} {ty t t':TypeId} {pos:String} {af:Array Edge} {x y:Operand}
theorem jg (ok:dG P tt) (i:Nat) {e e' sz by_ b off n c m:Nat} {cs es:List AV} (ht:iS tt t=some (e,sz,by_)) (hx:bc fr x=some (.sc (.slice (some ⟨b,off,none⟩) n c))) (hy:rY fr B L y sz m es) (hL:L[i]?=some (b,.box cs e')) (hfit:off+min m n * sz≤cs.length) (hd:Nat.ble nt d=false)
  (h:bz P r ops Q nt D rest ((d,aF ((min m n:Nat):Int))::fr) B (f3 L i (.box (cs.take off++es.take (min m n * sz)++cs.drop (off+min m n * sz)) e'))):
  bz P r ops Q nt D (⟨some d,.call ⟨.builtin .copy,#[x,y],#[t,t']⟩,ty,pos,af,none⟩::rest) fr B L:=
 ce hd rfl (Ao i (bv ok ht).1 hx hy hL hfit) fun c L' ⟨h1,h2⟩=>by subst h1;subst h2;exact h
end
end Go.Proofs.YtamjlkdanllgjaaGreatDoor
namespace Go.Proofs.YtamjlkdanllgjaaGreatDoor
open Go.RowKit
attribute [local irreducible] AT bz AX AO Av Kt aZ cY DA cu
set_option maxRecDepth 8000
theorem bM {l:List (List AV)} {sz:Nat} (hs:∀e∈l,e.length=sz):l.flatten.length=l.length * sz:=by
 induction l with
 | nil=>simp
 | cons x r ih=>rw [List.flatten_cons,List.length_append,ih (fun e he=>hs e (Mu _ he)),hs x (List.mem_cons_self ..),List.length_cons,Nat.add_mul,Nat.one_mul,Nat.add_comm]
theorem fD (n:Nat) (zs:List AV):(List.replicate n zs).flatten.length=n * zs.length:=by
 rw [bM (sz:=zs.length) (fun e he=>by rw [List.eq_of_mem_replicate he]),List.length_replicate]
theorem lh {zs es:List AV} {n sz:Nat} (h2:es.length=n * sz) (h:zs.length=sz):(List.replicate n zs).flatten.take 0++es.take (min n n * sz)++(List.replicate n zs).flatten.drop (0+min n n * sz)=es:=by
 have h1:=fD n zs
 rw [h] at h1
 rw [Nat.min_self,List.take_zero,Ms,Nat.zero_add,List.drop_of_length_le (by omega),List.append_nil,List.take_of_length_le (by omega)]
theorem Jo (l:List (List AV)) (hs:∀e∈l,e.length=2) (hl:l.length≤1000000):bD Tryz.prog 46 [.imm 2 l] (.imm 2 l):=by
 refine aI Tryz.func46 rfl Tryz.ntmps46 rfl fun B=>?_
 repeat' (first|refine ae ?_|refine a6 ?_|refine a8 ?_|refine aa ?_|refine LR a7 LL ?_)
 refine aB rfl (fun h=>?_) (fun h=>?_)
 ·have h0:l=[]:=List.length_eq_zero_iff.1 (by have:=Mz h;omega)
  subst h0
  clear h
  repeat' (first|refine ae ?_|refine a6 ?_|refine am ?_|refine a8 ?_|refine az ?_|refine aa ?_|refine LR a7 LL ?_)
  refine br (bE (t:=2) rfl fun σ v h=>dW 2 h) ?_
  exact LY LM
 ·clear h
  repeat' (first|refine ae ?_|refine a6 ?_|refine aq ?_|refine a8 ?_|refine LR a7 LL ?_)
  refine dS a7 l.length rfl rfl rfl rfl rfl rfl rfl (by omega) (by omega) rfl fun b=>?_
  repeat' (first|refine ae ?_|refine a6 ?_|refine a8 ?_|refine aa ?_|refine LR a7 LL ?_)
  refine jg a7 0 rfl rfl (f9 rfl rfl) rfl (by rw [fD,Nat.min_self,Nat.zero_add];exact Nat.le_refl _) rfl ?_
  rw [lh (bM hs)]
  ·repeat' (first|refine ae ?_|refine a6 ?_|refine am ?_|refine a8 ?_|refine aa ?_|refine LR a7 LL ?_)
   refine br (cP (t:=2) (sz:=2) (l:=l) 0 rfl rfl (List.take_of_length_le (by rw [bM hs];omega)) (by rw [bM hs];omega) hs rfl (Nat.le_refl _) (by unfold maxLen;omega)) ?_
   exact LY LM
  ·rfl
theorem uE (l:List (List AV)) (hs:∀e∈l,e.length=1) (hl:l.length≤1000000):bD Tryz.prog 50 [.imm 1 l] (.imm 1 l):=by
 refine aI Tryz.func50 rfl Tryz.ntmps50 rfl fun B=>?_
 repeat' (first|refine ae ?_|refine a6 ?_|refine a8 ?_|refine aa ?_|refine LR a7 LL ?_)
 refine aB rfl (fun h=>?_) (fun h=>?_)
 ·have h0:l=[]:=List.length_eq_zero_iff.1 (by have:=Mz h;omega)
  subst h0
  clear h
  repeat' (first|refine ae ?_|refine a6 ?_|refine am ?_|refine a8 ?_|refine az ?_|refine aa ?_|refine LR a7 LL ?_)
  refine br (bE (t:=2) rfl fun σ v h=>dW 1 h) ?_
  exact LY LM
 ·clear h
  repeat' (first|refine ae ?_|refine a6 ?_|refine aq ?_|refine a8 ?_|refine LR a7 LL ?_)
  refine dS a7 l.length rfl rfl rfl rfl rfl rfl rfl (by omega) (by omega) rfl fun b=>?_
  repeat' (first|refine ae ?_|refine a6 ?_|refine a8 ?_|refine aa ?_|refine LR a7 LL ?_)
  refine jg a7 0 rfl rfl (f9 rfl rfl) rfl (by rw [fD,Nat.min_self,Nat.zero_add];exact Nat.le_refl _) rfl ?_
  rw [lh (bM hs)]
  ·repeat' (first|refine ae ?_|refine a6 ?_|refine am ?_|refine a8 ?_|refine aa ?_|refine LR a7 LL ?_)
   refine br (cP (t:=2) (sz:=1) (l:=l) 0 rfl rfl (List.take_of_length_le (by rw [bM hs];omega)) (by rw [bM hs];omega) hs rfl (Nat.le_refl _) (by unfold maxLen;omega)) ?_
   exact LY LM
  ·rfl
theorem Jp (l:List (List AV)) (hs:∀e∈l,e.length=2) (hl:l.length≤1000000):bD Tryz.prog 79 [.imm 2 l] (.imm 2 l):=by
 refine aI Tryz.func79 rfl Tryz.ntmps79 rfl fun B=>?_
 repeat' (first|refine ae ?_|refine a6 ?_|refine a8 ?_|refine aa ?_|refine LR a7 LL ?_)
 refine aB rfl (fun h=>?_) (fun h=>?_)
 ·have h0:l=[]:=List.length_eq_zero_iff.1 (by have:=Mz h;omega)
  subst h0
  clear h
  repeat' (first|refine ae ?_|refine a6 ?_|refine am ?_|refine a8 ?_|refine az ?_|refine aa ?_|refine LR a7 LL ?_)
  refine br (bE (t:=2) rfl fun σ v h=>dW 2 h) ?_
  exact LY LM
 ·clear h
  repeat' (first|refine ae ?_|refine a6 ?_|refine aq ?_|refine a8 ?_|refine LR a7 LL ?_)
  refine dS a7 l.length rfl rfl rfl rfl rfl rfl rfl (by omega) (by omega) rfl fun b=>?_
  repeat' (first|refine ae ?_|refine a6 ?_|refine a8 ?_|refine aa ?_|refine LR a7 LL ?_)
  refine jg a7 0 rfl rfl (f9 rfl rfl) rfl (by rw [fD,Nat.min_self,Nat.zero_add];exact Nat.le_refl _) rfl ?_
  rw [lh (bM hs)]
  ·repeat' (first|refine ae ?_|refine a6 ?_|refine am ?_|refine a8 ?_|refine aa ?_|refine LR a7 LL ?_)
   refine br (cP (t:=2) (sz:=2) (l:=l) 0 rfl rfl (List.take_of_length_le (by rw [bM hs];omega)) (by rw [bM hs];omega) hs rfl (Nat.le_refl _) (by unfold maxLen;omega)) ?_
   exact LY LM
  ·rfl
theorem G2 (l:List (List AV)) (hs:∀e∈l,e.length=2) (hl:l.length≤1000000):bD Tryz.prog 80 [.imm 2 l] (.imm 2 l):=by
 refine aI Tryz.func80 rfl Tryz.ntmps80 rfl fun B=>?_
 repeat' (first|refine ae ?_|refine a6 ?_|refine a8 ?_|refine aa ?_|refine LR a7 LL ?_)
 refine aB rfl (fun h=>?_) (fun h=>?_)
 ·have h0:l=[]:=List.length_eq_zero_iff.1 (by have:=Mz h;omega)
  subst h0
  clear h
  repeat' (first|refine ae ?_|refine a6 ?_|refine am ?_|refine a8 ?_|refine az ?_|refine aa ?_|refine LR a7 LL ?_)
  refine br (bE (t:=2) rfl fun σ v h=>dW 2 h) ?_
  exact LY LM
 ·clear h
  repeat' (first|refine ae ?_|refine a6 ?_|refine aq ?_|refine a8 ?_|refine LR a7 LL ?_)
  refine dS a7 l.length rfl rfl rfl rfl rfl rfl rfl (by omega) (by omega) rfl fun b=>?_
  repeat' (first|refine ae ?_|refine a6 ?_|refine a8 ?_|refine aa ?_|refine LR a7 LL ?_)
  refine jg a7 0 rfl rfl (f9 rfl rfl) rfl (by rw [fD,Nat.min_self,Nat.zero_add];exact Nat.le_refl _) rfl ?_
  rw [lh (bM hs)]
  ·repeat' (first|refine ae ?_|refine a6 ?_|refine am ?_|refine a8 ?_|refine aa ?_|refine LR a7 LL ?_)
   refine br (cP (t:=2) (sz:=2) (l:=l) 0 rfl rfl (List.take_of_length_le (by rw [bM hs];omega)) (by rw [bM hs];omega) hs rfl (Nat.le_refl _) (by unfold maxLen;omega)) ?_
   exact LY LM
  ·rfl
theorem HQ (l:List (List AV)) (hs:∀e∈l,e.length=3) (hl:l.length≤1000000):bD Tryz.prog 154 [.imm 3 l] (.imm 3 l):=by
 refine aI Tryz.func154 rfl Tryz.ntmps154 rfl fun B=>?_
 repeat' (first|refine ae ?_|refine a6 ?_|refine a8 ?_|refine aa ?_|refine LR a7 LL ?_)
 refine aB rfl (fun h=>?_) (fun h=>?_)
 ·have h0:l=[]:=List.length_eq_zero_iff.1 (by have:=Mz h;omega)
  subst h0
  clear h
  repeat' (first|refine ae ?_|refine a6 ?_|refine am ?_|refine a8 ?_|refine az ?_|refine aa ?_|refine LR a7 LL ?_)
  refine br (bE (t:=2) rfl fun σ v h=>dW 3 h) ?_
  exact LY LM
 ·clear h
  repeat' (first|refine ae ?_|refine a6 ?_|refine aq ?_|refine a8 ?_|refine LR a7 LL ?_)
  refine dS a7 l.length rfl rfl rfl rfl rfl rfl rfl (by omega) (by omega) rfl fun b=>?_
  repeat' (first|refine ae ?_|refine a6 ?_|refine a8 ?_|refine aa ?_|refine LR a7 LL ?_)
  refine jg a7 0 rfl rfl (f9 rfl rfl) rfl (by rw [fD,Nat.min_self,Nat.zero_add];exact Nat.le_refl _) rfl ?_
  rw [lh (bM hs)]
  ·repeat' (first|refine ae ?_|refine a6 ?_|refine am ?_|refine a8 ?_|refine aa ?_|refine LR a7 LL ?_)
   refine br (cP (t:=2) (sz:=3) (l:=l) 0 rfl rfl (List.take_of_length_le (by rw [bM hs];omega)) (by rw [bM hs];omega) hs rfl (Nat.le_refl _) (by unfold maxLen;omega)) ?_
   exact LY LM
  ·rfl
theorem HR (l:List (List AV)) (hs:∀e∈l,e.length=3) (hl:l.length≤1000000):bD Tryz.prog 155 [.imm 3 l] (.imm 3 l):=by
 refine aI Tryz.func155 rfl Tryz.ntmps155 rfl fun B=>?_
 repeat' (first|refine ae ?_|refine a6 ?_|refine a8 ?_|refine aa ?_|refine LR a7 LL ?_)
 refine aB rfl (fun h=>?_) (fun h=>?_)
 ·have h0:l=[]:=List.length_eq_zero_iff.1 (by have:=Mz h;omega)
  subst h0
  clear h
  repeat' (first|refine ae ?_|refine a6 ?_|refine am ?_|refine a8 ?_|refine az ?_|refine aa ?_|refine LR a7 LL ?_)
  refine br (bE (t:=2) rfl fun σ v h=>dW 3 h) ?_
  exact LY LM
 ·clear h
  repeat' (first|refine ae ?_|refine a6 ?_|refine aq ?_|refine a8 ?_|refine LR a7 LL ?_)
  refine dS a7 l.length rfl rfl rfl rfl rfl rfl rfl (by omega) (by omega) rfl fun b=>?_
  repeat' (first|refine ae ?_|refine a6 ?_|refine a8 ?_|refine aa ?_|refine LR a7 LL ?_)
  refine jg a7 0 rfl rfl (f9 rfl rfl) rfl (by rw [fD,Nat.min_self,Nat.zero_add];exact Nat.le_refl _) rfl ?_
  rw [lh (bM hs)]
  ·repeat' (first|refine ae ?_|refine a6 ?_|refine am ?_|refine a8 ?_|refine aa ?_|refine LR a7 LL ?_)
   refine br (cP (t:=2) (sz:=3) (l:=l) 0 rfl rfl (List.take_of_length_le (by rw [bM hs];omega)) (by rw [bM hs];omega) hs rfl (Nat.le_refl _) (by unfold maxLen;omega)) ?_
   exact LY LM
  ·rfl
theorem HS (l:List (List AV)) (hs:∀e∈l,e.length=4) (hl:l.length≤1000000):bD Tryz.prog 156 [.imm 4 l] (.imm 4 l):=by
 refine aI Tryz.func156 rfl Tryz.ntmps156 rfl fun B=>?_
 repeat' (first|refine ae ?_|refine a6 ?_|refine a8 ?_|refine aa ?_|refine LR a7 LL ?_)
 refine aB rfl (fun h=>?_) (fun h=>?_)
 ·have h0:l=[]:=List.length_eq_zero_iff.1 (by have:=Mz h;omega)
  subst h0
  clear h
  repeat' (first|refine ae ?_|refine a6 ?_|refine am ?_|refine a8 ?_|refine az ?_|refine aa ?_|refine LR a7 LL ?_)
  refine br (bE (t:=2) rfl fun σ v h=>dW 4 h) ?_
  exact LY LM
 ·clear h
  repeat' (first|refine ae ?_|refine a6 ?_|refine aq ?_|refine a8 ?_|refine LR a7 LL ?_)
  refine dS a7 l.length rfl rfl rfl rfl rfl rfl rfl (by omega) (by omega) rfl fun b=>?_
  repeat' (first|refine ae ?_|refine a6 ?_|refine a8 ?_|refine aa ?_|refine LR a7 LL ?_)
  refine jg a7 0 rfl rfl (f9 rfl rfl) rfl (by rw [fD,Nat.min_self,Nat.zero_add];exact Nat.le_refl _) rfl ?_
  rw [lh (bM hs)]
  ·repeat' (first|refine ae ?_|refine a6 ?_|refine am ?_|refine a8 ?_|refine aa ?_|refine LR a7 LL ?_)
   refine br (cP (t:=2) (sz:=4) (l:=l) 0 rfl rfl (List.take_of_length_le (by rw [bM hs];omega)) (by rw [bM hs];omega) hs rfl (Nat.le_refl _) (by unfold maxLen;omega)) ?_
   exact LY LM
  ·rfl
end Go.Proofs.YtamjlkdanllgjaaGreatDoor
namespace Go.Proofs.YtamjlkdanllgjaaGreatDoor
open Go.RowKit
section
variable {P:Program} {tt:TT} {r:Option Nat} {ops:Array Oper} {Q:Exit→Act→World→Prop} {nt:Nat} {D:List Deferred} {fr:bP} {B:Bs} {L:AL} {rest:List Oper}
variable {d:Nat} {ty t:TypeId} {pos:String} {af:Array Edge} {x y:Operand} {u:AV}
theorem wg (kd:TypeDesc) {k:IntKind} {a:Int} {kt et:Nat} (ht:P.underlying t=some (.map kt et)) (hx:bc fr x=some (.sc (.int k a))) (h:∀b,bz P r ops Q nt D rest ((d,.sc (.map (some b)))::fr) B ((b,bV kd fun _=>none)::L)) (hd:Nat.ble nt d=false:=by rfl):bz P r ops Q nt D (⟨some d,.makeMap t (some x),ty,pos,af,none⟩::rest) fr B L:=by
 refine ce (R:=fun c L'=>∃b,c= .sc (.map (some b))∧L'=(b,bV kd fun _=>none)::L) hd rfl (fun σ ρ w hρ hw=>?_) fun c L' ⟨b,h1,h2⟩=>by subst h1;subst h2;exact h b
 have hr:(execOp ρ ⟨some d,.makeMap t (some x),ty,pos,af,none⟩).run P w= .ok (.value (.map (some w.heap.size))) (w.alloc (.map #[] 0)):=by
  simp [execOp,Instr.makeMap,(hρ x _ hx).sc_inv,run_underlying ht,asInt,asIntOf]
 unfold gn
 rw [hr]
 exact ⟨σ,_,_,bW.le_refl _,.sc _,hw.alloc _ (bV kd fun _=>Option.none) ⟨#[],0,rfl,by simp,by simp,by simp⟩,_,rfl,rfl⟩
end
end Go.Proofs.YtamjlkdanllgjaaGreatDoor
namespace Go.Proofs.YtamjlkdanllgjaaGreatDoor
open Go.RowKit
attribute [local irreducible] AT bz AX AO Av Kt aZ cY DA cu
set_option maxRecDepth 8000
def Hc (cs:List dh) (r:Int):Int:=((cs.find? fun c=>decide (c.Rune=r)).map dh.Glyph).getD 0
def u5 (cs:List dh):Value→Option AV
 | .int .i64 r=>(cs.find? fun c=>decide (c.Rune=r)).map fun c=>aF c.Glyph
 | _=>none
theorem Hb (cs:List dh) (r:Int):(u5 cs (.int .i64 r)).getD (.sc (.int .i64 0))=aF (Hc cs r):=by
 show ((cs.find? fun c=>decide (c.Rune=r)).map fun c=>aF c.Glyph).getD (.sc (.int .i64 0))=aF (((cs.find? fun c=>decide (c.Rune=r)).map dh.Glyph).getD 0)
 cases cs.find? fun c=>decide (c.Rune=r) <;> rfl
theorem n6 (cs:List dh) (c:dh) (r:Int):(cs++[c]).find? (fun c=>decide (c.Rune=r))=((cs.find? fun c=>decide (c.Rune=r)) <|> if c.Rune=r then some c else none):=by
 rw [List.find?_append]
 cases cs.find? fun c=>decide (c.Rune=r) with
 | some _=>simp
 | none=>by_cases h:c.Rune=r <;> simp [h]
theorem EE {cs:List dh} {c:dh} (h:(u5 cs (.int .i64 c.Rune)).isSome=true):u5 (cs++[c])=u5 cs:=by
 funext v
 unfold u5 at h ⊢
 split
 ·rename_i r
  rw [n6]
  cases hf:cs.find? fun c=>decide (c.Rune=r) with
  | some _=>simp
  | none=>
   have hne:c.Rune≠r:=fun e=>by rw [←e] at hf;simp [hf] at h
   simp [hne]
 ·rfl
theorem ED {cs:List dh} {c:dh} (h:(u5 cs (.int .i64 c.Rune)).isSome=false):u5 (cs++[c]) (.int .i64 c.Rune)=some (aF c.Glyph):=by
 unfold u5 at h ⊢
 dsimp only at h ⊢
 rw [n6]
 cases hf:cs.find? fun d=>decide (d.Rune=c.Rune) with
 | some _=>rw [hf] at h;simp at h
 | none=>simp
theorem yL {cs:List dh} {c:dh} (q:Value) (h:q≠ .int .i64 c.Rune):u5 (cs++[c]) q=u5 cs q:=by
 unfold u5
 split
 ·rename_i r
  have hne:c.Rune≠r:=fun e=>h (by rw [e])
  rw [n6,if_neg hne]
  cases cs.find? fun c=>decide (c.Rune=r) <;> rfl
 ·rfl
def fT (cs:List dh) (rs:List Int) (a:Nat):aM:=⟨Hc cs (rs.getD a 0),a,(ei rs).getD a 0,0,0,0⟩
def cU (f:aS) (rs:List Int):List aM:=(dv rs).map (fT f.Chars rs)
def JQ (m:f0) (run:List aM):Prop:=run.length≤m.cap∧m.cap≤maxLen∧(bO run++m.junk).length=m.cap * 6
set_option maxHeartbeats 8000000 in
theorem D8 (f:aS) (rs:List Int) (hr:rs.length≤1000000) (h20:qQ rs) (hc:f.Chars.length≤1000000):AC Tryz.prog 15 [cD f,.imm 1 (aT rs)] [] fun c L=>∃q,cS q (cU f rs)∧c=cG q (cU f rs)∧L=dw q (cU f rs):=by
 refine aI Tryz.func15 rfl Tryz.ntmps15 rfl fun B=>?_
 have hil:=b7 rs
 have hcl:(f.Chars.map eE).length=f.Chars.length:=Mv ..
 have hol:=b7 ((dv rs).map fun (n:Nat)=>(n:Int))
 rw [Mv] at hol
 have hok:=iN rs
 have hfl:=rl rs
 haveI:=AD.mk (rk rs hr)
 haveI:=AD.mk (zg rs hr h20)
 repeat' (first|refine ae ?_|refine a6 ?_|refine a8 ?_|refine aa ?_|refine LR a7 LL ?_|refine bi ?_|fail)
 refine wg (.int .i64) Tryz.underlying96 rfl fun mb=>?_
 repeat' (first|refine ae ?_|refine a6 ?_|refine ar ?_|refine a8 ?_|refine aa ?_|refine LR a7 LL ?_)
 refine aN [1,5,19,20] (α:=Nat) (fun i=>[(21,aF i)]) (fun i=>i≤f.Chars.length) (fun i=>[(mb,bV (.int .i64) (u5 (f.Chars.take i)))]) (fun i=>f.Chars.length - i) 0 rfl ⟨rfl,trivial⟩ (Nat.zero_le _) (fun σ w h=>?_) fun i hi=>?_
 ·rw [show u5 (f.Chars.take 0)=fun _=>none from funext fun v=>by
   unfold u5
   split <;> rfl]
  exact h
 try dsimp only [Mt,Ms,Mr,Mn]
 repeat' (first|refine ae ?_|refine a6 ?_|refine a8 ?_|refine aa ?_|refine LR a7 LL ?_)
 refine aB rfl (fun h=>?_) (fun h=>?_)
 ·have hil:i < f.Chars.length:=by have:=Mz h;omega
  obtain ⟨t,ht⟩:∃z,f.Chars[i]?=some z:=⟨_,Ia hil⟩
  have htg:=c6 (c:=eE) ht
  have hsucc:f.Chars.take (i+1)=f.Chars.take i++[t]:=by rw [List.take_add_one,ht];rfl
  clear h
  generalize f.Chars.take i=cs at *
  repeat' (first|refine ae ?_|refine a6 ?_|refine ar ?_|refine aq ?_|refine a8 ?_|refine aa ?_|refine LR a7 LL ?_|(apply aL;first|refine aK a7 ?_|refine aH a7 ?_)|(apply aU;first|refine LT 7 a7 0 LQ ?_|refine LT 7 a7 1 LQ ?_|refine LT 7 a7 2 LQ ?_|refine LU a7 0 LP ?_|refine LU a7 1 LP ?_|refine LU a7 2 LP ?_|refine LU a7 3 LP ?_|fail)|refine bf a7 fun _=>?_|fail)
  refine ge 0 (.int .i64 0) Tryz.underlying96 Tryz.underlying3 rfl rfl rfl rfl (by kernel_rfl) rfl ?_
  cases hm:(u5 cs (.int .i64 t.Rune)).isSome with
  | true=>
   rw [←EE hm] at *
   repeat' (first|refine ae ?_|refine a6 ?_|refine aq ?_|refine a8 ?_|refine aP ?_|refine aa ?_|refine LR a7 LL ?_|(apply aY;refine aX ?_)|refine bo rfl ?_)
   exact aE (i+1) rfl ⟨by rw [Mw];rfl,trivial⟩ hil (by omega) (fun _ _ h=>by rw [hsucc];exact h)
  | false=>
   repeat' (first|refine ae ?_|refine a6 ?_|refine a8 ?_|refine aa ?_|refine LR a7 LL ?_|refine bI rfl ?_)
   refine cZ 0 (u5 (cs++[t])) Tryz.underlying96 Tryz.underlying3 rfl rfl rfl rfl rfl (ED hm) yL ?_
   repeat' (first|refine a6 ?_|refine a8 ?_|refine aP ?_|refine aa ?_|refine LR a7 LL ?_|(apply aY;refine aX ?_)|fail)
   exact aE (i+1) rfl ⟨by rw [Mw];rfl,trivial⟩ hil (by omega) (fun _ _ h=>by rw [hsucc];exact h)
 have hil2:i=f.Chars.length:=by have:=My h;omega
 subst hil2
 rw [List.take_length]
 clear h
 repeat' (first|refine ae ?_|refine a6 ?_|refine aO ?_|refine a8 ?_|refine av ?_|refine aC ?_|refine aA ?_|refine aa ?_|refine LR a7 LL ?_|(apply bk;refine b9 ?_)|fail)
 refine um a7 rs.length rfl rfl rfl rfl rfl (by rw [hil]) (by omega) (by omega) rfl fun b=>?_
 repeat' (first|refine ae ?_|refine a6 ?_|refine ar ?_|refine a8 ?_|refine aa ?_|refine LR a7 LL ?_|(apply bk;refine b9 ?_)|fail)
 refine aN [1,5,10,46,47] (α:=Nat×f0) (fun s=>[(11,cG (some s.2) (((dv rs).take s.1).map (fT f.Chars rs))),(48,aF s.1)]) (fun s=>s.1≤(dv rs).length∧JQ s.2 (((dv rs).take s.1).map (fT f.Chars rs))) (fun s=>dw (some s.2) (((dv rs).take s.1).map (fT f.Chars rs))++[(mb,bV (.int .i64) (u5 f.Chars))]) (fun s=>(dv rs).length - s.1) (0,⟨b,rs.length,(List.replicate rs.length [aF 0,aF 0,aF 0,aF 0,aF 0,aF 0]).flatten⟩) rfl ⟨rfl,rfl,trivial⟩ ⟨Nat.zero_le _,Nat.zero_le _,by unfold maxLen;dsimp only;omega,?_⟩ (fun _ _ h=>h) ?_
 ·show ([]++(List.replicate rs.length _).flatten).length=_
  rw [Ms,bM (sz:=6) (fun e he=>by rw [List.eq_of_mem_replicate he];rfl),List.length_replicate]
 rintro ⟨i,m⟩ ⟨hi,hm1,hm2,hm3⟩
 dsimp only at hi hm1 hm2 hm3 ⊢
 try dsimp only [Mt,Ms,Mr,Mn]
 repeat' (first|refine ae ?_|refine a6 ?_|refine a8 ?_|refine aa ?_|refine LR a7 LL ?_)
 refine aB rfl (fun h=>?_) (fun h=>?_)
 ·have hil:i < (dv rs).length:=by have:=Mz h;omega
  obtain ⟨a,ha⟩:∃z,(dv rs)[i]?=some z:=⟨_,Ia hil⟩
  have hag:=bH (l:=(dv rs).map fun (n:Nat)=>(n:Int)) (i:=i) (z:=(a:Int)) (by rw [List.getElem?_map,ha];rfl)
  have halt:a < rs.length:=hok.2 a (Mx ha)
  have hrg:=bH (ea halt)
  have hfg:=bH (ea (l:=ei rs) (i:=a) (by omega))
  have hsucc:((dv rs).take (i+1)).map (fT f.Chars rs)=((dv rs).take i).map (fT f.Chars rs)++[fT f.Chars rs a]:=by rw [List.take_add_one,ha,List.map_append];rfl
  have hel:(((dv rs).take i).map (fT f.Chars rs)).length=i:=by rw [Mv,List.length_take];omega
  have hgl:=Hb f.Chars (rs.getD a 0)
  clear h
  generalize ((dv rs).take i).map (fT f.Chars rs)=es at *
  have hfe:=cJ es
  unfold cG dw
  dsimp only
  repeat' (first|refine ae ?_|refine a6 ?_|refine ar ?_|refine aq ?_|refine a8 ?_|refine aa ?_|refine LR a7 LL ?_|(apply aL;first|refine aK a7 ?_|refine aH a7 ?_)|fail)
  refine bB 14 [(0,.v),(1,.v),(2,.v),(3,.v),(4,.v),(5,.v),(7,.v),(8,.v),(9,.v),(10,.v),(11,.v),(6,.e),(12,.v),(13,.v)] none ?_ trivial rfl (by kernel_rfl) (by kernel_rfl) (by kernel_rfl) mixed (by kernel_rfl) rfl
  repeat' (first|refine aJ ?_|refine bw a7 ?_|(apply cq;refine cQ a7 ?_)|fail)
  refine lX 1 (.int .i64 0) Tryz.underlying96 Tryz.underlying3 rfl rfl rfl rfl (by kernel_rfl) trivial ?_
  rw [hgl]
  repeat' (first|refine aJ ?_|refine bw a7 ?_|refine kU a7 ?_|fail)
  refine MG [1,5,10,46,47,48,52,65] LL ?_
  repeat' (first|fail)
  refine rD a7 0 rfl rfl rfl rfl rfl rfl rfl hm3 hm1 hm2 (by unfold maxLen;omega) (by omega) rfl fun b' cs' cap' c1 c2 c3 c4=>?_
  rw [List.take_left' (show (bO es).length=es.length * 6 from hfe)] at c2
  repeat' (first|refine a6 ?_|refine a8 ?_|refine aP ?_|refine aa ?_|refine LR a7 LL ?_|(apply aY;refine aX ?_)|fail)
  have hcs:cs'=bO (es++[fT f.Chars rs a])++cs'.drop ((es.length+1) * 6):=by
   conv=>lhs;rw [←List.take_append_drop ((es.length+1) * 6) cs',c2]
   rw [g8]
   rfl
  have hel2:(es++[fT f.Chars rs a]).length=es.length+1:=by rw [List.length_append];rfl
  refine aE (i+1,⟨b',cap',cs'.drop ((es.length+1) * 6)⟩) rfl ⟨by dsimp only;rw [hsucc];rw [hel2];rfl,by rw [Mw];rfl,trivial⟩ ⟨hil,by dsimp only;rw [hsucc,hel2];omega,c4,by dsimp only;rw [hsucc,←hcs,c1]⟩ (by dsimp only;omega) (fun _ _ h=>by dsimp only;rw [hsucc];rw [←hcs];exact h)
 ·have hil:i=(dv rs).length:=by have:=My h;omega
  subst hil
  rw [List.take_length] at hm1 hm3 ⊢
  clear h
  repeat' (first|refine ae ?_|refine a6 ?_|refine am ?_|refine aO ?_|refine a8 ?_|refine av ?_|refine aC ?_|refine aA ?_|refine aa ?_|refine LR a7 LL ?_)
  refine ff (cs:=[cG (some m) (cU f rs)]) (dw (some m) (cU f rs)) ⟨rfl,trivial⟩ (List.sublist_append_left ..) ⟨some m,⟨fun h=>by (cases h),fun m' hm=>?_⟩,rfl,rfl⟩
  cases hm
  exact ⟨hm1,hm2,Nat.le_of_eq hm3.symm⟩
set_option maxRecDepth 8000
def Gi (run:List aM) (L0:AL):AV→AL→Prop:=fun c L=>∃q,cS q run∧c=cG q run∧L=dw q run++L0
theorem F9 (cs:List AV) (q:Option f0) (run:List aM) (hq:cS q run) (hr:run.length≤1000000):AC Tryz.prog 62 [.iptr cs,.imm 1 (aT []),.imm 1 (bj []),cG q run] (dw q run++[]) (Gi run []):=by
 refine aI Tryz.func62 rfl Tryz.ntmps62 rfl fun B=>?_
 have hcl:=vz run hr
 refine cm (kN (t:=3) hq rfl) ?_
 repeat' (first|refine ae ?_|refine a6 ?_|refine a8 ?_|refine aa ?_|refine LR a7 LL ?_)
 refine aW [] [] hcl rfl rfl (Mp _) rfl fun c L1 ⟨q',hq',hc,hL⟩=>?_
 subst hc;subst hL
 repeat' (first|refine ae ?_|refine a6 ?_|refine ar ?_|refine a8 ?_|refine aa ?_|refine LR a7 LL ?_)
 refine aN [2,9,17,18] (α:=Unit) (fun _=>[(19,aF 0),(3,cG q' run)]) (fun _=>True) (fun _=>dw q' run++[]) (fun _=>0) () rfl ⟨rfl,rfl,trivial⟩ trivial (fun _ _ h=>h) ?_
 rintro ⟨⟩ -
 try dsimp only [Mt,Ms,Mr,Mn]
 repeat' (first|refine ae ?_|refine a6 ?_|refine am ?_|refine aO ?_|refine a8 ?_|refine av ?_|refine aC ?_|refine aA ?_|refine aa ?_|refine LR a7 LL ?_|refine bo rfl ?_)
 exact MA LL ⟨q',hq',rfl,rfl⟩
set_option maxRecDepth 8000
def eo {β:Type} (e:β→AV) (l:List β) (i:Nat):List AV:=(l.take i).map e++List.replicate (l.length - i) (.sc (.slice none 0 0))
theorem ji {β:Type} (e:β→AV) (l:List β) {i:Nat} (hi:i≤l.length):(eo e l i).length=l.length:=by
 unfold eo
 rw [List.length_append,Mv,List.length_take,List.length_replicate]
 omega
theorem q6 {β:Type} (e:β→AV) {l:List β} {i:Nat} {z:β} (h:l[i]?=some z):(eo e l i).set i (e z)=eo e l (i+1):=by
 have hi:=(Mq h).1
 have hl:((l.take i).map e).length=i:=by rw [Mv,List.length_take];omega
 unfold eo
 rw [List.set_append_right _ _ (by omega),hl,Nat.sub_self,show l.length - i=(l.length - (i+1))+1 by omega,List.replicate_succ,List.set_cons_zero,List.take_add_one,h,List.map_append,List.append_assoc]
 rfl
theorem od {β:Type} (e:β→AV) (l:List β):(List.replicate l.length ([Value.slice none 0 0].map AV.sc)).flatten=eo e l 0:=by
 unfold eo
 simp
theorem q5 {β:Type} (e:β→AV) (l:List β):eo e l l.length=(l.map fun q=>[e q]).flatten:=by
 unfold eo
 rw [List.take_length,Nat.sub_self]
 simp only [List.replicate_zero,List.append_nil]
 induction l with
 | nil=>rfl
 | cons x r ih=>rw [Mr,ih];rfl
theorem ww (l:List (List Int)) (hl:l.length≤1000000) (hr:∀q∈l,q.length≤1000000):bD Tryz.prog 78 [.imm 1 (bj l)] (.imm 1 (bj l)):=by
 refine aI Tryz.func78 rfl Tryz.ntmps78 rfl fun B=>?_
 have hll:(bj l).length=l.length:=Mv ..
 repeat' (first|refine ae ?_|refine a6 ?_|refine a8 ?_|refine aa ?_|refine LR a7 LL ?_)
 refine dS a7 l.length rfl rfl rfl rfl rfl (by rw [hll]) (by rw [hll]) (by omega) (by omega) rfl fun b=>?_
 rw [show (List.replicate l.length (List.map AV.sc _)).flatten=eo (fun q:List Int=> .imm 1 (aT q)) l 0 from od _ _]
 repeat' (first|refine ae ?_|refine a6 ?_|refine ar ?_|refine a8 ?_|refine aa ?_|refine LR a7 LL ?_)
 refine aN [0,3,9] (α:=Nat) (fun i=>[(10,aF i)]) (fun i=>i≤l.length) (fun i=>[(b,.box (eo (fun q:List Int=> .imm 1 (aT q)) l i) _)]) (fun i=>l.length - i) 0 rfl ⟨rfl,trivial⟩ (Nat.zero_le _) (fun _ _ h=>h) fun i hi=>?_
 try dsimp only [Mt,Ms,Mr,Mn]
 repeat' (first|refine ae ?_|refine a6 ?_|refine a8 ?_|refine aa ?_|refine LR a7 LL ?_)
 refine aB rfl (fun h=>?_) (fun h=>?_)
 ·have hil:i < l.length:=by have:=Mz h;omega
  obtain ⟨z,hz⟩:∃z,l[i]?=some z:=⟨_,Ia hil⟩
  have hzg:(bj l)[i]?=some [(fun q:List Int=> .imm 1 (aT q)) z]:=by show (l.map _)[i]?=_;rw [List.getElem?_map,hz];rfl
  clear h
  repeat' (first|refine ae ?_|refine a6 ?_|refine ar ?_|refine aq ?_|refine a8 ?_|refine aa ?_|refine LR a7 LL ?_|(apply aL;first|refine aK a7 ?_|refine aH a7 ?_)|fail)
  refine b9 (hc:=⟨uE (aT z) (fun q hq=>by obtain ⟨y,_,rfl⟩:=List.mem_map.1 hq;rfl) (by rw [b7];exact hr z (Mx hz))⟩) ?_
  repeat' (first|(apply aL;first|refine aK a7 ?_|refine aH a7 ?_)|fail)
  refine k7 a7 0 i rfl rfl (by omega) rfl rfl rfl (by rw [ji _ _ hi];exact hil) ?_
  rw [show (eo (fun q:List Int=> .imm 1 (aT q)) l i).set i _=eo (fun q:List Int=> .imm 1 (aT q)) l (i+1) from q6 (fun q:List Int=> .imm 1 (aT q)) hz]
  repeat' (first|refine a6 ?_|refine a8 ?_|refine aP ?_|refine aa ?_|refine LR a7 LL ?_|(apply aY;refine aX ?_)|fail)
  exact aE (i+1) rfl ⟨by rw [Mw];rfl,trivial⟩ hil (by omega) (fun _ _ h=>h)
 ·have hil:i=l.length:=by have:=My h;omega
  subst hil
  repeat' (first|refine ae ?_|refine a6 ?_|refine am ?_|refine aO ?_|refine a8 ?_|refine av ?_|refine aC ?_|refine aA ?_|refine aa ?_|refine LR a7 LL ?_)
  have hfl:eo (fun q:List Int=> .imm 1 (aT q)) l l.length=(bj l).flatten:=q5 _ _
  have hcl:=ji (fun q:List Int=> .imm 1 (aT q)) l (Nat.le_refl _)
  refine br (cP (t:=2) (sz:=1) (l:=bj l) 0 rfl rfl (by rw [Nat.mul_one,List.take_of_length_le (by omega),hfl]) (by omega) (fun q hq=>by obtain ⟨y,_,rfl⟩:=List.mem_map.1 hq;rfl) hll (Nat.le_refl _) (by unfold maxLen;omega)) ?_
  exact LY LM
theorem HT (l:List (List eJ)) (hl:l.length≤1000000) (hr:∀q∈l,q.length≤1000000):bD Tryz.prog 49 [.imm 1 (l.map fy)] (.imm 1 (l.map fy)):=by
 refine aI Tryz.func49 rfl Tryz.ntmps49 rfl fun B=>?_
 have hll:(l.map fy).length=l.length:=Mv ..
 repeat' (first|refine ae ?_|refine a6 ?_|refine a8 ?_|refine aa ?_|refine LR a7 LL ?_)
 refine dS a7 l.length rfl rfl rfl rfl rfl (by rw [hll]) (by rw [hll]) (by omega) (by omega) rfl fun b=>?_
 rw [show (List.replicate l.length (List.map AV.sc _)).flatten=eo (fun q:List eJ=> .imm 2 (q.map fF)) l 0 from od _ _]
 repeat' (first|refine ae ?_|refine a6 ?_|refine ar ?_|refine a8 ?_|refine aa ?_|refine LR a7 LL ?_)
 refine aN [0,3,9] (α:=Nat) (fun i=>[(10,aF i)]) (fun i=>i≤l.length) (fun i=>[(b,.box (eo (fun q:List eJ=> .imm 2 (q.map fF)) l i) _)]) (fun i=>l.length - i) 0 rfl ⟨rfl,trivial⟩ (Nat.zero_le _) (fun _ _ h=>h) fun i hi=>?_
 try dsimp only [Mt,Ms,Mr,Mn]
 repeat' (first|refine ae ?_|refine a6 ?_|refine a8 ?_|refine aa ?_|refine LR a7 LL ?_)
 refine aB rfl (fun h=>?_) (fun h=>?_)
 ·have hil:i < l.length:=by have:=Mz h;omega
  obtain ⟨z,hz⟩:∃z,l[i]?=some z:=⟨_,Ia hil⟩
  have hzg:(l.map fy)[i]?=some [(fun q:List eJ=> .imm 2 (q.map fF)) z]:=by show (l.map _)[i]?=_;rw [List.getElem?_map,hz];rfl
  clear h
  repeat' (first|refine ae ?_|refine a6 ?_|refine ar ?_|refine aq ?_|refine a8 ?_|refine aa ?_|refine LR a7 LL ?_|(apply aL;first|refine aK a7 ?_|refine aH a7 ?_)|fail)
  refine b9 (hc:=⟨G2 (z.map fF) (fun q hq=>by obtain ⟨y,_,rfl⟩:=List.mem_map.1 hq;rfl) (by rw [Mv];exact hr z (Mx hz))⟩) ?_
  repeat' (first|(apply aL;first|refine aK a7 ?_|refine aH a7 ?_)|fail)
  refine k7 a7 0 i rfl rfl (by omega) rfl rfl rfl (by rw [ji _ _ hi];exact hil) ?_
  rw [show (eo (fun q:List eJ=> .imm 2 (q.map fF)) l i).set i _=eo (fun q:List eJ=> .imm 2 (q.map fF)) l (i+1) from q6 (fun q:List eJ=> .imm 2 (q.map fF)) hz]
  repeat' (first|refine a6 ?_|refine a8 ?_|refine aP ?_|refine aa ?_|refine LR a7 LL ?_|(apply aY;refine aX ?_)|fail)
  exact aE (i+1) rfl ⟨by rw [Mw];rfl,trivial⟩ hil (by omega) (fun _ _ h=>h)
 ·have hil:i=l.length:=by have:=My h;omega
  subst hil
  repeat' (first|refine ae ?_|refine a6 ?_|refine am ?_|refine aO ?_|refine a8 ?_|refine av ?_|refine aC ?_|refine aA ?_|refine aa ?_|refine LR a7 LL ?_)
  have hfl:eo (fun q:List eJ=> .imm 2 (q.map fF)) l l.length=(l.map fy).flatten:=q5 _ _
  have hcl:=ji (fun q:List eJ=> .imm 2 (q.map fF)) l (Nat.le_refl _)
  refine br (cP (t:=2) (sz:=1) (l:=l.map fy) 0 rfl rfl (by rw [Nat.mul_one,List.take_of_length_le (by omega),hfl]) (by omega) (fun q hq=>by obtain ⟨y,_,rfl⟩:=List.mem_map.1 hq;rfl) hll (Nat.le_refl _) (by unfold maxLen;omega)) ?_
  exact LY LM
end Go.Proofs.YtamjlkdanllgjaaGreatDoor
