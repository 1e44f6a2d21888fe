/-
  Maps of the call's own.
-/
import Derived.MapKept
import Derived.Test.YtpmdfoaadejmkaaGreatDoorM05
import Derived.Laws.StructEq
namespace Go.Proofs.YtpmdfoaadejmkaaGreatDoor
open Go.RowKit
section
open Go.MapKept
def lx (d:TypeDesc) (m:Value→Option AV) (σ:cF) (o:Obj):Prop:=
 ∃es clock,o= .map es clock∧(∀x∈es.toList,IsKey d x.key∧∃c,m x.key=some c∧VR σ c x.val)∧es.toList.Pairwise (fun x y=>x.key≠y.key)∧∀k c,m k=some c→∃x∈es.toList,x.key=k
def cx (d:TypeDesc) (m:Value→Option AV):AB:= .dep (lx d m) fun σ τ o hle ⟨es,clock,h1,h2,h3,h4⟩=>⟨es,clock,h1,fun x hx=>by
 obtain ⟨a,c,e,f⟩:=h2 x hx
 exact ⟨a,c,e,f.mono hle⟩,h3,h4⟩
theorem lx.none {d:TypeDesc} {m:Value→Option AV} {σ:cF} {es:Array MapEntry} {clock:Nat} {k:Value} (h:lx d m σ (.map es clock)) (hk:IsKey d k) (hm:m k=none):Instr.findNow d k es.toList 0=some none:=by
 obtain ⟨es',clock',h1,h2,h3,h4⟩:=h
 cases h1
 rcases findNow_spec hk es.toList 0 (fun x hx=>(h2 x hx).1) with ⟨h5,_⟩ | ⟨j,e,h5,h6,h7⟩
 ·exact h5
 ·obtain ⟨_,c,h8,_⟩:=h2 e (Nw h6)
  rw [h7,hm] at h8
  cases h8
theorem lx.some {d:TypeDesc} {m:Value→Option AV} {σ:cF} {es:Array MapEntry} {clock:Nat} {k:Value} {c:AV} (h:lx d m σ (.map es clock)) (hk:IsKey d k) (hm:m k=some c):∃(j:Nat) (e:MapEntry),Instr.findNow d k es.toList 0=some (some (j,e.val))∧es[j]?=some e∧e.key=k∧VR σ c e.val:=by
 obtain ⟨es',clock',h1,h2,h3,h4⟩:=h
 cases h1
 rcases findNow_spec hk es.toList 0 (fun x hx=>(h2 x hx).1) with ⟨_,h5⟩ | ⟨j,e,h5,h6,h7⟩
 ·obtain ⟨x,hx,hk'⟩:=h4 k c hm
  exact absurd hk' (h5 x hx)
 ·obtain ⟨_,c',h8,h9⟩:=h2 e (Nw h6)
  rw [h7,hm] at h8
  cases h8
  exact ⟨j,e,by simpa using h5,by simpa using h6,h7,h9⟩
section
variable {P:Program} {fr:cf} {B:Bs} {L:AL} {d:Option Tmp} {ty t:TypeId} {pos:String} {af:Array Edge} {g:Option (Nat×Bool)} {x y z:Operand} {u:AV}
theorem xZ (kd:TypeDesc):AO P ⟨d,.makeMap t none,ty,pos,af,g⟩ fr B L (fun c L'=>∃b,c= .sc (.map (some b))∧L'=(b,cx kd fun _=>none)::L):=by
 intro σ ρ w hρ hw
 have hr:(execOp ρ ⟨d,.makeMap t none,ty,pos,af,g⟩).run P w= .ok (.value (.map (some w.heap.size))) (w.alloc (.map #[] 0)):=by
  simp [execOp,Instr.makeMap]
 unfold j7
 rw [hr]
 exact ⟨σ,_,_,cF.le_refl _,.sc _,hw.alloc _ (cx kd fun _=>Option.none) ⟨#[],0,rfl,by simp,by simp,by simp⟩,_,rfl,rfl⟩
theorem uB (i:Nat) {b kt et:Nat} {kd:TypeDesc} {k:Value} {m m':Value→Option AV} (ht:P.underlying t=some (.map kt et)) (hkt:P.underlying kt=some kd) (hx:bE fr x=some (.sc (.map (some b)))) (hy:bE fr y=some (.sc k)) (hk:IsKey kd k) (hz:bE fr z=some u) (hL:L[i]?=some (b,cx kd m)) (h1:m' k=some u) (h2:∀q,q≠k→m' q=m q):
  AO P ⟨d,.mapUpdate t x y z,ty,pos,af,g⟩ fr B L (fun _ L'=>L'=fx L i (cx kd m')):=by
 intro σ ρ w hρ hw
 obtain ⟨o,ho,hM⟩:=hw.here _ (Nw hL)
 have hM':lx kd m σ o:=hM
 obtain ⟨es,clock,rfl,h3,h4,h5⟩:=hM'
 have hM':lx kd m σ (.map es clock):=hM
 have hv:=hρ z u hz
 have hlt:b < w.heap.size:=(Array.getElem?_eq_some_iff.1 ho).1
 have key:∃es' clock',(Instr.mapUpdate t (.map (some b)) k (ρ z)).run P w= .ok () (w.putObj b (.map es' clock'))∧lx kd m' σ (.map es' clock'):=by
  cases hm:m k with
  | none=>
   refine ⟨es.push ⟨k,ρ z,clock⟩,clock+1,?_,_,_,rfl,?_,?_,?_⟩
   ·simp [Instr.mapUpdate,run_underlying ht,MapKept.run_getObj_map ho,run_checkKey hkt hk,run_findKey hkt (hM'.none hk hm),MapKept.run_setObj_map _ ho,Result.andThen,World.putObj]
   ·intro e he
    rw [Array.toList_push,List.mem_append,List.mem_singleton] at he
    rcases he with he | rfl
    ·obtain ⟨h6,c,h7,h8⟩:=h3 e he
     exact ⟨h6,c,by rw [h2 _ (fun e1=>by rw [e1,hm] at h7;cases h7)];exact h7,h8⟩
    ·exact ⟨hk,u,h1,hv⟩
   ·rw [Array.toList_push,List.pairwise_append]
    refine ⟨h4,by simp,fun e he e' he'=>?_⟩
    rw [List.mem_singleton] at he'
    subst he'
    obtain ⟨_,c,h7,_⟩:=h3 e he
    exact fun e1=>by rw [e1,hm] at h7;cases h7
   ·intro q c hq
    by_cases e:q=k
    ·subst e
     exact ⟨_,by rw [Array.toList_push];exact List.mem_append.2 (Or.inr (List.mem_singleton.2 rfl)),rfl⟩
    ·rw [h2 q e] at hq
     obtain ⟨y,hy,hy'⟩:=h5 q c hq
     exact ⟨y,by rw [Array.toList_push];exact List.mem_append.2 (Or.inl hy),hy'⟩
  | some c=>
   obtain ⟨j,e,h6,h7,h8,h9⟩:=hM'.some hk hm
   have hdis:∀n e',es[n]?=some e'→¬j=n→e'.key≠k:=by
    intro n e' hn hne
    rw [←Array.getElem?_toList] at hn h7
    rw [←h8]
    rw [List.pairwise_iff_getElem] at h4
    obtain ⟨hj1,hj2⟩:=Np h7
    obtain ⟨hn1,hn2⟩:=Np hn
    rcases Nat.lt_or_gt_of_ne hne with hlt | hgt
    ·have:=h4 j n hj1 hn1 hlt
     rw [hj2,hn2] at this
     exact this.symm
    ·have:=h4 n j hn1 hj1 hgt
     rw [hj2,hn2] at this
     exact this
   refine ⟨es.modify j (fun e'=>{ e' with key:=k,val:=ρ z }),clock,?_,_,_,rfl,?_,?_,?_⟩
   ·simp [Instr.mapUpdate,run_underlying ht,MapKept.run_getObj_map ho,run_checkKey hkt hk,run_findKey hkt h6,h7,h8,run_keyThatStays hk,MapKept.run_setObj_map _ ho,Result.andThen,World.putObj]
   ·intro e' he'
    obtain ⟨n,hn⟩:=List.mem_iff_getElem?.1 he'
    rw [Array.getElem?_toList,Array.getElem?_modify] at hn
    by_cases e1:j=n
    ·subst e1
     rw [if_pos rfl,h7] at hn
     simp at hn
     subst hn
     exact ⟨hk,u,h1,hv⟩
    ·rw [if_neg e1] at hn
     obtain ⟨h10,c',h11,h12⟩:=h3 e' (Nw (by rw [Array.getElem?_toList];exact hn))
     exact ⟨h10,c',by rw [h2 _ (hdis n e' hn e1)];exact h11,h12⟩
   ·have hkeys:(es.modify j (fun e'=>{ e' with key:=k,val:=ρ z })).toList.map MapEntry.key=es.toList.map MapEntry.key:=by
     apply List.ext_getElem?
     intro n
     rw [List.getElem?_map,List.getElem?_map,Array.getElem?_toList,Array.getElem?_toList,Array.getElem?_modify]
     by_cases e1:j=n
     ·subst e1
      rw [if_pos rfl,h7]
      simp [h8]
     ·rw [if_neg e1]
    refine (List.pairwise_map (f:=MapEntry.key) (R:=fun a b:Value=>a≠b)).1 ?_
    rw [hkeys]
    exact List.pairwise_map.2 h4
   ·intro q c hq
    by_cases e1:q=k
    ·subst e1
     refine ⟨{ e with key:=q,val:=ρ z },List.mem_iff_getElem?.2 ⟨j,?_⟩,rfl⟩
     rw [Array.getElem?_toList,Array.getElem?_modify,if_pos rfl,h7]
     rfl
    ·rw [h2 q e1] at hq
     obtain ⟨y,hy,hy'⟩:=h5 q c hq
     obtain ⟨n,hn⟩:=List.mem_iff_getElem?.1 hy
     rw [Array.getElem?_toList] at hn
     refine ⟨y,List.mem_iff_getElem?.2 ⟨n,?_⟩,hy'⟩
     rw [Array.getElem?_toList,Array.getElem?_modify,if_neg,hn]
     intro e2
     subst e2
     rw [h7] at hn
     injection hn with hn
     subst hn
     exact e1 (hy'.symm.trans h8)
 obtain ⟨es',clock',hr,hq⟩:=key
 unfold j7
 rw [show (execOp ρ ⟨d,.mapUpdate t x y z,ty,pos,af,g⟩).run P w= .ok .skip (w.putObj b (.map es' clock')) by simp only [execOp,(hρ x _ hx).sc_inv,(hρ y _ hy).sc_inv,Sem.run_bind,Sem.run_pure,Result.andThen,hr]]
 exact ⟨σ,.sc undef,_,cF.le_refl _,.sc _,hw.putAt (a':=cx kd m') hL (fun _=>trivial) (mh w b _) (World.putObj_heap_same hlt) hq,rfl⟩
theorem sI {w:World} {b kt et:Nat} {kd:TypeDesc} {k v0:Value} {m:Value→Option AV} {es:Array MapEntry} {clock:Nat} {σ:cF} (ht:P.underlying t=some (.map kt et)) (hkt:P.underlying kt=some kd) (hk:IsKey kd k) (ho:w.heap[b]?=some (.map es clock)) (hM:lx kd m σ (.map es clock)) (hz:(zeroValue et).run P w= .ok v0 w) (ok:Bool):
  ∃v,(Instr.lookup t (.map (some b)) k ok).run P w= .ok (bif ok then .tuple #[v,.bool (m k).isSome] else v) w∧match m k with | some c=>VR σ c v | none=>v=v0:=by
 cases hm:m k with
 | none=>
  refine ⟨v0,?_,rfl⟩
  cases ok <;> simp [Instr.lookup,run_underlying ht,MapKept.run_getObj_map ho,run_checkKey hkt hk,run_findKey hkt (hM.none hk hm),Result.andThen,hz]
 | some c=>
  obtain ⟨j,e,h6,h7,h8,h9⟩:=hM.some hk hm
  refine ⟨e.val,?_,h9⟩
  cases ok <;> simp [Instr.lookup,run_underlying ht,MapKept.run_getObj_map ho,run_checkKey hkt hk,run_findKey hkt h6,Result.andThen]
theorem mG (i:Nat) {b kt et:Nat} {kd:TypeDesc} {k v0:Value} {m:Value→Option AV} {c0:AV} (ht:P.underlying t=some (.map kt et)) (hkt:P.underlying kt=some kd) (hx:bE fr x=some (.sc (.map (some b)))) (hy:bE fr y=some (.sc k)) (hk:IsKey kd k) (hL:L[i]?=some (b,cx kd m)) (hz:∀w,(zeroValue et).run P w= .ok v0 w) (h0:∀σ,VR σ c0 v0):
  AO P ⟨d,.lookup t x y false,ty,pos,af,g⟩ fr B L (fun c L'=>c=(m k).getD c0∧L'=L):=by
 intro σ ρ w hρ hw
 obtain ⟨o,ho,hM⟩:=hw.here _ (Nw hL)
 have hM':lx kd m σ o:=hM
 obtain ⟨es,clock,rfl,_⟩:=hM'
 obtain ⟨v,hr,hv⟩:=sI (t:=t) ht hkt hk ho hM (hz w) false
 unfold j7
 rw [show (execOp ρ ⟨d,.lookup t x y false,ty,pos,af,g⟩).run P w= .ok (.value v) w by simp only [execOp,(hρ x _ hx).sc_inv,(hρ y _ hy).sc_inv,Sem.run_bind,Sem.run_pure,Result.andThen,hr];rfl]
 refine ⟨σ,(m k).getD c0,_,cF.le_refl _,?_,hw,rfl,rfl⟩
 cases hm:m k with
 | none=>rw [hm] at hv;dsimp only at hv;subst hv;exact h0 σ
 | some c=>rw [hm] at hv;exact hv
theorem xY (i:Nat) {b kt et:Nat} {kd:TypeDesc} {k v0:Value} {m:Value→Option AV} {c0:AV} (ht:P.underlying t=some (.map kt et)) (hkt:P.underlying kt=some kd) (hx:bE fr x=some (.sc (.map (some b)))) (hy:bE fr y=some (.sc k)) (hk:IsKey kd k) (hL:L[i]?=some (b,cx kd m)) (hz:∀w,(zeroValue et).run P w= .ok v0 w) (h0:∀σ,VR σ c0 v0):
  AO P ⟨d,.lookup t x y true,ty,pos,af,g⟩ fr B L (fun c L'=>c= .tup [(m k).getD c0,.sc (.bool (m k).isSome)]∧L'=L):=by
 intro σ ρ w hρ hw
 obtain ⟨o,ho,hM⟩:=hw.here _ (Nw hL)
 have hM':lx kd m σ o:=hM
 obtain ⟨es,clock,rfl,_⟩:=hM'
 obtain ⟨v,hr,hv⟩:=sI (t:=t) ht hkt hk ho hM (hz w) true
 unfold j7
 rw [show (execOp ρ ⟨d,.lookup t x y true,ty,pos,af,g⟩).run P w= .ok (.value (.tuple #[v,.bool (m k).isSome])) w by simp only [execOp,(hρ x _ hx).sc_inv,(hρ y _ hy).sc_inv,Sem.run_bind,Sem.run_pure,Result.andThen,hr];rfl]
 refine ⟨σ,.tup [(m k).getD c0,.sc (.bool (m k).isSome)],_,cF.le_refl _,?_,hw,rfl,rfl⟩
 have h1:VR σ ((m k).getD c0) v:=by
  cases hm:m k with
  | none=>rw [hm] at hv;dsimp only at hv;subst hv;exact h0 σ
  | some c=>rw [hm] at hv;exact hv
 have h2:dI σ [(m k).getD c0,.sc (.bool (m k).isSome)] [v,.bool (m k).isSome]:= .cons h1 (.cons (.sc _) .nil)
 exact .tup _ _ h2.1 h2.2
def mC (P:Program) (e:Nat) (v:Value):Bool:=match P.info? e with | some i=>(match i.zero with | some z=>Bi z v | none=>false) | none=>false
theorem gS {e:Nat} {v:Value} (h:mC P e v=true) (w:World):(zeroValue e).run P w= .ok v w:=by
 unfold mC at h
 split at h
 ·rename_i i hi
  split at h
  ·rename_i z hz
   rw [←sW h]
   simp [zeroValue,typeInfo,hi,hz]
  ·cases h
 ·cases h
end
section
variable {P:Program} {r:Option Nat} {ops:Array Oper} {Q:Exit→Act→World→Prop} {nt:Nat} {D:List Deferred} {fr:cf} {B:Bs} {L:AL} {rest:List Oper} {d:Nat} {ty t:TypeId} {pos:String} {af:Array Edge} {x y z:Operand} {u:AV}
theorem eV (kd:TypeDesc) (h:∀b,bP P r ops Q nt D rest ((d,.sc (.map (some b)))::fr) B ((b,cx kd fun _=>none)::L)) (hd:Nat.ble nt d=false:=by rfl):bP P r ops Q nt D (⟨some d,.makeMap t none,ty,pos,af,none⟩::rest) fr B L:=
 cT hd rfl (xZ kd) fun c L' ⟨b,h1,h2⟩=>by subst h1;subst h2;exact h b
theorem dg (i:Nat) (m':Value→Option AV) {b kt et:Nat} {kd:TypeDesc} {k:Value} {m:Value→Option AV} (ht:P.underlying t=some (.map kt et)) (hkt:P.underlying kt=some kd) (hx:bE fr x=some (.sc (.map (some b)))) (hy:bE fr y=some (.sc k)) (hk:IsKey kd k) (hz:bE fr z=some u) (hL:L[i]?=some (b,cx kd m)) (h1:m' k=some u) (h2:∀q,q≠k→m' q=m q)
  (h:bP P r ops Q nt D rest fr B (fx L i (cx kd m'))):bP P r ops Q nt D (⟨none,.mapUpdate t x y z,ty,pos,af,none⟩::rest) fr B L:=
 lR rfl (uB i ht hkt hx hy hk hz hL h1 h2) fun c L' h3=>by subst h3;exact h
theorem iP (i:Nat) (v0:Value) {b kt et:Nat} {kd:TypeDesc} {k:Value} {m:Value→Option AV} (ht:P.underlying t=some (.map kt et)) (hkt:P.underlying kt=some kd) (hx:bE fr x=some (.sc (.map (some b)))) (hy:bE fr y=some (.sc k)) (hk:IsKey kd k) (hL:L[i]?=some (b,cx kd m)) (hz:mC P et v0=true) (hd:Nat.ble nt d=false)
  (h:bP P r ops Q nt D rest ((d,(m k).getD (.sc v0))::fr) B L):bP P r ops Q nt D (⟨some d,.lookup t x y false,ty,pos,af,none⟩::rest) fr B L:=
 cT hd rfl (mG i ht hkt hx hy hk hL (gS hz) fun _=> .sc _) fun c L' ⟨h1,h2⟩=>by subst h1;subst h2;exact h
theorem jq (i:Nat) (v0:Value) {b kt et:Nat} {kd:TypeDesc} {k:Value} {m:Value→Option AV} (ht:P.underlying t=some (.map kt et)) (hkt:P.underlying kt=some kd) (hx:bE fr x=some (.sc (.map (some b)))) (hy:bE fr y=some (.sc k)) (hk:IsKey kd k) (hL:L[i]?=some (b,cx kd m)) (hz:mC P et v0=true) (hd:Nat.ble nt d=false)
  (h:bP P r ops Q nt D rest ((d,.tup [(m k).getD (.sc v0),.sc (.bool (m k).isSome)])::fr) B L):bP P r ops Q nt D (⟨some d,.lookup t x y true,ty,pos,af,none⟩::rest) fr B L:=
 cT hd rfl (xY i ht hkt hx hy hk hL (gS hz) fun _=> .sc _) fun c L' ⟨h1,h2⟩=>by subst h1;subst h2;exact h
end
end
section
variable {P:Program} {tt:TT} {r:Option Nat} {ops:Array Oper} {Q:Exit→Act→World→Prop} {nt:Nat} {D:List Deferred} {fr:cf} {B:Bs} {L:AL} {rest:List Oper} {d:Nat} {ty t:TypeId} {pos:String} {af:Array Edge} {x y z:Operand} {u:AV}
theorem lg (ok:eF P tt) (n:Nat) {e sz by_:Nat} {k k':IntKind} {a b:Int} {zs:List Value} (ht:jP tt t=some (e,sz,by_)) (hz:zI tt e=some zs) (h1:zs.all (·.oneCell')=true) (hx:bE fr x=some (.sc (.int k a))) (hy:bE fr y=some (.sc (.int k' b))) (ha:a=(n:Int)) (hb:b=(n:Int)) (hby:by_ * n≤281474976710656) (h63:n≤9223372036854775807) (hd:Nat.ble nt d=false)
  (h:∀b,bP P r ops Q nt D rest ((d,.sc (.slice (some ⟨b,0,none⟩) n n))::fr) B ((b,.box ((List.replicate n (zs.map .sc)).flatten) e)::L)):bP P r ops Q nt D (⟨some d,.makeSlice t x y,ty,pos,af,none⟩::rest) fr B L:=
 cT hd rfl (A6 (bB ok ht).1 (dX ok hz) h1 (bB ok ht).2 hx hy ha hb hby h63) fun c L' ⟨b,h1,h2⟩=>by subst h1;subst h2;exact h b
theorem b7 {f:FuncId} {args:Array Operand} {ts:Array TypeId} {cs ds:List AV} {Post:AV→AL→Prop} [bS P f] (Lc Lf:AL) (hc:AC P f ds Lc Post) (hv:eP fr args.toList=some cs) (hi:n9 cs=some ds) (hL:L.Perm (Lc++Lf)) (hd:Nat.ble nt d=false) (h:∀c L1,Post c L1→bP P r ops Q nt D rest ((d,c)::fr) B (L1++Lf)):
  bP P r ops Q nt D (⟨some d,.call ⟨.value (.func f),args,ts⟩,ty,pos,af,none⟩::rest) fr B L:=by
 have hc':=hc
 rw [←jY hi] at hc'
 refine cT hd rfl (r3 Lc Lf hv (fun σ vs h=>h.im) hL hc') fun c L' hh=>?_
 obtain ⟨L1,h1,h2⟩:=hh
 subst h2
 exact h c L1 h1
theorem re {σ0:cF} {l:Nat} {args:Array Operand} {ts:Array TypeId} {cs ds:List AV} {Post:AV→AL→Prop} (Lc Lf:AL) (hB:σ0.le B.σ) (hc:AY P σ0 l ds Lc Post) (hz:bE fr z=some (.sc (.func (.yield l) #[] #[]))) (hv:eP fr args.toList=some cs) (hi:n9 cs=some ds) (hL:L.Perm (Lc++Lf)) (hn:Oper.noDefer ⟨some d,.call ⟨.value z,args,ts⟩,ty,pos,af,none⟩=true) (hd:Nat.ble nt d=false) (h:∀c L1,Post c L1→bP P r ops Q nt D rest ((d,c)::fr) B (L1++Lf)):
  bP P r ops Q nt D (⟨some d,.call ⟨.value z,args,ts⟩,ty,pos,af,none⟩::rest) fr B L:=by
 have hc':=hc
 rw [←jY hi] at hc'
 refine cT hd hn (E4 hB Lc Lf hz hv (fun σ vs h=>h.im) hL hc') fun c L' hh=>?_
 obtain ⟨L1,h1,h2⟩:=hh
 subst h2
 exact h c L1 h1
theorem ea {e:Exit} {L':AL} (hs:L'.Sublist L) (h:AX P e Q nt D fr B L'):AX P e Q nt D fr B L:=fun σ a w ha hw=>h σ a w ha (hw.sublist hs)
end
theorem IB {σ:cF} {cs cs':List AV} {vs:List Value} (hl:cs.length=cs'.length) (h:∀(i:Nat) c c',cs[i]?=some c→cs'[i]?=some c'→∀v,VR σ c v→VR σ c' v) (hv:dI σ cs vs):dI σ cs' vs:=by
 refine ⟨hl.symm.trans hv.1,fun i c' u hc hu=>?_⟩
 have hi:i < cs.length:=by rw [hl];exact (Np hc).1
 exact h i _ c' (Nz hi) hc _ (hv.2 i _ u (Nz hi) hu)
theorem bL {nt:Nat} {D:List Deferred} {B:Bs} {fr:cf} {L:AL} (i:Nat) {b:Nat} {cs cs':List AV} {e:TypeId} (hL:L[i]?=some (b,.box cs e)) (h:∀σ vs,dI σ cs vs→dI σ cs' vs):lP nt D B fr L fr (fx L i (.box cs' e)):=by
 intro σ a w ha hw0
 have hw:=hw0.perm (fq hL)
 obtain ⟨o,ho,vs,rfl,hvs,h1⟩:=hw.here _ (List.mem_cons_self ..)
 refine ⟨σ,ha,dw.perm (L:=(b,.box cs' e)::L.eraseIdx i) ?_ (tf _ hL)⟩
 refine ⟨hw.os,hw.tape,hw.output,hw.size,hw.old,fun p hp=>?_,fun p hp=>?_,by simpa using hw.apart,hw.froz,fun p hp off hm=>?_,hw.grow,hw.same⟩
 ·rcases List.mem_cons.1 hp with rfl | hp'
  ·exact ⟨_,ho,vs,rfl,h σ vs hvs,h1⟩
  ·exact hw.here p (Nt _ hp')
 ·rcases List.mem_cons.1 hp with rfl | hp'
  ·exact hw.mine (b,.box cs e) (List.mem_cons_self ..)
  ·exact hw.mine p (Nt _ hp')
 ·rcases List.mem_cons.1 hp with rfl | hp'
  ·exact hw.free (b,.box cs e) (List.mem_cons_self ..) off trivial
  ·exact hw.free p (Nt _ hp') off hm
theorem fT {cs:List AV} {k:Nat} {c:AV}:fS cs k [c]=cs.set k c:=rfl
def lG (u:AV):Option (FuncId×List AV):=match u with
 | .fn f cs=>some (f,cs)
 | .sc (.func (.func f) a b)=>match a.toList with
  | []=>match b.toList with
   | []=>some (f,[])
   | _=>none
  | _=>none
 | _=>none
theorem EW {u:AV} {f:FuncId} {cs:List AV} (h:lG u=some (f,cs)) {σ:cF} {v:Value} (hv:VR σ u v):VR σ (.fn f cs) v:=by
 unfold lG at h
 split at h
 ·cases h;exact hv
 ·rename_i a b
  split at h
  ·rename_i ha
   split at h
   ·rename_i hb
    cases h
    have e1:a=#[]:=by apply Array.toList_inj.1;simpa using ha
    have e2:b=#[]:=by apply Array.toList_inj.1;simpa using hb
    subst e1;subst e2
    rw [hv.sc_inv]
    exact .fn f [] [] rfl (fun i c u h=>by simp at h)
   ·cases h
  ·cases h
 ·cases h
section
variable {P:Program} {r:Option Nat} {ops:Array Oper} {Q:Exit→Act→World→Prop} {nt:Nat} {D:List Deferred} {fr:cf} {B:Bs} {L:AL} {rest:List Oper} {d:Nat} {ty t:TypeId} {pos:String} {af:Array Edge} {x y z:Operand} {u:AV} {g:Option (Nat×Bool)}
theorem vX (Lc Lf:AL) {d:Option Tmp} {f:FuncId} {args:Array Operand} {ts:Array TypeId} {cs caps:List AV} {Post:AV→AL→Prop} [hf:bS P f] (hx:bE fr x=some u) (hu:lG u=some (f,caps)) (hv:eP fr args.toList=some cs) (hL:L.Perm (Lc++Lf)) (h:AC P f (cs++caps) Lc Post):
  AO P ⟨d,.call ⟨.value x,args,ts⟩,ty,pos,af,g⟩ fr B L (fun c L'=>∃L1,Post c L1∧L'=L1++Lf):=by
 intro σ ρ w hρ hw0
 have hw:=hw0.perm hL
 obtain ⟨ws,hw1,hw2⟩:=(EW hu (hρ x _ hx)).fn_inv
 have hvs:=fL hρ _ _ hv
 have e:args.map ρ=(args.toList.map ρ).toArray:=by apply Array.toList_inj.1;simp
 unfold j7
 rw [show (execOp ρ ⟨d,.call ⟨.value x,args,ts⟩,ty,pos,af,g⟩).run P w= .ok (.enter f (args.toList.map ρ++ws).toArray) w by
  simp [execOp,resolve,hw1,Deferred.ofValue,invoke,hf.enters]]
 have hall:dI σ (cs++caps) (args.toList.map ρ++ws):=by
  refine ⟨by rw [List.length_append,List.length_append,hvs.1,hw2.1],fun i c u hc hu=>?_⟩
  have hq:=hvs.1
  by_cases hi:i < cs.length
  ·rw [List.getElem?_append_left hi] at hc
   rw [List.getElem?_append_left (by omega)] at hu
   exact hvs.2 i c u hc hu
  ·rw [List.getElem?_append_right (by omega)] at hc
   rw [List.getElem?_append_right (by omega),←hq] at hu
   exact hw2.2 _ c u hc hu
 refine (h σ w _ hall hw.enter).mono fun en w' ⟨v,τ,c,L',h1,h2,h3,h4⟩=>⟨v,h1,τ,c,L'++Lf,h3.grow,h2,hw.leave h3,L',h4,rfl⟩
theorem dE {f:FuncId} {args:Array Operand} {ts:Array TypeId} {cs caps:List AV} {Post:AV→AL→Prop} [bS P f] (Lc Lf:AL) (hc:AC P f (cs++caps) Lc Post) (hx:bE fr x=some u) (hu:lG u=some (f,caps)) (hv:eP fr args.toList=some cs) (hL:L.Perm (Lc++Lf)) (hn:Oper.noDefer ⟨some d,.call ⟨.value x,args,ts⟩,ty,pos,af,none⟩=true) (hd:Nat.ble nt d=false) (h:∀c L1,Post c L1→bP P r ops Q nt D rest ((d,c)::fr) B (L1++Lf)):
  bP P r ops Q nt D (⟨some d,.call ⟨.value x,args,ts⟩,ty,pos,af,none⟩::rest) fr B L:=
 cT hd hn (vX Lc Lf hx hu hv hL hc) fun c L' ⟨L1,h1,h2⟩=>by subst h2;exact h c L1 h1
end
theorem k6.shadow2 {σ:cF} {nt:Nat} {D:List Deferred} {fr:cf} {a:Act} {t:Nat} {v:AV} (h:k6 σ nt D fr a) (hl:VR σ v (a.tmps.getD t undef)):k6 σ nt D ((t,v)::fr) a:=
 ⟨h.size,h.defers,fun t' v' hl'=>by
  rw [cJ] at hl'
  by_cases e:t=t'
  ·subst e;simp only [if_true,Option.some.injEq] at hl';subst hl';exact hl
  ·rw [if_neg e] at hl';exact h.look t' v' hl'⟩
theorem bY {P:Program} {r:Option Nat} {ops:Array Oper} {Q:Exit→Act→World→Prop} {nt:Nat} {D:List Deferred} {fr fr0:cf} {B:Bs} {L:AL} {rest:List Oper} {t:Nat} (ks:List Nat) (C:Prop) [Decidable C] (hks:gW fr ks=some fr0) (h:∀Q',(∀fr' b,gW fr' ks=some fr0→cB fr' t=some (.sc (.bool b))→(b=true↔C)→AX P .normal Q' nt D fr' B L)→bP P r ops Q' nt D rest fr B L) (k:AX P .normal Q nt D ((t,.sc (.bool (decide C)))::fr0) B L):bP P r ops Q nt D rest fr B L:=by
 refine h Q fun fr' b hk hb hC=>fun σ a w ha hw=>k σ a w ?_ hw
 have hb':b=decide C:=by
  by_cases hc:C
  ·rw [decide_eq_true hc,hC.2 hc]
  ·rw [decide_eq_false hc]
   cases b with
   | true=>exact absurd (hC.1 rfl) hc
   | false=>rfl
 subst hb'
 exact (ha.weak (ez _ hk)).shadow2 (ha.look t _ hb)
theorem AC.frame {P:Program} {f:FuncId} {args:List AV} {L Lf:AL} {Post:AV→AL→Prop} (h:AC P f args L Post):AC P f args (L++Lf) fun c L'=>∃L1,Post c L1∧L'=L1++Lf:=by
 intro σ w vs hv hs
 refine (h σ w vs hv hs.enter).mono fun en w' ⟨v,τ,c,L',h1,h2,h3,h4⟩=>⟨v,τ,c,L'++Lf,h1,h2,hs.leave h3,L',h4,rfl⟩
theorem GJ.perm {P:Program} {σ0:cF} {f:FuncId} {args:List AV} {L L2:AL} {Post:AV→AL→Prop} (h:GJ P σ0 f args L Post) (hp:L2.Perm L):GJ P σ0 f args L2 Post:=by
 intro σ w vs hle hv hs
 refine (h σ w vs hle hv ?_).mono fun en w' ⟨v,τ,c,L',h1,h2,h3,h4⟩=>⟨v,τ,c,L',h1,h2,?_,h4⟩
 ·have:=hs.perm hp
  exact ⟨this.os,this.tape,this.output,this.size,fun k h1 h2=>this.old k h1 (fun h3=>h2 ((hp.map _).mem_iff.1 h3)),this.here,fun p hp'=>(this.mine p hp').imp id (fun h3=>(hp.map _).mem_iff.1 h3),this.apart,this.froz,this.free,this.grow,fun b h1 h2=>this.same b h1 (fun h3=>h2 ((hp.map _).mem_iff.1 h3))⟩
 ·exact ⟨h3.os,h3.tape,h3.output,h3.size,fun k h1 h2=>h3.old k h1 (fun h3=>h2 ((hp.map _).mem_iff.2 h3)),h3.here,fun p hp'=>(h3.mine p hp').imp id (fun h3=>(hp.map _).mem_iff.2 h3),h3.apart,h3.froz,h3.free,h3.grow,fun b h1 h2=>h3.same b h1 (fun h3=>h2 ((hp.map _).mem_iff.2 h3))⟩
theorem bF {nt:Nat} {D:List Deferred} {B:Bs} {fr:cf} {L L':AL} (h:L'.Sublist L):lP nt D B fr L fr L':=fun σ _ _ ha hw=>⟨σ,ha,hw.sublist h⟩
section
variable {P:Program} {l:List Oper} {fr:cf} {fin:jR} {sk:n7} {acc:cf} {L:AL} {k:Nat} {dd:Option Tmp} {ty:TypeId} {pos:String} {af:Array Edge} {g:Option (Nat×Bool)} {x:Operand} {u:AV}
theorem iF {f:FuncId} {args:Array Operand} {ts:Array TypeId} {cs ds:List AV} {Post:AV→AL→Prop} [bS P f] (Lc Lf:AL) (hc:AC P f ds Lc Post) (hv:eP (cK l.toArray acc fr af.toList) args.toList=some cs) (hi:n9 cs=some ds) (hL:L.Perm (Lc++Lf)) (hg:jh ⟨dd,.call ⟨.value (.func f),args,ts⟩,ty,pos,af,g⟩ acc) (h:∀c L1,Post c L1→DA P l fr fin sk ((k,c)::acc) (L1++Lf)):
  cG P l fr fin k .e ⟨dd,.call ⟨.value (.func f),args,ts⟩,ty,pos,af,g⟩ sk acc L:=by
 have hc':=hc
 rw [←jY hi] at hc'
 exact jz hg (fun B=>r3 Lc Lf hv (fun σ vs h=>h.im) hL hc') fun c L' ⟨L1,h1,h2⟩=>by subst h2;exact h c L1 h1
theorem Ae {f:FuncId} {args:Array Operand} {ts:Array TypeId} {cs ds:List AV} {Post:AV→AL→Prop} [bS P f] (Lc Lf:AL) (hc:AC P f ds Lc Post) (hv:eP (cK l.toArray acc fr af.toList) args.toList=some cs) (hi:n9 cs=some ds) (hL:L.Perm (Lc++Lf)) (hg:jh ⟨dd,.call ⟨.value (.func f),args,ts⟩,ty,pos,af,g⟩ acc) (hK:∀c L1,Post c L1→fm fin.gs L→fm fin.gs (L1++Lf)) (h:∀c L1,Post c L1→DA P l fr fin sk ((k,c)::acc) (L1++Lf)):
  cG P l fr fin k .f ⟨dd,.call ⟨.value (.func f),args,ts⟩,ty,pos,af,g⟩ sk acc L:=by
 have hc':=hc
 rw [←jY hi] at hc'
 exact uI (fun c L' ⟨L1,h1,h2⟩ hk=>by subst h2;exact hK c L1 h1 hk) hg (fun B=>r3 Lc Lf hv (fun σ vs h=>h.im) hL hc') fun c L' ⟨L1,h1,h2⟩=>by subst h2;exact h c L1 h1
end
theorem bV.any {P:Program} {f:FuncId} {args:List AV} {u:AV} (h:bV P f args u) (L:AL):AC P f args L fun c L'=>c=u∧∃L1,L'=L1++L:=(AC.frame (Lf:=L) h).mono fun c L' ⟨L1,h1,h2⟩=>⟨h1,L1,h2⟩
section
open Go.MapKept
structure kS (P:Program) (t:TypeId):Prop where
 ex:∃f1 f2:Field,P.underlying t=some (.struct #[f1,f2])∧(f1.name≠ "_" ∧f2.name≠ "_")∧(f1.offset=0∧f2.offset=1)∧P.underlying f1.type=some (.int .i64)∧P.underlying f2.type=some (.int .i64)
 st:P.stoodInHeld t=false
abbrev pe (a b:Int):Value:= .agg #[.int .i64 a,.int .i64 b]
def ur (v:Value):Prop:=∃a b,v=pe a b
section
variable {P:Program} {t:TypeId}
theorem t9 {u:TypeId} {k:IntKind} (h:P.underlying u=some (.int k)) (w:World):(isAgg u).run P w= .ok false w:=by
 simp [isAgg,run_underlying h]
theorem gc {u:TypeId} {k:IntKind} (h:P.underlying u=some (.int k)) {cs:Array Value} {o:Nat} {v:Value} (hv:cs[o]?=some v) (w:World):(part u cs o).run P w= .ok v w:=by
 simp [part,t9 h,hv,Result.andThen]
theorem kS.eq (h:kS P t) (a b c d:Int) (w:World):(Op.equal t (pe a b) (pe c d)).run P w= .ok (decide (a=c∧b=d)) w:=by
 obtain ⟨⟨f1,f2,hu,⟨hn1,hn2⟩,⟨ho1,ho2⟩,h1,h2⟩,hst⟩:=h
 have hf:P.fieldsOf t=#[f1,f2]:=by simp [Program.fieldsOf,hu]
 have hu':P.underlying t=some (.struct (P.fieldsOf t)):=by rw [hf];exact hu
 unfold Op.equal
 rw [show Op.maxDepth=9999+1 from rfl,run_equalIn_struct w 9999 t _ _ hu' hst,hf]
 simp only [Op.eqFields,if_pos hn1,if_pos hn2,Sem.run_bind,ho1,ho2]
 rw [gc h1 (v:= .int .i64 a) (by rfl)]
 simp only [Result.andThen]
 rw [gc h1 (v:= .int .i64 c) (by rfl)]
 simp only [Result.andThen]
 rw [show (9999:Nat)=9998+1 from rfl,run_equalIn_int w 9998 f1.type .i64 .i64 a c h1]
 simp only [Result.andThen,Sem.run_ite]
 by_cases hac:a=c
 ·subst hac
  simp only [BEq.rfl,Bool.not_true,Bool.false_eq_true,if_false,Sem.run_bind]
  rw [gc h2 (v:= .int .i64 b) (by rfl)]
  simp only [Result.andThen]
  rw [gc h2 (v:= .int .i64 d) (by rfl)]
  simp only [Result.andThen]
  rw [run_equalIn_int w 9998 f2.type .i64 .i64 b d h2]
  by_cases hbd:b=d
  ·subst hbd;simp
  ·simp [hbd]
 ·simp [hac]
theorem p9 {a b c d:Int}:pe a b=pe c d↔a=c∧b=d:=by simp
theorem kS.check (h:kS P t) {k:Value} (hk:ur k) (e:Bool) (n:Nat) (w:World):(Instr.checkKey e (n+2) t k).run P w= .ok () w:=by
 obtain ⟨⟨f1,f2,hu,⟨hn1,hn2⟩,⟨ho1,ho2⟩,h1,h2⟩,hst⟩:=h
 obtain ⟨a,b,rfl⟩:=hk
 unfold Instr.checkKey
 simp only [Sem.run_bind,run_underlying hu,Result.andThen]
 rw [←Array.forIn_toList]
 simp only [List.forIn_cons,List.forIn_nil,if_pos hn1,if_pos hn2,Sem.run_bind,ho1,ho2]
 rw [gc h1 (v:= .int .i64 a) (by rfl)]
 simp only [Result.andThen]
 rw [run_checkKey (d:= .int .i64) h1 (by rfl)]
 simp only [Result.andThen,Sem.run_bind,Sem.run_pure]
 rw [gc h2 (v:= .int .i64 b) (by rfl)]
 simp only [Result.andThen]
 rw [run_checkKey (d:= .int .i64) h2 (by rfl)]
 simp only [Result.andThen,Sem.run_bind,Sem.run_pure]
theorem kS.asking (h:kS P t) {k:Value} (hk:ur k) (w:World):∀(l:List MapEntry) (i:Nat),(∀x∈l,ur x.key)→
  ((Instr.findAsking t k l i).run P w= .ok none w∧∀x∈l,x.key≠k)∨∃j e,(Instr.findAsking t k l i).run P w= .ok (some (i+j,e.val)) w∧l[j]?=some e∧e.key=k
 | [],_,_=> .inl ⟨by simp [Instr.findAsking],by simp⟩
 | e::es,i,hall=>by
  obtain ⟨a,b,rfl⟩:=hk
  obtain ⟨c,d,hc⟩:=hall e (.head _)
  have he:=h.eq a b c d w
  by_cases hh:a=c∧b=d
  ·refine .inr ⟨0,e,?_,rfl,by rw [hc,p9];exact ⟨hh.1.symm,hh.2.symm⟩⟩
   rw [Instr.findAsking,Sem.run_bind,hc,he,decide_eq_true hh]
   simp [Result.andThen]
  ·have hne:e.key≠pe a b:=fun q=>hh (by rw [hc,p9] at q;exact ⟨q.1.symm,q.2.symm⟩)
   have hr:(Instr.findAsking t (pe a b) (e::es) i).run P w=(Instr.findAsking t (pe a b) es (i+1)).run P w:=by
    rw [Instr.findAsking,Sem.run_bind,hc,he,decide_eq_false hh]
    simp [Result.andThen]
   rw [hr]
   rcases kS.asking h ⟨a,b,rfl⟩ w es (i+1) (fun x hx=>hall x (.tail _ hx)) with ⟨h1,h2⟩ | ⟨j,e',h1,h2,h3⟩
   ·exact .inl ⟨h1,fun x hx=>by
     cases hx with
     | head=>exact hne
     | tail _ hx=>exact h2 x hx⟩
   ·exact .inr ⟨j+1,e',by rw [h1,show i+(j+1)=i+1+j by omega],by simpa using h2,h3⟩
theorem kS.find (h:kS P t) {k:Value} (hk:ur k) (w:World) (l:List MapEntry) (hall:∀x∈l,ur x.key):
  ((Instr.findKey t k l).run P w= .ok none w∧∀x∈l,x.key≠k)∨∃j e,(Instr.findKey t k l).run P w= .ok (some (j,e.val)) w∧l[j]?=some e∧e.key=k:=by
 have h0:=h
 obtain ⟨⟨f1,f2,hu,_⟩,_⟩:=h0
 cases l with
 | nil=>exact .inl ⟨by simp [Instr.findKey,run_underlying hu,Result.andThen,Instr.findNow],by simp⟩
 | cons e es=>
  have hr:(Instr.findKey t k (e::es)).run P w=(Instr.findAsking t k (e::es) 0).run P w:=by
   simp [Instr.findKey,run_underlying hu,Result.andThen,Instr.findNow,Instr.sameNow]
  rw [hr]
  rcases h.asking hk w (e::es) 0 hall with h1 | ⟨j,e',h1,h2⟩
  ·exact .inl h1
  ·exact .inr ⟨j,e',by rw [h1,Nat.zero_add],h2⟩
theorem ta {k:Value} (hk:ur k) (w:World):(Instr.keyThatStays k k).run P w= .ok k w:=by
 obtain ⟨a,b,rfl⟩:=hk
 have:Instr.sameBits 10000 (pe a b) (pe a b)=true:=by
  rw [show (10000:Nat)=9999+1 from rfl]
  simp [Instr.sameBits]
 simp [Instr.keyThatStays,this]
end
def iX (m:Int→Int→Option AV) (σ:cF) (o:Obj):Prop:=
 ∃es clock,o= .map es clock∧(∀x∈es.toList,∃a b,x.key=pe a b∧∃c,m a b=some c∧VR σ c x.val)∧es.toList.Pairwise (fun x y=>x.key≠y.key)∧∀a b c,m a b=some c→∃x∈es.toList,x.key=pe a b
def j9 (m:Int→Int→Option AV):AB:= .dep (iX m) fun σ τ o hle ⟨es,clock,h1,h2,h3,h4⟩=>⟨es,clock,h1,fun x hx=>by
 obtain ⟨a,b,e,c,g,f⟩:=h2 x hx
 exact ⟨a,b,e,c,g,f.mono hle⟩,h3,h4⟩
theorem iX.keys {m:Int→Int→Option AV} {σ:cF} {es:Array MapEntry} {clock:Nat} (h:iX m σ (.map es clock)):∀x∈es.toList,ur x.key:=by
 obtain ⟨es',clock',h1,h2,h3,h4⟩:=h
 cases h1
 intro x hx
 obtain ⟨a,b,h5,_⟩:=h2 x hx
 exact ⟨a,b,h5⟩
theorem iX.none {P:Program} {t:TypeId} (ht:kS P t) {m:Int→Int→Option AV} {σ:cF} {es:Array MapEntry} {clock:Nat} {a b:Int} (h:iX m σ (.map es clock)) (hm:m a b=none) (w:World):(Instr.findKey t (pe a b) es.toList).run P w= .ok none w∧∀x∈es.toList,x.key≠pe a b:=by
 rcases ht.find ⟨a,b,rfl⟩ w es.toList h.keys with h5 | ⟨j,e,h5,h6,h7⟩
 ·exact h5
 ·obtain ⟨es',clock',h1,h2,h3,h4⟩:=h
  cases h1
  obtain ⟨a',b',h8,c,h9,_⟩:=h2 e (Nw h6)
  rw [h7,p9] at h8
  rw [h8.1,h8.2] at hm
  rw [hm] at h9
  cases h9
theorem iX.some {P:Program} {t:TypeId} (ht:kS P t) {m:Int→Int→Option AV} {σ:cF} {es:Array MapEntry} {clock:Nat} {a b:Int} {c:AV} (h:iX m σ (.map es clock)) (hm:m a b=some c) (w:World):∃(j:Nat) (e:MapEntry),(Instr.findKey t (pe a b) es.toList).run P w= .ok (some (j,e.val)) w∧es[j]?=some e∧e.key=pe a b∧VR σ c e.val:=by
 rcases ht.find ⟨a,b,rfl⟩ w es.toList h.keys with ⟨_,h5⟩ | ⟨j,e,h5,h6,h7⟩
 ·obtain ⟨es',clock',h1,h2,h3,h4⟩:=h
  cases h1
  obtain ⟨x,hx,hk'⟩:=h4 a b c hm
  exact absurd hk' (h5 x hx)
 ·obtain ⟨es',clock',h1,h2,h3,h4⟩:=h
  cases h1
  obtain ⟨a',b',h8,c',h9,h10⟩:=h2 e (Nw h6)
  rw [h7,p9] at h8
  rw [←h8.1,←h8.2,hm] at h9
  cases h9
  exact ⟨j,e,h5,by simpa using h6,h7,h10⟩
theorem vC {σ:cF} {a b:Int} {v:Value} (h:VR σ (.agg [.sc (.int .i64 a),.sc (.int .i64 b)]) v):v=pe a b:=by
 obtain ⟨vs,rfl,hs,_⟩:=h.agg_inv
 obtain ⟨v1,ws,rfl,h1,h2⟩:=hs.inv
 obtain ⟨v2,ws',rfl,h3,h4⟩:=h2.inv
 rw [h4.nil_inv,h1.sc_inv,h3.sc_inv]
section
variable {P:Program} {fr:cf} {B:Bs} {L:AL} {d:Option Tmp} {ty t:TypeId} {pos:String} {af:Array Edge} {g:Option (Nat×Bool)} {x y z:Operand} {u:AV}
theorem w1:AO P ⟨d,.makeMap t none,ty,pos,af,g⟩ fr B L (fun c L'=>∃b,c= .sc (.map (some b))∧L'=(b,j9 fun _ _=>none)::L):=by
 intro σ ρ w hρ hw
 have hr:(execOp ρ ⟨d,.makeMap t none,ty,pos,af,g⟩).run P w= .ok (.value (.map (some w.heap.size))) (w.alloc (.map #[] 0)):=by
  simp [execOp,Instr.makeMap]
 unfold j7
 rw [hr]
 exact ⟨σ,_,_,cF.le_refl _,.sc _,hw.alloc _ (j9 fun _ _=>Option.none) ⟨#[],0,rfl,by simp,by simp,by simp⟩,_,rfl,rfl⟩
theorem t0 (i:Nat) {m1 kt et:Nat} {a b:Int} {m m':Int→Int→Option AV} (ht:P.underlying t=some (.map kt et)) (hkt:kS P kt) (hx:bE fr x=some (.sc (.map (some m1)))) (hy:bE fr y=some (.agg [.sc (.int .i64 a),.sc (.int .i64 b)])) (hz:bE fr z=some u) (hL:L[i]?=some (m1,j9 m)) (h1:m' a b=some u) (h2:∀p q,¬(p=a∧q=b)→m' p q=m p q):
  AO P ⟨d,.mapUpdate t x y z,ty,pos,af,g⟩ fr B L (fun _ L'=>L'=fx L i (j9 m')):=by
 intro σ ρ w hρ hw
 obtain ⟨o,ho,hM⟩:=hw.here _ (Nw hL)
 have hM':iX m σ o:=hM
 obtain ⟨es,clock,rfl,h3,h4,h5⟩:=hM'
 have hM':iX m σ (.map es clock):=hM
 have hv:=hρ z u hz
 have hy':=vC (hρ y _ hy)
 have hlt:m1 < w.heap.size:=(Array.getElem?_eq_some_iff.1 ho).1
 have hk:ur (pe a b):=⟨a,b,rfl⟩
 have key:∃es' clock',(Instr.mapUpdate t (.map (some m1)) (pe a b) (ρ z)).run P w= .ok () (w.putObj m1 (.map es' clock'))∧iX m' σ (.map es' clock'):=by
  cases hm:m a b with
  | none=>
   obtain ⟨hf,hne⟩:=hM'.none hkt hm w
   refine ⟨es.push ⟨pe a b,ρ z,clock⟩,clock+1,?_,_,_,rfl,?_,?_,?_⟩
   ·simp only [Instr.mapUpdate,Sem.run_bind,run_underlying ht,MapKept.run_getObj_map ho,hkt.check hk false 9998 w,hf,Result.andThen]
    rw [MapKept.run_setObj_map _ ho]
    rfl
   ·intro e he
    rw [Array.toList_push,List.mem_append,List.mem_singleton] at he
    rcases he with he | rfl
    ·obtain ⟨p,q,h6,c,h7,h8⟩:=h3 e he
     refine ⟨p,q,h6,c,?_,h8⟩
     rw [h2 p q (fun e1=>by rw [e1.1,e1.2,hm] at h7;cases h7)]
     exact h7
    ·exact ⟨a,b,rfl,u,h1,hv⟩
   ·rw [Array.toList_push,List.pairwise_append]
    refine ⟨h4,by simp,fun e he e' he'=>?_⟩
    rw [List.mem_singleton] at he'
    subst he'
    exact hne e he
   ·intro p q c hq
    by_cases e:p=a∧q=b
    ·obtain ⟨rfl,rfl⟩:=e
     exact ⟨_,by rw [Array.toList_push];exact List.mem_append.2 (Or.inr (List.mem_singleton.2 rfl)),rfl⟩
    ·rw [h2 p q e] at hq
     obtain ⟨y,hy,hy'⟩:=h5 p q c hq
     exact ⟨y,by rw [Array.toList_push];exact List.mem_append.2 (Or.inl hy),hy'⟩
  | some c=>
   obtain ⟨j,e,h6,h7,h8,h9⟩:=hM'.some hkt hm w
   have hdis:∀n e',es[n]?=some e'→¬j=n→e'.key≠pe a b:=by
    intro n e' hn hne
    rw [←Array.getElem?_toList] at hn h7
    rw [←h8]
    rw [List.pairwise_iff_getElem] at h4
    obtain ⟨hj1,hj2⟩:=Np h7
    obtain ⟨hn1,hn2⟩:=Np hn
    rcases Nat.lt_or_gt_of_ne hne with hlt | hgt
    ·have:=h4 j n hj1 hn1 hlt
     rw [hj2,hn2] at this
     exact this.symm
    ·have:=h4 n j hn1 hj1 hgt
     rw [hj2,hn2] at this
     exact this
   refine ⟨es.modify j (fun e'=>{ e' with key:=pe a b,val:=ρ z }),clock,?_,_,_,rfl,?_,?_,?_⟩
   ·simp only [Instr.mapUpdate,Sem.run_bind,run_underlying ht,MapKept.run_getObj_map ho,hkt.check hk false 9998 w,h6,Result.andThen]
    rw [show ((es[j]?).map (·.key)).getD (pe a b)=pe a b by rw [h7];exact h8,ta hk]
    simp only [Result.andThen]
    rw [MapKept.run_setObj_map _ ho]
    rfl
   ·intro e' he'
    obtain ⟨n,hn⟩:=List.mem_iff_getElem?.1 he'
    rw [Array.getElem?_toList,Array.getElem?_modify] at hn
    by_cases e1:j=n
    ·subst e1
     rw [if_pos rfl,h7] at hn
     simp at hn
     subst hn
     exact ⟨a,b,rfl,u,h1,hv⟩
    ·rw [if_neg e1] at hn
     obtain ⟨p,q,h10,c',h11,h12⟩:=h3 e' (Nw (by rw [Array.getElem?_toList];exact hn))
     refine ⟨p,q,h10,c',?_,h12⟩
     rw [h2 p q (fun e2=>hdis n e' hn e1 (by rw [h10,e2.1,e2.2]))]
     exact h11
   ·have hkeys:(es.modify j (fun e'=>{ e' with key:=pe a b,val:=ρ z })).toList.map MapEntry.key=es.toList.map MapEntry.key:=by
     apply List.ext_getElem?
     intro n
     rw [List.getElem?_map,List.getElem?_map,Array.getElem?_toList,Array.getElem?_toList,Array.getElem?_modify]
     by_cases e1:j=n
     ·subst e1
      rw [if_pos rfl,h7]
      simp [h8]
     ·rw [if_neg e1]
    refine (List.pairwise_map (f:=MapEntry.key) (R:=fun a b:Value=>a≠b)).1 ?_
    rw [hkeys]
    exact List.pairwise_map.2 h4
   ·intro p q c hq
    by_cases e1:p=a∧q=b
    ·obtain ⟨rfl,rfl⟩:=e1
     refine ⟨{ e with key:=pe p q,val:=ρ z },List.mem_iff_getElem?.2 ⟨j,?_⟩,rfl⟩
     rw [Array.getElem?_toList,Array.getElem?_modify,if_pos rfl,h7]
     rfl
    ·rw [h2 p q e1] at hq
     obtain ⟨y,hy,hy'⟩:=h5 p q c hq
     obtain ⟨n,hn⟩:=List.mem_iff_getElem?.1 hy
     rw [Array.getElem?_toList] at hn
     refine ⟨y,List.mem_iff_getElem?.2 ⟨n,?_⟩,hy'⟩
     rw [Array.getElem?_toList,Array.getElem?_modify,if_neg,hn]
     intro e2
     subst e2
     rw [h7] at hn
     injection hn with hn
     subst hn
     rw [h8,p9] at hy'
     exact e1 ⟨hy'.1.symm,hy'.2.symm⟩
 obtain ⟨es',clock',hr,hq⟩:=key
 unfold j7
 rw [show (execOp ρ ⟨d,.mapUpdate t x y z,ty,pos,af,g⟩).run P w= .ok .skip (w.putObj m1 (.map es' clock')) by simp only [execOp,(hρ x _ hx).sc_inv,hy',Sem.run_bind,Sem.run_pure,Result.andThen,hr]]
 exact ⟨σ,.sc undef,_,cF.le_refl _,.sc _,hw.putAt (a':=j9 m') hL (fun _=>trivial) (mh w m1 _) (World.putObj_heap_same hlt) hq,rfl⟩
theorem vZ (i:Nat) {m1 kt et:Nat} {a b:Int} {v0:Value} {m:Int→Int→Option AV} {c0:AV} (ht:P.underlying t=some (.map kt et)) (hkt:kS P kt) (hx:bE fr x=some (.sc (.map (some m1)))) (hy:bE fr y=some (.agg [.sc (.int .i64 a),.sc (.int .i64 b)])) (hL:L[i]?=some (m1,j9 m)) (hz:∀w,(zeroValue et).run P w= .ok v0 w) (h0:∀σ,VR σ c0 v0):
  AO P ⟨d,.lookup t x y false,ty,pos,af,g⟩ fr B L (fun c L'=>c=(m a b).getD c0∧L'=L):=by
 intro σ ρ w hρ hw
 obtain ⟨o,ho,hM⟩:=hw.here _ (Nw hL)
 have hM':iX m σ o:=hM
 obtain ⟨es,clock,rfl,_⟩:=hM'
 have hM':iX m σ (.map es clock):=hM
 have hk:ur (pe a b):=⟨a,b,rfl⟩
 have hy':=vC (hρ y _ hy)
 obtain ⟨v,hr,hv⟩:∃v,(Instr.lookup t (.map (some m1)) (pe a b) false).run P w= .ok v w∧VR σ ((m a b).getD c0) v:=by
  cases hm:m a b with
  | none=>
   refine ⟨v0,?_,h0 σ⟩
   simp only [Instr.lookup,Sem.run_bind,run_underlying ht,MapKept.run_getObj_map ho,hkt.check hk _ 9998 w,(hM'.none hkt hm w).1,Result.andThen,hz,Sem.run_pure]
   rfl
  | some c=>
   obtain ⟨j,e,h6,h7,h8,h9⟩:=hM'.some hkt hm w
   refine ⟨e.val,?_,h9⟩
   simp only [Instr.lookup,Sem.run_bind,run_underlying ht,MapKept.run_getObj_map ho,hkt.check hk _ 9998 w,h6,Result.andThen,hz,Sem.run_pure]
   rfl
 unfold j7
 rw [show (execOp ρ ⟨d,.lookup t x y false,ty,pos,af,g⟩).run P w= .ok (.value v) w by simp only [execOp,(hρ x _ hx).sc_inv,hy',Sem.run_bind,Sem.run_pure,Result.andThen,hr]]
 exact ⟨σ,(m a b).getD c0,_,cF.le_refl _,hv,hw,rfl,rfl⟩
end
section
variable {P:Program} {r:Option Nat} {ops:Array Oper} {Q:Exit→Act→World→Prop} {nt:Nat} {D:List Deferred} {fr:cf} {B:Bs} {L:AL} {rest:List Oper} {d:Nat} {ty t:TypeId} {pos:String} {af:Array Edge} {x y z:Operand} {u:AV}
theorem z4 (h:∀b,bP P r ops Q nt D rest ((d,.sc (.map (some b)))::fr) B ((b,j9 fun _ _=>none)::L)) (hd:Nat.ble nt d=false:=by rfl):bP P r ops Q nt D (⟨some d,.makeMap t none,ty,pos,af,none⟩::rest) fr B L:=
 cT hd rfl w1 fun c L' ⟨b,h1,h2⟩=>by subst h1;subst h2;exact h b
theorem v9 (i:Nat) (m':Int→Int→Option AV) {b kt et:Nat} {p q:Int} {m:Int→Int→Option AV} (ht:P.underlying t=some (.map kt et)) (hkt:kS P kt) (hx:bE fr x=some (.sc (.map (some b)))) (hy:bE fr y=some (.agg [.sc (.int .i64 p),.sc (.int .i64 q)])) (hz:bE fr z=some u) (hL:L[i]?=some (b,j9 m)) (h1:m' p q=some u) (h2:∀p' q',¬(p'=p∧q'=q)→m' p' q'=m p' q')
  (h:bP P r ops Q nt D rest fr B (fx L i (j9 m'))):bP P r ops Q nt D (⟨none,.mapUpdate t x y z,ty,pos,af,none⟩::rest) fr B L:=
 lR rfl (t0 i ht hkt hx hy hz hL h1 h2) fun c L' h3=>by subst h3;exact h
theorem z3 (i:Nat) (v0:Value) {b kt et:Nat} {p q:Int} {m:Int→Int→Option AV} (ht:P.underlying t=some (.map kt et)) (hkt:kS P kt) (hx:bE fr x=some (.sc (.map (some b)))) (hy:bE fr y=some (.agg [.sc (.int .i64 p),.sc (.int .i64 q)])) (hL:L[i]?=some (b,j9 m)) (hz:mC P et v0=true) (hd:Nat.ble nt d=false)
  (h:bP P r ops Q nt D rest ((d,(m p q).getD (.sc v0))::fr) B L):bP P r ops Q nt D (⟨some d,.lookup t x y false,ty,pos,af,none⟩::rest) fr B L:=
 cT hd rfl (vZ i ht hkt hx hy hL (gS hz) fun _=> .sc _) fun c L' ⟨h1,h2⟩=>by subst h1;subst h2;exact h
end
end
end Go.Proofs.YtpmdfoaadejmkaaGreatDoor
