/-
  Structs of two numbers: compared, and as keys of maps.
-/
import Derived.Test.YtpmdfoaadejmkaaGreatDoorM06
import Derived.Laws.StructEq
import Derived.Lib.AppendZeros
namespace Go.Proofs.YtpmdfoaadejmkaaGreatDoor
open Go.RowKit Go.MapKept
structure ky (P:Program) (t:TypeId):Prop where
 ex:∃f1 f2:Field,P.underlying t=some (.struct #[f1,f2])∧(f1.name≠ "_" ∧f2.name≠ "_")∧(f1.offset=0∧f2.offset=1)∧P.underlying f1.type=some (.int .i64)∧P.underlying f2.type=some (.int .i64)
 st:P.stoodInHeld t=false
abbrev oq (a b:Int):Value:= .agg #[.int .i64 a,.int .i64 b]
def tD (v:Value):Prop:=∃a b,v=oq a b
section
variable {P:Program} {t:TypeId}
theorem so {u:TypeId} {k:IntKind} (h:P.underlying u=some (.int k)) (w:World):(isAgg u).run P w= .ok false w:=by
 simp [isAgg,run_underlying h]
theorem eD {u:TypeId} {k:IntKind} (h:P.underlying u=some (.int k)) {cs:Array Value} {o:Nat} {v:Value} (hv:cs[o]?=some v) (w:World):(part u cs o).run P w= .ok v w:=by
 simp [part,so h,hv,Result.andThen]
theorem ky.eq (h:ky P t) (a b c d:Int) (w:World):(Op.equal t (oq a b) (oq c d)).run P w= .ok (decide (a=c∧b=d)) w:=by
 obtain ⟨⟨f1,f2,hu,⟨hn1,hn2⟩,⟨ho1,ho2⟩,h1,h2⟩,hst⟩:=h
 have hf:P.fieldsOf t=#[f1,f2]:=by simp [Program.fieldsOf,hu]
 have hu':P.underlying t=some (.struct (P.fieldsOf t)):=by rw [hf];exact hu
 unfold Op.equal
 rw [show Op.maxDepth=9999+1 from rfl,run_equalIn_struct w 9999 t _ _ hu' hst,hf]
 simp only [Op.eqFields,if_pos hn1,if_pos hn2,Sem.run_bind,ho1,ho2]
 rw [eD h1 (v:= .int .i64 a) (by rfl)]
 simp only [Result.andThen]
 rw [eD h1 (v:= .int .i64 c) (by rfl)]
 simp only [Result.andThen]
 rw [show (9999:Nat)=9998+1 from rfl,run_equalIn_int w 9998 f1.type .i64 .i64 a c h1]
 simp only [Result.andThen,Sem.run_ite]
 by_cases hac:a=c
 ·subst hac
  simp only [BEq.rfl,Bool.not_true,Bool.false_eq_true,if_false,Sem.run_bind]
  rw [eD h2 (v:= .int .i64 b) (by rfl)]
  simp only [Result.andThen]
  rw [eD h2 (v:= .int .i64 d) (by rfl)]
  simp only [Result.andThen]
  rw [run_equalIn_int w 9998 f2.type .i64 .i64 b d h2]
  by_cases hbd:b=d
  ·subst hbd;simp
  ·simp [hbd]
 ·simp [hac]
theorem oa {a b c d:Int}:oq a b=oq c d↔a=c∧b=d:=by simp
theorem ky.check (h:ky P t) {k:Value} (hk:tD k) (e:Bool) (n:Nat) (w:World):(Instr.checkKey e (n+2) t k).run P w= .ok () w:=by
 obtain ⟨⟨f1,f2,hu,⟨hn1,hn2⟩,⟨ho1,ho2⟩,h1,h2⟩,hst⟩:=h
 obtain ⟨a,b,rfl⟩:=hk
 unfold Instr.checkKey
 simp only [Sem.run_bind,run_underlying hu,Result.andThen]
 rw [←Array.forIn_toList]
 simp only [List.forIn_cons,List.forIn_nil,if_pos hn1,if_pos hn2,Sem.run_bind,ho1,ho2]
 rw [eD h1 (v:= .int .i64 a) (by rfl)]
 simp only [Result.andThen]
 rw [run_checkKey (d:= .int .i64) h1 (by rfl)]
 simp only [Result.andThen,Sem.run_bind,Sem.run_pure]
 rw [eD h2 (v:= .int .i64 b) (by rfl)]
 simp only [Result.andThen]
 rw [run_checkKey (d:= .int .i64) h2 (by rfl)]
 simp only [Result.andThen,Sem.run_bind,Sem.run_pure]
theorem ky.asking (h:ky P t) {k:Value} (hk:tD k) (w:World):∀(l:List MapEntry) (i:Nat),(∀x∈l,tD x.key)→
  ((Instr.findAsking t k l i).run P w= .ok none w∧∀x∈l,x.key≠k)∨∃j e,(Instr.findAsking t k l i).run P w= .ok (some (i+j,e.val)) w∧l[j]?=some e∧e.key=k
 | [],_,_=> .inl ⟨by simp [Instr.findAsking],by simp⟩
 | e::es,i,hall=>by
  obtain ⟨a,b,rfl⟩:=hk
  obtain ⟨c,d,hc⟩:=hall e (.head _)
  have he:=h.eq a b c d w
  by_cases hh:a=c∧b=d
  ·refine .inr ⟨0,e,?_,rfl,by rw [hc,oa];exact ⟨hh.1.symm,hh.2.symm⟩⟩
   rw [Instr.findAsking,Sem.run_bind,hc,he,decide_eq_true hh]
   simp [Result.andThen]
  ·have hne:e.key≠oq a b:=fun q=>hh (by rw [hc,oa] at q;exact ⟨q.1.symm,q.2.symm⟩)
   have hr:(Instr.findAsking t (oq a b) (e::es) i).run P w=(Instr.findAsking t (oq a b) es (i+1)).run P w:=by
    rw [Instr.findAsking,Sem.run_bind,hc,he,decide_eq_false hh]
    simp [Result.andThen]
   rw [hr]
   rcases ky.asking h ⟨a,b,rfl⟩ w es (i+1) (fun x hx=>hall x (.tail _ hx)) with ⟨h1,h2⟩ | ⟨j,e',h1,h2,h3⟩
   ·exact .inl ⟨h1,fun x hx=>by
     cases hx with
     | head=>exact hne
     | tail _ hx=>exact h2 x hx⟩
   ·exact .inr ⟨j+1,e',by rw [h1,show i+(j+1)=i+1+j by omega],by simpa using h2,h3⟩
theorem ky.find (h:ky P t) {k:Value} (hk:tD k) (w:World) (l:List MapEntry) (hall:∀x∈l,tD x.key):
  ((Instr.findKey t k l).run P w= .ok none w∧∀x∈l,x.key≠k)∨∃j e,(Instr.findKey t k l).run P w= .ok (some (j,e.val)) w∧l[j]?=some e∧e.key=k:=by
 have h0:=h
 obtain ⟨⟨f1,f2,hu,_⟩,_⟩:=h0
 cases l with
 | nil=>exact .inl ⟨by simp [Instr.findKey,run_underlying hu,Result.andThen,Instr.findNow],by simp⟩
 | cons e es=>
  have hr:(Instr.findKey t k (e::es)).run P w=(Instr.findAsking t k (e::es) 0).run P w:=by
   simp [Instr.findKey,run_underlying hu,Result.andThen,Instr.findNow,Instr.sameNow]
  rw [hr]
  rcases h.asking hk w (e::es) 0 hall with h1 | ⟨j,e',h1,h2⟩
  ·exact .inl h1
  ·exact .inr ⟨j,e',by rw [h1,Nat.zero_add],h2⟩
theorem sq {k:Value} (hk:tD k) (w:World):(Instr.keyThatStays k k).run P w= .ok k w:=by
 obtain ⟨a,b,rfl⟩:=hk
 have:Instr.sameBits 10000 (oq a b) (oq a b)=true:=by
  rw [show (10000:Nat)=9999+1 from rfl]
  simp [Instr.sameBits]
 simp [Instr.keyThatStays,this]
end
def iu (m:Int→Int→Option AV) (σ:Mem) (o:Obj):Prop:=
 ∃es clock,o= .map es clock∧(∀x∈es.toList,∃a b,x.key=oq a b∧∃c,m a b=some c∧VR σ c x.val)∧es.toList.Pairwise (fun x y=>x.key≠y.key)∧∀a b c,m a b=some c→∃x∈es.toList,x.key=oq a b
def iC (m:Int→Int→Option AV):AB:= .dep (iu m) fun σ τ o hle ⟨es,clock,h1,h2,h3,h4⟩=>⟨es,clock,h1,fun x hx=>by
 obtain ⟨a,b,e,c,g,f⟩:=h2 x hx
 exact ⟨a,b,e,c,g,f.mono hle⟩,h3,h4⟩
theorem iu.keys {m:Int→Int→Option AV} {σ:Mem} {es:Array MapEntry} {clock:Nat} (h:iu m σ (.map es clock)):∀x∈es.toList,tD x.key:=by
 obtain ⟨es',clock',h1,h2,h3,h4⟩:=h
 cases h1
 intro x hx
 obtain ⟨a,b,h5,_⟩:=h2 x hx
 exact ⟨a,b,h5⟩
theorem iu.none {P:Program} {t:TypeId} (ht:ky P t) {m:Int→Int→Option AV} {σ:Mem} {es:Array MapEntry} {clock:Nat} {a b:Int} (h:iu m σ (.map es clock)) (hm:m a b=none) (w:World):(Instr.findKey t (oq a b) es.toList).run P w= .ok none w∧∀x∈es.toList,x.key≠oq a b:=by
 rcases ht.find ⟨a,b,rfl⟩ w es.toList h.keys with h5 | ⟨j,e,h5,h6,h7⟩
 ·exact h5
 ·obtain ⟨es',clock',h1,h2,h3,h4⟩:=h
  cases h1
  obtain ⟨a',b',h8,c,h9,_⟩:=h2 e (Lw h6)
  rw [h7,oa] at h8
  rw [h8.1,h8.2] at hm
  rw [hm] at h9
  cases h9
theorem iu.some {P:Program} {t:TypeId} (ht:ky P t) {m:Int→Int→Option AV} {σ:Mem} {es:Array MapEntry} {clock:Nat} {a b:Int} {c:AV} (h:iu m σ (.map es clock)) (hm:m a b=some c) (w:World):∃(j:Nat) (e:MapEntry),(Instr.findKey t (oq a b) es.toList).run P w= .ok (some (j,e.val)) w∧es[j]?=some e∧e.key=oq a b∧VR σ c e.val:=by
 rcases ht.find ⟨a,b,rfl⟩ w es.toList h.keys with ⟨_,h5⟩ | ⟨j,e,h5,h6,h7⟩
 ·obtain ⟨es',clock',h1,h2,h3,h4⟩:=h
  cases h1
  obtain ⟨x,hx,hk'⟩:=h4 a b c hm
  exact absurd hk' (h5 x hx)
 ·obtain ⟨es',clock',h1,h2,h3,h4⟩:=h
  cases h1
  obtain ⟨a',b',h8,c',h9,h10⟩:=h2 e (Lw h6)
  rw [h7,oa] at h8
  rw [←h8.1,←h8.2,hm] at h9
  cases h9
  exact ⟨j,e,h5,by simpa using h6,h7,h10⟩
theorem uF {σ:Mem} {a b:Int} {v:Value} (h:VR σ (.agg [.sc (.int .i64 a),.sc (.int .i64 b)]) v):v=oq a b:=by
 obtain ⟨vs,rfl,hs,_⟩:=h.agg_inv
 obtain ⟨v1,ws,rfl,h1,h2⟩:=hs.inv
 obtain ⟨v2,ws',rfl,h3,h4⟩:=h2.inv
 rw [h4.nil_inv,h1.sc_inv,h3.sc_inv]
section
variable {P:Program} {fr:bT} {B:Bs} {L:AL} {d:Option Tmp} {ty t:TypeId} {pos:String} {af:Array Edge} {g:Option (Nat×Bool)} {x y z:Operand} {u:AV}
theorem vb:AO P ⟨d,.makeMap t none,ty,pos,af,g⟩ fr B L (fun c L'=>∃b,c= .sc (.map (some b))∧L'=(b,iC fun _ _=>none)::L):=by
 intro σ ρ w hρ hw
 have hr:(execOp ρ ⟨d,.makeMap t none,ty,pos,af,g⟩).run P w= .ok (.value (.map (some w.heap.size))) (w.alloc (.map #[] 0)):=by
  simp [execOp,Instr.makeMap]
 unfold gT
 rw [hr]
 exact ⟨σ,_,_,Mem.le_refl _,.sc _,hw.alloc _ (iC fun _ _=>Option.none) ⟨#[],0,rfl,by simp,by simp,by simp⟩,_,rfl,rfl⟩
theorem s9 (i:Nat) {m1 kt et:Nat} {a b:Int} {m m':Int→Int→Option AV} (ht:P.underlying t=some (.map kt et)) (hkt:ky P kt) (hx:bh fr x=some (.sc (.map (some m1)))) (hy:bh fr y=some (.agg [.sc (.int .i64 a),.sc (.int .i64 b)])) (hz:bh fr z=some u) (hL:L[i]?=some (m1,iC m)) (h1:m' a b=some u) (h2:∀p q,¬(p=a∧q=b)→m' p q=m p q):
  AO P ⟨d,.mapUpdate t x y z,ty,pos,af,g⟩ fr B L (fun _ L'=>L'=eF L i (iC m')):=by
 intro σ ρ w hρ hw
 obtain ⟨o,ho,hM⟩:=hw.here _ (Lw hL)
 have hM':iu m σ o:=hM
 obtain ⟨es,clock,rfl,h3,h4,h5⟩:=hM'
 have hM':iu m σ (.map es clock):=hM
 have hv:=hρ z u hz
 have hy':=uF (hρ y _ hy)
 have hlt:m1 < w.heap.size:=(Array.getElem?_eq_some_iff.1 ho).1
 have hk:tD (oq a b):=⟨a,b,rfl⟩
 have key:∃es' clock',(Instr.mapUpdate t (.map (some m1)) (oq a b) (ρ z)).run P w= .ok () (w.putObj m1 (.map es' clock'))∧iu m' σ (.map es' clock'):=by
  cases hm:m a b with
  | none=>
   obtain ⟨hf,hne⟩:=hM'.none hkt hm w
   refine ⟨es.push ⟨oq a b,ρ z,clock⟩,clock+1,?_,_,_,rfl,?_,?_,?_⟩
   ·simp only [Instr.mapUpdate,Sem.run_bind,run_underlying ht,MapKept.run_getObj_map ho,hkt.check hk false 9998 w,hf,Result.andThen]
    rw [MapKept.run_setObj_map _ ho]
    rfl
   ·intro e he
    rw [Array.toList_push,List.mem_append,List.mem_singleton] at he
    rcases he with he | rfl
    ·obtain ⟨p,q,h6,c,h7,h8⟩:=h3 e he
     refine ⟨p,q,h6,c,?_,h8⟩
     rw [h2 p q (fun e1=>by rw [e1.1,e1.2,hm] at h7;cases h7)]
     exact h7
    ·exact ⟨a,b,rfl,u,h1,hv⟩
   ·rw [Array.toList_push,List.pairwise_append]
    refine ⟨h4,by simp,fun e he e' he'=>?_⟩
    rw [List.mem_singleton] at he'
    subst he'
    exact hne e he
   ·intro p q c hq
    by_cases e:p=a∧q=b
    ·obtain ⟨rfl,rfl⟩:=e
     exact ⟨_,by rw [Array.toList_push];exact List.mem_append.2 (Or.inr (List.mem_singleton.2 rfl)),rfl⟩
    ·rw [h2 p q e] at hq
     obtain ⟨y,hy,hy'⟩:=h5 p q c hq
     exact ⟨y,by rw [Array.toList_push];exact List.mem_append.2 (Or.inl hy),hy'⟩
  | some c=>
   obtain ⟨j,e,h6,h7,h8,h9⟩:=hM'.some hkt hm w
   have hdis:∀n e',es[n]?=some e'→¬j=n→e'.key≠oq a b:=by
    intro n e' hn hne
    rw [←Array.getElem?_toList] at hn h7
    rw [←h8]
    rw [List.pairwise_iff_getElem] at h4
    obtain ⟨hj1,hj2⟩:=Ln h7
    obtain ⟨hn1,hn2⟩:=Ln hn
    rcases Nat.lt_or_gt_of_ne hne with hlt | hgt
    ·have:=h4 j n hj1 hn1 hlt
     rw [hj2,hn2] at this
     exact this.symm
    ·have:=h4 n j hn1 hj1 hgt
     rw [hj2,hn2] at this
     exact this
   refine ⟨es.modify j (fun e'=>{ e' with key:=oq a b,val:=ρ z }),clock,?_,_,_,rfl,?_,?_,?_⟩
   ·simp only [Instr.mapUpdate,Sem.run_bind,run_underlying ht,MapKept.run_getObj_map ho,hkt.check hk false 9998 w,h6,Result.andThen]
    rw [show ((es[j]?).map (·.key)).getD (oq a b)=oq a b by rw [h7];exact h8,sq hk]
    simp only [Result.andThen]
    rw [MapKept.run_setObj_map _ ho]
    rfl
   ·intro e' he'
    obtain ⟨n,hn⟩:=List.mem_iff_getElem?.1 he'
    rw [Array.getElem?_toList,Array.getElem?_modify] at hn
    by_cases e1:j=n
    ·subst e1
     rw [if_pos rfl,h7] at hn
     simp at hn
     subst hn
     exact ⟨a,b,rfl,u,h1,hv⟩
    ·rw [if_neg e1] at hn
     obtain ⟨p,q,h10,c',h11,h12⟩:=h3 e' (Lw (by rw [Array.getElem?_toList];exact hn))
     refine ⟨p,q,h10,c',?_,h12⟩
     rw [h2 p q (fun e2=>hdis n e' hn e1 (by rw [h10,e2.1,e2.2]))]
     exact h11
   ·have hkeys:(es.modify j (fun e'=>{ e' with key:=oq a b,val:=ρ z })).toList.map MapEntry.key=es.toList.map MapEntry.key:=by
     apply List.ext_getElem?
     intro n
     rw [List.getElem?_map,List.getElem?_map,Array.getElem?_toList,Array.getElem?_toList,Array.getElem?_modify]
     by_cases e1:j=n
     ·subst e1
      rw [if_pos rfl,h7]
      simp [h8]
     ·rw [if_neg e1]
    refine (List.pairwise_map (f:=MapEntry.key) (R:=fun a b:Value=>a≠b)).1 ?_
    rw [hkeys]
    exact List.pairwise_map.2 h4
   ·intro p q c hq
    by_cases e1:p=a∧q=b
    ·obtain ⟨rfl,rfl⟩:=e1
     refine ⟨{ e with key:=oq p q,val:=ρ z },List.mem_iff_getElem?.2 ⟨j,?_⟩,rfl⟩
     rw [Array.getElem?_toList,Array.getElem?_modify,if_pos rfl,h7]
     rfl
    ·rw [h2 p q e1] at hq
     obtain ⟨y,hy,hy'⟩:=h5 p q c hq
     obtain ⟨n,hn⟩:=List.mem_iff_getElem?.1 hy
     rw [Array.getElem?_toList] at hn
     refine ⟨y,List.mem_iff_getElem?.2 ⟨n,?_⟩,hy'⟩
     rw [Array.getElem?_toList,Array.getElem?_modify,if_neg,hn]
     intro e2
     subst e2
     rw [h7] at hn
     injection hn with hn
     subst hn
     rw [h8,oa] at hy'
     exact e1 ⟨hy'.1.symm,hy'.2.symm⟩
 obtain ⟨es',clock',hr,hq⟩:=key
 unfold gT
 rw [show (execOp ρ ⟨d,.mapUpdate t x y z,ty,pos,af,g⟩).run P w= .ok .skip (w.putObj m1 (.map es' clock')) by simp only [execOp,(hρ x _ hx).sc_inv,hy',Sem.run_bind,Sem.run_pure,Result.andThen,hr]]
 exact ⟨σ,.sc undef,_,Mem.le_refl _,.sc _,hw.putAt (a':=iC m') hL (fun _=>trivial) (lN w m1 _) (World.putObj_heap_same hlt) hq,rfl⟩
theorem va (i:Nat) {m1 kt et:Nat} {a b:Int} {v0:Value} {m:Int→Int→Option AV} {c0:AV} (ht:P.underlying t=some (.map kt et)) (hkt:ky P kt) (hx:bh fr x=some (.sc (.map (some m1)))) (hy:bh fr y=some (.agg [.sc (.int .i64 a),.sc (.int .i64 b)])) (hL:L[i]?=some (m1,iC m)) (hz:∀w,(zeroValue et).run P w= .ok v0 w) (h0:∀σ,VR σ c0 v0):
  AO P ⟨d,.lookup t x y false,ty,pos,af,g⟩ fr B L (fun c L'=>c=(m a b).getD c0∧L'=L):=by
 intro σ ρ w hρ hw
 obtain ⟨o,ho,hM⟩:=hw.here _ (Lw hL)
 have hM':iu m σ o:=hM
 obtain ⟨es,clock,rfl,_⟩:=hM'
 have hM':iu m σ (.map es clock):=hM
 have hk:tD (oq a b):=⟨a,b,rfl⟩
 have hy':=uF (hρ y _ hy)
 obtain ⟨v,hr,hv⟩:∃v,(Instr.lookup t (.map (some m1)) (oq a b) false).run P w= .ok v w∧VR σ ((m a b).getD c0) v:=by
  cases hm:m a b with
  | none=>
   refine ⟨v0,?_,h0 σ⟩
   simp only [Instr.lookup,Sem.run_bind,run_underlying ht,MapKept.run_getObj_map ho,hkt.check hk _ 9998 w,(hM'.none hkt hm w).1,Result.andThen,hz,Sem.run_pure]
   rfl
  | some c=>
   obtain ⟨j,e,h6,h7,h8,h9⟩:=hM'.some hkt hm w
   refine ⟨e.val,?_,h9⟩
   simp only [Instr.lookup,Sem.run_bind,run_underlying ht,MapKept.run_getObj_map ho,hkt.check hk _ 9998 w,h6,Result.andThen,hz,Sem.run_pure]
   rfl
 unfold gT
 rw [show (execOp ρ ⟨d,.lookup t x y false,ty,pos,af,g⟩).run P w= .ok (.value v) w by simp only [execOp,(hρ x _ hx).sc_inv,hy',Sem.run_bind,Sem.run_pure,Result.andThen,hr]]
 exact ⟨σ,(m a b).getD c0,_,Mem.le_refl _,hv,hw,rfl,rfl⟩
end
section
variable {P:Program} {r:Option Nat} {ops:Array Oper} {Q:Exit→Act→World→Prop} {nt:Nat} {D:List Deferred} {fr:bT} {B:Bs} {L:AL} {rest:List Oper} {d:Nat} {ty t:TypeId} {pos:String} {af:Array Edge} {x y z:Operand} {u:AV}
theorem xO (h:∀b,br P r ops Q nt D rest ((d,.sc (.map (some b)))::fr) B ((b,iC fun _ _=>none)::L)) (hd:Nat.ble nt d=false:=by rfl):br P r ops Q nt D (⟨some d,.makeMap t none,ty,pos,af,none⟩::rest) fr B L:=
 cw hd rfl vb fun c L' ⟨b,h1,h2⟩=>by subst h1;subst h2;exact h b
theorem ug (i:Nat) (m':Int→Int→Option AV) {b kt et:Nat} {p q:Int} {m:Int→Int→Option AV} (ht:P.underlying t=some (.map kt et)) (hkt:ky P kt) (hx:bh fr x=some (.sc (.map (some b)))) (hy:bh fr y=some (.agg [.sc (.int .i64 p),.sc (.int .i64 q)])) (hz:bh fr z=some u) (hL:L[i]?=some (b,iC m)) (h1:m' p q=some u) (h2:∀p' q',¬(p'=p∧q'=q)→m' p' q'=m p' q')
  (h:br P r ops Q nt D rest fr B (eF L i (iC m'))):br P r ops Q nt D (⟨none,.mapUpdate t x y z,ty,pos,af,none⟩::rest) fr B L:=
 iV rfl (s9 i ht hkt hx hy hz hL h1 h2) fun c L' h3=>by subst h3;exact h
theorem xN (i:Nat) (v0:Value) {b kt et:Nat} {p q:Int} {m:Int→Int→Option AV} (ht:P.underlying t=some (.map kt et)) (hkt:ky P kt) (hx:bh fr x=some (.sc (.map (some b)))) (hy:bh fr y=some (.agg [.sc (.int .i64 p),.sc (.int .i64 q)])) (hL:L[i]?=some (b,iC m)) (hz:lZ P et v0=true) (hd:Nat.ble nt d=false)
  (h:br P r ops Q nt D rest ((d,(m p q).getD (.sc v0))::fr) B L):br P r ops Q nt D (⟨some d,.lookup t x y false,ty,pos,af,none⟩::rest) fr B L:=
 cw hd rfl (va i ht hkt hx hy hL (gw hz) fun _=> .sc _) fun c L' ⟨h1,h2⟩=>by subst h1;subst h2;exact h
end
end Go.Proofs.YtpmdfoaadejmkaaGreatDoor
namespace Go.Proofs.YtpmdfoaadejmkaaGreatDoor
open Go.RowKit
section
variable {P:Program} {fr:bT} {B:Bs} {L:AL} {d:Option Tmp} {ty t t':TypeId} {pos:String} {af:Array Edge} {g:Option (Nat×Bool)} {x y z q:Operand} {u:AV}
theorem CZ.int {e:TypeId} {i:TypeInfo} {zz:Value} (hz:CZ P e [.int .i64 0]) (hi:P.info? e=some i) (hzz:i.zero=some zz) (w:World):zz.cells=#[.int .i64 0]:=by
 obtain ⟨v,hv,hr⟩:=hz.run
 have:=hr w
 simp [zeroValue,typeInfo,hi,hzz] at this
 rw [this,hv]
theorem mJ (n:Nat):Builtin.zeroCells #[.int .i64 0] n=(List.replicate n (Value.int .i64 0)).toArray:=by
 apply Array.toList_inj.1
 simp only [Builtin.zeroCells,List.size_toArray,List.length_cons,List.length_nil]
 apply List.ext_getElem
 ·simp
 ·intro i h1 h2
  simp [Nat.mod_one]
theorem ir {σ:Mem} {cs:List AV} {vs:List Value} (h:cS σ cs vs) (n:Nat):cS σ (cs.take n) (vs.take n):=by
 refine ⟨by rw [List.length_take,List.length_take,h.1],fun i c u hc hu=>?_⟩
 rw [List.getElem?_take] at hc hu
 split at hc
 ·rename_i hi
  rw [if_pos hi] at hu
  exact h.2 i c u hc hu
 ·cases hc
theorem og {σ:Mem} {cs:List AV} {vs:List Value} (h:cS σ cs vs) (n:Nat):cS σ (cs.drop n) (vs.drop n):=by
 refine ⟨by rw [List.length_drop,List.length_drop,h.1],fun i c u hc hu=>?_⟩
 rw [List.getElem?_drop] at hc hu
 exact h.2 _ c u hc hu
theorem eQ {σ:Mem} {cs ds:List AV} {vs ws:List Value} (h:cS σ cs vs) (k:cS σ ds ws):cS σ (cs++ds) (vs++ws):=by
 refine ⟨by rw [List.length_append,List.length_append,h.1,k.1],fun i c u hc hu=>?_⟩
 have hq:=h.1
 by_cases hi:i < cs.length
 ·rw [List.getElem?_append_left hi] at hc
  rw [List.getElem?_append_left (by omega)] at hu
  exact h.2 i c u hc hu
 ·rw [List.getElem?_append_right (by omega)] at hc
  rw [List.getElem?_append_right (by omega),←hq] at hu
  exact k.2 _ c u hc hu
theorem zD {σ:Mem} (v:Value) (n:Nat):cS σ (List.replicate n (.sc v)) (List.replicate n v):=by
 refine ⟨by simp,fun i c u hc hu=>?_⟩
 rw [List.getElem?_replicate] at hc hu
 split at hc
 ·rename_i hi
  rw [if_pos hi] at hu
  cases hc;cases hu
  exact .sc _
 ·cases hc
theorem qu (i:Nat) {e by_ b n cap:Nat} {cs:List AV} {c:AV} (hc:ln P t e 1 by_) (hz:CZ P e [.int .i64 0]) (hx:bh fr x=some (.sc (.slice (some ⟨b,0,none⟩) n cap))) (hy:bh fr y=some u) (hu:u.im= .imm 1 [[c]]) (hL:L[i]?=some (b,.box cs e)) (hcl:cs.length=cap) (hn:n≤cap) (h63:n+1≤9223372036854775807) (hby:(n+1) * by_≤140737488355328):
  AO P ⟨d,.call ⟨.builtin .append,#[x,y],#[t,t]⟩,ty,pos,af,g⟩ fr B L (fun r L'=>∃b' cs',r= .sc (.slice (some ⟨b',0,none⟩) (n+1) cs'.length)∧cs'.take (n+1)=cs.take n++[c]∧n+1≤cs'.length∧L'=(b',.box cs' e)::L.eraseIdx i):=by
 intro σ ρ w hρ hw0
 have hw:=hw0.perm (dY hL)
 have hxv:=(hρ x _ hx).sc_inv
 have hyv:=(hρ y u hy).im
 rw [hu] at hyv
 obtain ⟨A2,c2,hA2,_⟩:=hyv.imm_inv
 rw [hA2] at hyv
 obtain ⟨_,_,_,hs2,ys,hyl,hyr,hy1,hyc⟩:=hyv.row
 obtain ⟨b2,off2,rfl,hycc⟩:=hyc (by simp)
 haveI:=hc
 obtain ⟨inf,zz,hi,hsz,rfl,hzz,hzs⟩:=hc.info
 have hzc:=hz.int hi hzz w
 obtain ⟨o,ho,vs,rfl,hvs,h1⟩:=hw.here _ (List.mem_cons_self ..)
 have hl:=hvs.1
 have hyl':ys.length=1 * inf.size:=by rw [hsz];exact hyl
 have hys1:ys.length=1:=by simpa using hyl
 obtain ⟨yv,rfl⟩:∃yv,ys=[yv]:=by
  match ys,hys1 with
  | [yv],_=>exact ⟨yv,rfl⟩
 have hyr':cS σ [c] [yv]:=hyr
 have hnews:∀j v,[yv][j]?=some v→w.cell? ((⟨b2,off2,none⟩:Addr).add j)=some v:=fun j v hj=>by rw [dJ];exact hw.froz _ _ _ (hycc j v hj)
 have hA2':ρ y= .slice (some ⟨b2,off2,none⟩) 1 c2:=hA2
 unfold gT
 by_cases hroom:n+1≤cap
 ·have hr:=run_append_room (P:=P) w t ty e inf hc.under hi b n cap vs.toArray ho ⟨b2,off2,none⟩ 1 c2 [yv] hyl' hnews hy1 hroom (by rw [hsz];simp;omega)
  rw [show (execOp ρ ⟨d,.call ⟨.builtin .append,#[x,y],#[t,t]⟩,ty,pos,af,g⟩).run P w= .ok (.value (.slice (some ⟨b,0,none⟩) (n+1) cap)) (w.setRow b (vs.toArray.toList.take (n * inf.size)++[yv]++vs.toArray.toList.drop (n * inf.size+[yv].length)).toArray) by
   simp [execOp,resolve,hxv,hA2',invoke,builtin,hr]]
  simp only [hsz,Nat.mul_one,List.length_cons,List.length_nil,Nat.zero_add]
  have hcl':(cs.take n++[c]++cs.drop (n+1)).length=cap:=by simp;omega
  refine ⟨σ,.sc _,_,Mem.le_refl _,.sc _,hw.put (a':= .box (cs.take n++[c]++cs.drop (n+1)) e) (fun _=>trivial) ⟨rfl,rfl,rfl,by simp,fun k _ hk=>setRow_other w b k _ (fun e=>hk (by simp [e]))⟩ (setRow_heap w b _ _ e _ ho) ⟨_,rfl,eQ (eQ (ir hvs n) hyr') (og hvs (n+1)),fun u hu=>?_⟩,b,_,by rw [hcl'],?_,by rw [hcl'];exact hroom,rfl⟩
  ·rcases Ll hu with hu | hu
   ·rcases Ll hu with hu | hu
    ·exact h1 _ (List.mem_of_mem_take hu)
    ·exact hy1 _ hu
   ·exact h1 _ (List.mem_of_mem_drop hu)
  ·rw [List.take_append_of_le_length (by simp;omega),List.take_of_length_le (by simp;omega)]
 ·have hncap:n=cap:=by omega
  subst hncap
  have holds:∀j v,vs[j]?=some v→w.cell? ((⟨b,0,none⟩:Addr).add j)=some v:=fun j v hj=>by
   rw [dJ,Nat.zero_add,cX ho]
   simpa using hj
  have hr:=run_append_grow (P:=P) w t ty e inf zz hc.under hi hzz ⟨b,0,none⟩ n n vs (by rw [hsz];omega) holds ⟨b2,off2,none⟩ 1 c2 [yv] hyl' hnews (by omega) (by omega) (growslice_fits (by omega) hby)
  rw [show (execOp ρ ⟨d,.call ⟨.builtin .append,#[x,y],#[t,t]⟩,ty,pos,af,g⟩).run P w= .ok (.value (.slice (some ⟨w.heap.size,0,none⟩) (n+1) (grownCap w (n+1) n e))) (w.drew.alloc (.cells (vs.toArray++[yv].toArray++Builtin.zeroCells zz.cells (grownCap w (n+1) n e - (n+1))) e)) by
   simp [execOp,resolve,hxv,hA2',invoke,builtin,hr]]
  rw [hzc,mJ]
  have hge:=grownCap_ge w (n+1) n e
  generalize grownCap w (n+1) n e=cap' at *
  have hlen:(cs++[c]++List.replicate (cap' - (n+1)) (AV.sc (.int .i64 0))).length=cap':=by simp;omega
  refine ⟨σ,.sc _,_,Mem.le_refl _,.sc _,((hw.sublist (List.sublist_cons_self ..)).drew _).alloc _ (.box (cs++[c]++List.replicate (cap' - (n+1)) (.sc (.int .i64 0))) e) ⟨vs++[yv]++List.replicate (cap' - (n+1)) (.int .i64 0),by simp,eQ (eQ hvs hyr') (zD _ _),fun u hu=>?_⟩,w.heap.size,_,by rw [hlen],?_,by rw [hlen];exact hge,rfl⟩
  ·rcases Ll hu with hu | hu
   ·rcases Ll hu with hu | hu
    ·exact h1 _ hu
    ·exact hy1 _ hu
   ·rw [(List.mem_replicate.1 hu).2];rfl
  ·rw [List.take_append_of_le_length (by simp;omega),List.take_of_length_le (by simp;omega),List.take_of_length_le (by omega)]
theorem qw {e by_:Nat} {c:AV} (hc:ln P t e 1 by_) (hz:CZ P e [.int .i64 0]) (hx:bh fr x=some (.sc (.slice none 0 0))) (hy:bh fr y=some u) (hu:u.im= .imm 1 [[c]]) (hby:by_≤140737488355328):
  AO P ⟨d,.call ⟨.builtin .append,#[x,y],#[t,t]⟩,ty,pos,af,g⟩ fr B L (fun r L'=>∃b' cs',r= .sc (.slice (some ⟨b',0,none⟩) 1 cs'.length)∧cs'.take 1=[c]∧1≤cs'.length∧L'=(b',.box cs' e)::L):=by
 intro σ ρ w hρ hw
 have hxv:=(hρ x _ hx).sc_inv
 have hyv:=(hρ y u hy).im
 rw [hu] at hyv
 obtain ⟨A2,c2,hA2,_⟩:=hyv.imm_inv
 rw [hA2] at hyv
 obtain ⟨_,_,_,hs2,ys,hyl,hyr,hy1,hyc⟩:=hyv.row
 obtain ⟨b2,off2,rfl,hycc⟩:=hyc (by simp)
 haveI:=hc
 obtain ⟨inf,zz,hi,hsz,rfl,hzz,hzs⟩:=hc.info
 have hzc:=hz.int hi hzz w
 have hyl':ys.length=1 * inf.size:=by rw [hsz];exact hyl
 have hys1:ys.length=1:=by simpa using hyl
 obtain ⟨yv,rfl⟩:∃yv,ys=[yv]:=by
  match ys,hys1 with
  | [yv],_=>exact ⟨yv,rfl⟩
 have hyr':cS σ [c] [yv]:=hyr
 have hnews:∀j v,[yv][j]?=some v→w.cell? ((⟨b2,off2,none⟩:Addr).add j)=some v:=fun j v hj=>by rw [dJ];exact hw.froz _ _ _ (hycc j v hj)
 have hA2':ρ y= .slice (some ⟨b2,off2,none⟩) 1 c2:=hA2
 have hr:=run_append_nil (P:=P) w t ty e inf zz hc.under hi hzz ⟨b2,off2,none⟩ 1 c2 [yv] hyl' hnews (by omega) (by omega) (by omega)
 unfold gT
 rw [show (execOp ρ ⟨d,.call ⟨.builtin .append,#[x,y],#[t,t]⟩,ty,pos,af,g⟩).run P w= .ok (.value (.slice (some ⟨w.heap.size,0,none⟩) 1 (grownCap w 1 0 e))) (w.drew.alloc (.cells ([yv].toArray++Builtin.zeroCells zz.cells (grownCap w 1 0 e - 1)) e)) by
  simp [execOp,resolve,hxv,hA2',invoke,builtin,hr]]
 rw [hzc,mJ]
 have hge:=grownCap_ge w 1 0 e
 generalize grownCap w 1 0 e=cap' at *
 have hlen:([c]++List.replicate (cap' - 1) (AV.sc (.int .i64 0))).length=cap':=by simp;omega
 refine ⟨σ,.sc _,_,Mem.le_refl _,.sc _,(hw.drew _).alloc _ (.box ([c]++List.replicate (cap' - 1) (.sc (.int .i64 0))) e) ⟨[yv]++List.replicate (cap' - 1) (.int .i64 0),by simp,eQ hyr' (zD _ _),fun u hu=>?_⟩,w.heap.size,_,by rw [hlen],by simp,by rw [hlen];exact hge,rfl⟩
 rcases Ll hu with hu | hu
 ·exact hy1 _ hu
 ·rw [(List.mem_replicate.1 hu).2];rfl
theorem Hp {e by_ b n cap hi:Nat} {k:IntKind} {a:Int} (hc:ln P t e 1 by_) (hx:bh fr x=some (.sc (.slice (some ⟨b,0,none⟩) n cap))) (hy:bh fr y=some (.sc (.int k a))) (ha:a=(hi:Int)) (h:hi≤cap) (h0:0 < cap):Av P ⟨d,.slice t x none (some y) none,ty,pos,af,g⟩ fr (.sc (.slice (some ⟨b,0,none⟩) hi cap)):=by
 intro σ ρ w hρ _
 subst ha
 haveI:=hc
 refine ⟨_,?_,.sc _⟩
 have h3:cap≠0:=by omega
 simp [execOp,(hρ x _ hx).sc_inv,(hρ y _ hy).sc_inv,Instr.sliceAt,Instr.slice,Instr.sliceBounds,Instr.sliceBound,asIntOf,run_underlying hc.under,d5 (t:=t),h,h3,dJ]
def jb (P:Program) (t:TypeId):Bool:=match P.underlying t with | some (.interface _)=>false | some _=>true | none=>false
theorem mD (h:jb P t=true):∃d,P.underlying t=some d∧∀ms,d≠ .interface ms:=by
 unfold jb at h
 split at h
 ·cases h
 ·rename_i d hd hu
  exact ⟨d,hu,fun ms e=>hd ms e⟩
 ·cases h
theorem F8 {v:Value} (ht:jb P t=true) (hx:bh fr x=some (.sc v)):Av P ⟨d,.makeInterface t x,ty,pos,af,g⟩ fr (.sc (.iface t v)):=by
 obtain ⟨dd,hu,hn⟩:=mD ht
 refine eL fun ρ w hρ=>?_
 have:(Instr.makeInterface t v).run P w= .ok (.iface t v) w:=by
  simp only [Instr.makeInterface,Sem.run_bind,run_underlying hu,Result.andThen]
  cases dd with
  | interface ms=>exact absurd rfl (hn ms)
  | _=>rfl
 simp only [execOp,hρ x _ hx,Sem.run_bind,this,Result.andThen,Sem.run_pure]
theorem uP {v:Value} (ht:jb P t=true) (hx:bh fr x=some (.sc (.iface t v))):Av P ⟨d,.typeAssert x t' t false,ty,pos,af,g⟩ fr (.sc v):=by
 obtain ⟨dd,hu,hn⟩:=mD ht
 refine eL fun ρ w hρ=>?_
 have:(Instr.typeAssert (.iface t v) t' t false).run P w= .ok v w:=by
  simp only [Instr.typeAssert,Sem.run_bind,run_underlying hu,Result.andThen]
  cases dd with
  | interface ms=>exact absurd rfl (hn ms)
  | _=>simp
 simp only [execOp,hρ x _ hx,Sem.run_bind,this,Result.andThen,Sem.run_pure]
structure n9 (P:Program) (t:TypeId) (name:String) (f:FuncId) (ptr:Bool) (e:TypeId):Prop where
 under:P.underlying t=some (.pointer e)
 ex:∃ti m,P.info? t=some ti∧ti.methods.find? (·.name==name)=some m∧m.path=#[]∧m.func=some (f,ptr)
theorem n9.run {name:String} {f:FuncId} {e:TypeId} (h:n9 P t name f true e) (v:Value) (n:Nat) (w:World):(method (n+1) t v name).run P w= .ok (f,v) w:=by
 obtain ⟨hu,ti,m,h1,h2,h3,h4⟩:=h
 rw [method]
 simp [typeInfo,h1,h2,h3,h4,follow,receiverAt,run_underlying hu,Result.andThen,Place.get]
theorem wk {t t':TypeId} {a:Addr} {p q:String} {w:World}:(Builtin.ssaWrapNilChk_ #[t] t' #[.pointer (some a),strVal p,strVal q]).run P w= .ok (.pointer (some a)) w:=rfl
theorem n9.runV {name:String} {f:FuncId} {e:TypeId} (h:n9 P t name f false e) {a:Addr} {v:Value} {w:World} (hl:(loadVar e a).run P w= .ok v w) (n:Nat):(method (n+1) t (.pointer (some a)) name).run P w= .ok (f,v) w:=by
 obtain ⟨hu,ti,m,h1,h2,h3,h4⟩:=h
 unfold method
 simp [typeInfo,h1,h2,h3,h4,follow,receiverAt,run_underlying hu,Result.andThen,Place.get,wk,asAddr,hl]
theorem rL {ρ:Operand→Value} {w:World} {f:FuncId} {name:String} {v rv:Value} {args:Array Operand} {ts:Array TypeId} (hf:bD P f) (hxv:ρ x= .iface t v) (hm:(method (P.types.size+Made.depth) t v name).run P w= .ok (f,rv) w):(execOp ρ ⟨d,.call ⟨.invoke x name,args,ts⟩,ty,pos,af,g⟩).run P w= .ok (.enter f (rv::args.toList.map ρ).toArray) w:=by
 have e0:(#[ρ x]++args.map ρ)[0]?=some (.iface t v):=by rw [hxv,←Array.getElem?_toList];simp
 have e1:(#[ρ x]++args.map ρ).extract 1 (#[ρ x]++args.map ρ).size=args.map ρ:=by
  apply Array.toList_inj.1
  simp
  exact List.take_of_length_le (by simp)
 have e2:(rv::args.toList.map ρ).toArray=#[rv]++args.map ρ:=by
  apply Array.toList_inj.1
  simp
 rw [e2]
 have h3:(callMethod (.iface t v) name (args.map ρ)).run P w= .ok (.enter f (#[rv]++args.map ρ)) w:=by
  simp only [callMethod,Sem.run_bind,run_program,Result.andThen,hm,hf.enters]
 have h4:(invoke (.fn (.method name) #[]) (#[ρ x]++args.map ρ)).run P w= .ok (.enter f (#[rv]++args.map ρ)) w:=by
  unfold invoke
  rw [e0,e1]
  exact h3
 simp only [execOp,resolve,Sem.run_bind,Sem.run_pure,Result.andThen,h4]
theorem zQ (Lc Lf:AL) {f:FuncId} {name:String} {e:TypeId} {a:Addr} {args:Array Operand} {ts:Array TypeId} {cs:List AV} {Post:AV→AL→Prop} [hf:bD P f] (hm:n9 P t name f true e) (hx:bh fr x=some (.sc (.iface t (.pointer (some a))))) (hv:dy fr args.toList=some cs) (hL:L.Perm (Lc++Lf)) (h:AC P f (.sc (.pointer (some a))::cs) Lc Post):
  AO P ⟨d,.call ⟨.invoke x name,args,ts⟩,ty,pos,af,g⟩ fr B L (fun c L'=>∃L1,Post c L1∧L'=L1++Lf):=by
 intro σ ρ w hρ hw0
 have hw:=hw0.perm hL
 have hxv:=(hρ x _ hx).sc_inv
 have hvs:=ey hρ _ _ hv
 unfold gT
 rw [show (execOp ρ ⟨d,.call ⟨.invoke x name,args,ts⟩,ty,pos,af,g⟩).run P w= .ok (.enter f (.pointer (some a)::args.toList.map ρ).toArray) w from rL hf hxv (by
  have hmr:=hm.run (.pointer (some a)) (P.types.size+Made.depth - 1) w
  rwa [show P.types.size+Made.depth - 1+1=P.types.size+Made.depth by unfold Made.depth;omega] at hmr)]
 refine (h σ w _ (.cons (.sc _) hvs) hw.enter).mono fun en w' ⟨v,τ,c,L',h1,h2,h3,h4⟩=>⟨v,h1,τ,c,L'++Lf,h3.grow,h2,hw.leave h3,L',h4,rfl⟩
theorem wR (i:Nat) (Lc Lf:AL) {f:FuncId} {name:String} {e b:Nat} {e':TypeId} {args:Array Operand} {ts:Array TypeId} {cs ds:List AV} {Post:AV→AL→Prop} [hf:bD P f] (hm:n9 P t name f false e) (he:EV P e) (hx:bh fr x=some (.sc (.iface t (.pointer (some ⟨b,0,none⟩))))) (hi:L[i]?=some (b,.box ds e')) (hd:ds[0]?=some u) (hv:dy fr args.toList=some cs) (hL:L.Perm (Lc++Lf)) (h:AC P f (u::cs) Lc Post):
  AO P ⟨d,.call ⟨.invoke x name,args,ts⟩,ty,pos,af,g⟩ fr B L (fun c L'=>∃L1,Post c L1∧L'=L1++Lf):=by
 intro σ ρ w hρ hw0
 have hw:=hw0.perm hL
 have hxv:=(hρ x _ hx).sc_inv
 have hvs:=ey hρ _ _ hv
 obtain ⟨vs,hb,hs,_⟩:=hw0.boxCell hi
 obtain ⟨v,hv1,hr1⟩:=hs.get hd
 have hcell:w.cell? ⟨b,0,none⟩=some v:=by rw [cX hb];simpa using hv1
 have hload:(loadVar e ⟨b,0,none⟩).run P w= .ok v w:=fJ hcell
 unfold gT
 rw [show (execOp ρ ⟨d,.call ⟨.invoke x name,args,ts⟩,ty,pos,af,g⟩).run P w= .ok (.enter f (v::args.toList.map ρ).toArray) w from rL hf hxv (by
  have hmr:=hm.runV hload (P.types.size+Made.depth - 1)
  rwa [show P.types.size+Made.depth - 1+1=P.types.size+Made.depth by unfold Made.depth;omega] at hmr)]
 refine (h σ w _ (.cons hr1 hvs) hw.enter).mono fun en w' ⟨v,τ,c,L',h1,h2,h3,h4⟩=>⟨v,h1,τ,c,L'++Lf,h3.grow,h2,hw.leave h3,L',h4,rfl⟩
theorem Ht {a b c e:Int} (ht:ky P t) (hg:P.eqGuardType P.depth t=false) (hx:bh fr x=some (.agg [.sc (.int .i64 a),.sc (.int .i64 b)])) (hy:bh fr y=some (.agg [.sc (.int .i64 c),.sc (.int .i64 e)])):Av P ⟨d,.binOp .eql t x y t',ty,pos,af,g⟩ fr (.sc (.bool (decide (a=c∧b=e)))):=by
 intro σ ρ w hρ _
 refine ⟨_,?_,.sc _⟩
 have h1:=uF (hρ x _ hx)
 have h2:=uF (hρ y _ hy)
 have h3:=ht.eq a b c e w
 unfold Op.equal at h3
 rw [show Op.maxDepth=10000 from rfl] at h3
 simp only [execOp,h1,h2,Sem.run_bind,run_eqGuard_agg w .eql t x y _ _ hg,run_eql_struct,h3,Result.andThen,Sem.run_pure]
end
section
variable {P:Program} {tt:TT} {r:Option Nat} {ops:Array Oper} {Q:Exit→Act→World→Prop} {nt:Nat} {D:List Deferred} {fr:bT} {B:Bs} {L:AL} {rest:List Oper} {d:Nat} {ty t t':TypeId} {pos:String} {af:Array Edge} {x y z:Operand} {u:AV}
theorem AZ (ok:eu P tt) (i:Nat) {e by_ b n cap:Nat} {cs:List AV} {c:AV} (ht:kr tt t=some (e,1,by_)) (hz:zI tt e=some [.int .i64 0]) (hx:bh fr x=some (.sc (.slice (some ⟨b,0,none⟩) n cap))) (hy:bh fr y=some u) (hu:j6 u=some (1,[[c]])) (hL:L[i]?=some (b,.box cs e)) (hcl:cs.length=cap) (hn:n≤cap) (h63:n+1≤9223372036854775807) (hby:(n+1) * by_≤140737488355328) (hd:Nat.ble nt d=false)
  (h:∀b' cs',cs'.take (n+1)=cs.take n++[c]→n+1≤cs'.length→br P r ops Q nt D rest ((d,.sc (.slice (some ⟨b',0,none⟩) (n+1) cs'.length))::fr) B ((b',.box cs' e)::L.eraseIdx i)):
  br P r ops Q nt D (⟨some d,.call ⟨.builtin .append,#[x,y],#[t,t]⟩,ty,pos,af,none⟩::rest) fr B L:=
 cw hd rfl (qu i (bo ok ht).1 (f5 ok hz) hx hy (cY hu) hL hcl hn h63 hby) fun q L' ⟨b',cs',h1,h2,h3,h4⟩=>by subst h1;subst h4;exact h b' cs' h2 h3
theorem B0 (ok:eu P tt) {e by_:Nat} {c:AV} (ht:kr tt t=some (e,1,by_)) (hz:zI tt e=some [.int .i64 0]) (hx:bh fr x=some (.sc (.slice none 0 0))) (hy:bh fr y=some u) (hu:j6 u=some (1,[[c]])) (hby:Nat.ble by_ 140737488355328=true) (hd:Nat.ble nt d=false)
  (h:∀b' cs',cs'.take 1=[c]→1≤cs'.length→br P r ops Q nt D rest ((d,.sc (.slice (some ⟨b',0,none⟩) 1 cs'.length))::fr) B ((b',.box cs' e)::L)):
  br P r ops Q nt D (⟨some d,.call ⟨.builtin .append,#[x,y],#[t,t]⟩,ty,pos,af,none⟩::rest) fr B L:=
 cw hd rfl (qw (bo ok ht).1 (f5 ok hz) hx hy (cY hu) (Nat.ble_eq .. ▸hby)) fun q L' ⟨b',cs',h1,h2,h3,h4⟩=>by subst h1;subst h4;exact h b' cs' h2 h3
theorem DX (ok:eu P tt) (hi:Nat) {e by_ b n cap:Nat} {k:IntKind} {a:Int} (ht:kr tt t=some (e,1,by_)) (hx:bh fr x=some (.sc (.slice (some ⟨b,0,none⟩) n cap))) (hy:bh fr y=some (.sc (.int k a))) (ha:a=(hi:Int)) (h1:hi≤cap) (h0:0 < cap) (hd:Nat.ble nt d=false) (h:br P r ops Q nt D rest ((d,.sc (.slice (some ⟨b,0,none⟩) hi cap))::fr) B L):
  br P r ops Q nt D (⟨some d,.slice t x none (some y) none,ty,pos,af,none⟩::rest) fr B L:=ci (Hp (bo ok ht).1 hx hy ha h1 h0) hd rfl h
theorem nN {v:Value} (ht:jb P t=true) (hx:bh fr x=some (.sc v)) (hd:Nat.ble nt d=false) (h:br P r ops Q nt D rest ((d,.sc (.iface t v))::fr) B L):br P r ops Q nt D (⟨some d,.makeInterface t x,ty,pos,af,none⟩::rest) fr B L:=ci (F8 ht hx) hd rfl h
theorem DS {v:Value} (ht:jb P t=true) (hx:bh fr x=some (.sc (.iface t v))) (hd:Nat.ble nt d=false) (h:br P r ops Q nt D rest ((d,.sc v)::fr) B L):br P r ops Q nt D (⟨some d,.typeAssert x t' t false,ty,pos,af,none⟩::rest) fr B L:=ci (uP ht hx) hd rfl h
theorem vY (Lc Lf:AL) {f:FuncId} {name:String} {e:TypeId} {a:Addr} {args:Array Operand} {ts:Array TypeId} {cs:List AV} {Post:AV→AL→Prop} [hf:bD P f] (hm:n9 P t name f true e) (hx:bh fr x=some (.sc (.iface t (.pointer (some a))))) (hv:dy fr args.toList=some cs) (hL:L.Perm (Lc++Lf)) (hc:AC P f (.sc (.pointer (some a))::cs) Lc Post) (hn:Oper.noDefer ⟨some d,.call ⟨.invoke x name,args,ts⟩,ty,pos,af,none⟩=true) (hd:Nat.ble nt d=false) (h:∀c L1,Post c L1→br P r ops Q nt D rest ((d,c)::fr) B (L1++Lf)):
  br P r ops Q nt D (⟨some d,.call ⟨.invoke x name,args,ts⟩,ty,pos,af,none⟩::rest) fr B L:=cw hd hn (zQ Lc Lf hm hx hv hL hc) fun c L' ⟨L1,h1,h2⟩=>by subst h2;exact h c L1 h1
theorem dZ (i:Nat) (Lc Lf:AL) {f:FuncId} {name:String} {e b:Nat} {e':TypeId} {args:Array Operand} {ts:Array TypeId} {cs ds:List AV} {Post:AV→AL→Prop} [hf:bD P f] (hm:n9 P t name f false e) (he:EV P e) (hx:bh fr x=some (.sc (.iface t (.pointer (some ⟨b,0,none⟩))))) (hi:L[i]?=some (b,.box ds e')) (hd0:ds[0]?=some u) (hv:dy fr args.toList=some cs) (hL:L.Perm (Lc++Lf)) (hc:AC P f (u::cs) Lc Post) (hn:Oper.noDefer ⟨some d,.call ⟨.invoke x name,args,ts⟩,ty,pos,af,none⟩=true) (hd:Nat.ble nt d=false) (h:∀c L1,Post c L1→br P r ops Q nt D rest ((d,c)::fr) B (L1++Lf)):
  br P r ops Q nt D (⟨some d,.call ⟨.invoke x name,args,ts⟩,ty,pos,af,none⟩::rest) fr B L:=cw hd hn (wR i Lc Lf hm he hx hi hd0 hv hL hc) fun c L' ⟨L1,h1,h2⟩=>by subst h2;exact h c L1 h1
theorem Ic {a b c e:Int} (ht:ky P t) (hg:P.eqGuardType P.depth t=false) (hx:bh fr x=some (.agg [.sc (.int .i64 a),.sc (.int .i64 b)])) (hy:bh fr y=some (.agg [.sc (.int .i64 c),.sc (.int .i64 e)])) (hd:Nat.ble nt d=false) (h:br P r ops Q nt D rest ((d,.sc (.bool (decide (a=c∧b=e))))::fr) B L):br P r ops Q nt D (⟨some d,.binOp .eql t x y t',ty,pos,af,none⟩::rest) fr B L:=ci (Ht ht hg hx hy) hd rfl h
end
end Go.Proofs.YtpmdfoaadejmkaaGreatDoor
namespace Go.Proofs.YtpmdfoaadejmkaaGreatDoor
open Go.RowKit
section
variable {P:Program} {fr:bT} {B:Bs} {L:AL} {d:Option Tmp} {ty t t' tn:TypeId} {pos:String} {af:Array Edge} {g:Option (Nat×Bool)} {x y z q:Operand} {u:AV}
theorem wQ {e sz by_ n:Nat} {k kn:IntKind} {a:Int} (hc:ln P t e sz by_) (hsz:0 < sz) (hn:P.underlying tn=some (.int kn)) (hx:bh fr x=some (.sc (.slice none 0 0))) (hy:bh fr y=some (.sc (.int k a))) (ha:a=(n:Int)) (h0:0 < n) (h63:n≤9223372036854775807) (hby:n * by_≤281474976710656):
  AO P ⟨d,.call ⟨.builtin .append,#[x,y],#[t,tn]⟩,ty,pos,af,g⟩ fr B L (fun r L'=>∃b cap,r= .sc (.slice (some ⟨b,0,none⟩) n cap)∧n≤cap∧cap≤maxLen∧L'=(b,.vec e sz 0 cap)::L):=by
 intro σ ρ w hρ hw
 subst ha
 haveI:=hc
 obtain ⟨inf,zz,hi,rfl,rfl,hzz,hzs⟩:=hc.info
 have hr:=Lib.run_append_nil_zeros (P:=P) w t tn ty e inf zz k kn hc.under hn hi hzz n h0 hsz (by omega) hby
 unfold gT
 rw [show (execOp ρ ⟨d,.call ⟨.builtin .append,#[x,y],#[t,tn]⟩,ty,pos,af,g⟩).run P w= .ok (.value (.slice (some ⟨w.heap.size,0,none⟩) n (grownCap w n 0 e))) (w.drew.alloc (.cells (Builtin.zeroCells zz.cells n++Builtin.zeroCells zz.cells (grownCap w n 0 e - n)) e)) by
  simp [execOp,resolve,(hρ x _ hx).sc_inv,(hρ y _ hy).sc_inv,invoke,builtin,hr]]
 have hge:=grownCap_ge w n 0 e
 have hm:=grownCap_le_maxLen w n 0 e (by unfold maxLen;omega)
 refine ⟨σ,.sc _,_,Mem.le_refl _,.sc _,(hw.drew _).alloc _ (.vec e inf.size 0 (grownCap w n 0 e)) ⟨_,rfl,?_,Nat.zero_le _,hm⟩,w.heap.size,_,rfl,hge,hm,rfl⟩
 rw [Array.size_append,size_zeroCells,size_zeroCells,hzs,←Nat.add_mul]
 congr 1
 omega
theorem Ho {A:Option Addr} {n c e sz by_:Nat} (hc:ln P t e sz by_) (hx:bh fr x=some (.sc (.slice A n c))):Av P ⟨d,.call ⟨.builtin .cap,#[x],#[t]⟩,ty,pos,af,g⟩ fr (.sc (.int .i64 c)):=
 eL fun ρ w hρ=>by simp [execOp,resolve,hρ _ _ hx,invoke,builtin,Builtin.cap_,run_underlying hc.under,Result.andThen,goInt]
theorem Hs {e sz by_:Nat} {k:IntKind} (hc:ln P t e sz by_) (hx:bh fr x=some (.sc (.slice none 0 0))) (hy:bh fr y=some (.sc (.int k 0))):Av P ⟨d,.slice t x none (some y) none,ty,pos,af,g⟩ fr (.sc (.slice none 0 0)):=by
 intro σ ρ w hρ _
 haveI:=hc
 refine ⟨_,?_,.sc _⟩
 simp [execOp,(hρ x _ hx).sc_inv,(hρ y _ hy).sc_inv,Instr.sliceAt,Instr.slice,Instr.sliceBounds,Instr.sliceBound,asIntOf,run_underlying hc.under,d5 (t:=t)]
end
section
variable {P:Program} {tt:TT} {r:Option Nat} {ops:Array Oper} {Q:Exit→Act→World→Prop} {nt:Nat} {D:List Deferred} {fr:bT} {B:Bs} {L:AL} {rest:List Oper} {d:Nat} {ty t t' tn:TypeId} {pos:String} {af:Array Edge} {x y z:Operand} {u:AV}
theorem B2 (ok:eu P tt) (n:Nat) {e sz by_:Nat} {k kn:IntKind} {a:Int} (ht:kr tt t=some (e,sz,by_)) (hn:P.underlying tn=some (.int kn)) (hx:bh fr x=some (.sc (.slice none 0 0))) (hy:bh fr y=some (.sc (.int k a))) (ha:a=(n:Int)) (h0:0 < n) (h63:n≤9223372036854775807) (hby:n * by_≤281474976710656) (hd:Nat.ble nt d=false)
  (h:∀b cap,n≤cap→cap≤maxLen→br P r ops Q nt D rest ((d,.sc (.slice (some ⟨b,0,none⟩) n cap))::fr) B ((b,.vec e sz 0 cap)::L)):
  br P r ops Q nt D (⟨some d,.call ⟨.builtin .append,#[x,y],#[t,tn]⟩,ty,pos,af,none⟩::rest) fr B L:=
 cw hd rfl (wQ (bo ok ht).1 (bo ok ht).2 hn hx hy ha h0 h63 hby) fun q L' ⟨b,cap,h1,h2,h3,h4⟩=>by subst h1;subst h4;exact h b cap h2 h3
theorem ue (ok:eu P tt) {A:Option Addr} {n c e sz by_:Nat} (ht:kr tt t=some (e,sz,by_)) (hx:bh fr x=some (.sc (.slice A n c))) (hd:Nat.ble nt d=false) (h:br P r ops Q nt D rest ((d,.sc (.int .i64 c))::fr) B L):br P r ops Q nt D (⟨some d,.call ⟨.builtin .cap,#[x],#[t]⟩,ty,pos,af,none⟩::rest) fr B L:=ci (Ho (bo ok ht).1 hx) hd rfl h
theorem Ib (ok:eu P tt) {e sz by_:Nat} {k:IntKind} (ht:kr tt t=some (e,sz,by_)) (hx:bh fr x=some (.sc (.slice none 0 0))) (hy:bh fr y=some (.sc (.int k 0))) (hd:Nat.ble nt d=false) (h:br P r ops Q nt D rest ((d,.sc (.slice none 0 0))::fr) B L):
  br P r ops Q nt D (⟨some d,.slice t x none (some y) none,ty,pos,af,none⟩::rest) fr B L:=ci (Hs (bo ok ht).1 hx hy) hd rfl h
end
theorem GL {σ:Mem} {b cap sz:Nat} {v:Value} (hm:cap≤maxLen) (h:VR σ (.sc (.slice (some ⟨b,0,none⟩) 0 cap)) v):VR σ (.vec (some (b,cap)) sz []) v:=by
 rw [h.sc_inv]
 exact lY (l:=[]) (xs:=[]) (by simp) cS.nil (by simp) (Nat.zero_le _) hm (by simp)
end Go.Proofs.YtpmdfoaadejmkaaGreatDoor
