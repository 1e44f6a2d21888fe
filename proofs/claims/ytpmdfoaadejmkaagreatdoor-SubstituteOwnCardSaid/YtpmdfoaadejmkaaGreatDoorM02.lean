/-
  A region whose order Go leaves open, all of whose operations have values that are known: it is walked once, in the order of the text.
-/
import Derived.Test.YtpmdfoaadejmkaaGreatDoorM01
import Derived.Maps.AppendAt
import Derived.Laws.MakeOwn
import Derived.Laws.OwnMore
import Derived.Laws.CopyRow
import Derived.Laws.IdiomCopy
import Derived.Great.BuildSlice
namespace Go.Proofs.YtpmdfoaadejmkaaGreatDoor
open Go.RowKit
variable {P:Program} {r:Option Nat} {Q:Exit→Act→World→Prop} {nt:Nat} {D:List Deferred} {fr:Fr} {I:World→Prop}
def nv (ops:Array Oper) (ε:Nat→Value) (fr:Fr):Nat→Fr
 | 0=>fr
 | n+1=>match eV ops n with
  | some t=>(t,ε n)::nv ops ε fr n
  | none=>nv ops ε fr n
theorem mT {ops:Array Oper} {ε:Nat→Value} {fr:Fr}:∀(n:Nat) {t:Nat} {v:Value},fv (nv ops ε fr n) t=some v→
  (∃i,i < n∧eV ops i=some t∧v=ε i)∨(fv fr t=some v∧∀i,i < n→eV ops i≠some t)
 | 0,t,v,h=> .inr ⟨h,by intro i hi;omega⟩
 | n+1,t,v,h=>by
  simp only [nv] at h
  cases hd:eV ops n with
  | none=>
   rw [hd] at h
   rcases mT n h with ⟨i,hi,h1⟩ | ⟨h1,h2⟩
   ·exact .inl ⟨i,by omega,h1⟩
   ·refine .inr ⟨h1,fun i hi=>?_⟩
    rcases Nat.lt_or_eq_of_le (Nat.le_of_lt_succ hi) with h | rfl
    ·exact h2 i h
    ·rw [hd];simp
  | some t'=>
   rw [hd] at h
   simp only [iY] at h
   by_cases e:t'=t
   ·subst e
    simp only [if_true,Option.some.injEq] at h
    exact .inl ⟨n,by omega,hd,h.symm⟩
   ·rw [if_neg e] at h
    rcases mT n h with ⟨i,hi,h1⟩ | ⟨h1,h2⟩
    ·exact .inl ⟨i,by omega,h1⟩
    ·refine .inr ⟨h1,fun i hi=>?_⟩
     rcases Nat.lt_or_eq_of_le (Nat.le_of_lt_succ hi) with h | rfl
     ·exact h2 i h
     ·rw [hd];intro e1;injection e1 with e1;exact e e1
def mr (nt:Nat):List Oper→Bool
 | []=>true
 | o::r=>(match o.dst with | none=>true | some t=>Nat.blt t nt) && mr nt r
theorem nT:∀(l:List Oper),mr nt l=true→∀(i t:Nat),eV l.toArray i=some t→t < nt
 | [],_,i,t,h=>by simp [eV] at h
 | o::l,hk,i,t,h=>by
  simp only [mr,Bool.and_eq_true] at hk
  cases i with
  | zero=>
   have:o.dst=some t:=by simpa [eV] using h
   simpa [this,Nat.blt_eq] using hk.1
  | succ i=>exact nT l hk.2 i t (by simpa [eV] using h)
theorem GE {id:Nat} {l:List Oper} (n0:Nat) {J:(Nat→Bool)→(Nat→Value)→World→Prop} (hn0:n0≤l.length) (ht:n5 l n0=true) (hm:P.follows .mixedOrders=true) (ok:kc l=true) (hs:mr nt l=true)
  (h0:∀w n,I w→J (fun _=>false) (fun _=>undef) { w with drawn:=n }) (hob:∀k o,k < n0→l[k]?=some o→Ob P l fr J k o)
  (fin:∀ε,TL P r l.toArray Q nt D (l.drop n0) (nv l.toArray ε fr n0) (J (fun i=>decide (i < n0)) ε)):T P r (.region id l.toArray true) Q nt D fr I:=by
 intro a w ha hw
 refine wpIn_region_any hm ?_
 have hnone:(fun i=>(Array.replicate l.toArray.size false).getD i false)=(fun _:Nat=>false):=by
  funext i
  by_cases hi:i < l.length <;> simp [hi]
 refine wN (J:=J) (fr:=fr) (D:=D) (nt:=nt) hn0 ht ok (nT l hs) hob ?_ _ _ (fun _=>undef) a _ (by simp) ?_ ?_ ?_ ?_ ?_
 ·intro ε a w hway hj
  refine fin ε a w ⟨hway.size,hway.defers,fun t v hl=>?_⟩ hj
  rcases mT _ hl with ⟨i,hi,hd,rfl⟩ | ⟨hl,hno⟩
  ·exact hway.done i t (by simpa using hi) hd
  ·exact hway.base t v hl fun i hi hd=>hno i (by simpa using hi) hd
 ·rw [hnone];intro i o _ h;simp at h
 ·intro i _;exact congrFun hnone i
 ·exact Nat.le_trans List.countP_le_length (by simp)
 ·rw [hnone]
  exact ⟨ha.size,ha.defers,fun t v hl _=>ha.look t v hl,fun i t h=>by simp at h⟩
 ·rw [hnone];exact h0 w _ hw
def lv (acc:Fr) (i:Nat):Value:=(fv acc i).getD undef
def DV (P:Program) (l:List Oper) (fr:Fr) (I:World→Prop) (fin:Fr→Prop):Nat→List Oper→Fr→Prop
 | _,[],acc=>fin acc
 | k,o::rest,acc=>∃u,(match o.guard with
   | none=>O P o (pZ l.toArray (lv acc) fr o.after.toList) I (fun v w=>v=u∧I w)
   | some (j,want)=>(lv acc j= .bool want∧O P o (pZ l.toArray (lv acc) fr o.after.toList) I (fun v w=>v=u∧I w))∨(lv acc j≠ .bool want∧u=undef))∧
   DV P l fr I fin (k+1) rest ((k,u)::acc)
def JN (P:Program) (r:Option Nat) (l:List Oper) (n0:Nat) (Q:Exit→Act→World→Prop) (nt:Nat) (D:List Deferred) (fr:Fr) (I:World→Prop) (acc:Fr):Prop:=TL P r l.toArray Q nt D (l.drop n0) (nv l.toArray (lv acc) fr n0) I
def DE (P:Program) (l:List Oper) (fr:Fr) (Bf Af:World→Prop) (k0:Nat) (fin:Fr→Prop):Nat→List Oper→Fr→Prop
 | _,[],acc=>fin acc
 | k,o::rest,acc=>∃u,o.guard=none∧(if k=k0 then O P o (pZ l.toArray (lv acc) fr o.after.toList) Bf (fun v w=>v=u∧Af w) else O P o (pZ l.toArray (lv acc) fr o.after.toList) Bf (fun v w=>v=u∧Bf w)∧O P o (pZ l.toArray (lv acc) fr o.after.toList) Af (fun v w=>v=u∧Af w))∧
   DE P l fr Bf Af k0 fin (k+1) rest ((k,u)::acc)
end Go.Proofs.YtpmdfoaadejmkaaGreatDoor
namespace Go.Proofs.YtpmdfoaadejmkaaGreatDoor
open Go.RowKit
variable {P:Program} {t ty:TypeId}
theorem iI {w:World} {b k:Nat} {v:Value} (h:w.cell? ⟨b,k,none⟩=some v):b < w.heap.size:=by
 rcases Nat.lt_or_ge b w.heap.size with hlt | hge
 ·exact hlt
 ·simp [World.cell?,Array.getElem?_eq_none hge] at h
theorem vE (l:List Value) (hl:0 < l.length):∀(n j:Nat),j < n * l.length→(List.replicate n l).flatten[j]?=l[j % l.length]?
 | 0,j,h=>by simp at h
 | n+1,j,h=>by
  rw [List.replicate_succ,List.flatten_cons]
  by_cases hj:j < l.length
  ·rw [List.getElem?_append_left hj,Nat.mod_eq_of_lt hj]
  ·rw [List.getElem?_append_right (by omega),vE l hl n (j - l.length) (by rw [Nat.add_mul] at h;omega)]
   rw [Nat.mod_eq_sub_mod (a:=j) (by omega)]
theorem rh (z:Array Value) (n:Nat) (hz:0 < z.size):(madeCells z (n * z.size)).toList=(List.replicate n z.toList).flatten:=by
 apply List.ext_getElem?
 intro j
 by_cases hj:j < n * z.size
 ·rw [vE z.toList (by simpa using hz) n j (by simpa using hj)]
  have hm:j % z.size < z.size:=Nat.mod_lt _ hz
  simp [madeCells,hj,hm]
 ·rw [List.getElem?_eq_none (by simp [madeCells];omega),List.getElem?_eq_none (by simp;omega)]
theorem oI (off:Nat):∀(cs:List Value) (m:Nat) (A:Array Value),((cs.zipIdx m).foldl (fun (a:Array Value) (p:Value×Nat)=>a.setIfInBounds (off+p.2) p.1) A).size=A.size∧
    ∀j,((cs.zipIdx m).foldl (fun (a:Array Value) (p:Value×Nat)=>a.setIfInBounds (off+p.2) p.1) A)[j]?=if off+m≤j∧j < off+m+cs.length∧j < A.size then cs[j - (off+m)]? else A[j]?
  | [], m, A => ⟨rfl, fun j => by rw [if_neg]; · rfl
                                  · simp;omega⟩
  | c::cs,m,A=>by
    obtain ⟨h1,h2⟩:=oI off cs (m+1) (A.setIfInBounds (off+m) c)
    refine ⟨by simpa using h1,fun j=>?_⟩
    simp only [List.zipIdx_cons,List.foldl_cons]
    rw [h2,Array.size_setIfInBounds,Array.getElem?_setIfInBounds]
    simp only [List.length_cons]
    by_cases hj:j=off+m
    · subst hj
      rw [if_neg (by omega),if_pos rfl]
      by_cases hA:off+m < A.size
      · rw [if_pos hA,if_pos (by omega)]
        simp
      · rw [if_neg hA,if_neg (by omega),Array.getElem?_eq_none (by omega)]
    · rw [if_neg (Ne.symm hj)]
      by_cases hc:off+(m+1)≤j∧j < off+(m+1)+cs.length∧j < A.size
      · rw [if_pos hc,if_pos (by omega)]
        have e:j - (off+m)=(j - (off+(m+1)))+1:=by omega
        rw [e,List.getElem?_cons_succ]
      · rw [if_neg hc,if_neg (by omega)]
theorem vC (sz n:Nat) (hsz:0 < sz):∀(vs:List Value) (k:Nat) (A:Array Value) (done:List Value),k+vs.length=n→A.size=n * sz→done.length=k * sz→(∀v∈vs,v.cells.size=sz)→A.toList.take (k * sz)=done→
  Instr.fill (fun i=>some (i * sz,sz)) A ((List.range' k vs.length).zip vs)=some (done++vs.flatMap (·.cells.toList)).toArray
 | [],k,A,done,hk,hA,hd,hv,ht=>by
  simp only [List.length_nil,Nat.add_zero] at hk
  subst hk
  simp only [List.length_nil,List.range'_zero,List.zip_nil_left,Instr.fill,List.flatMap_nil,List.append_nil]
  rw [←ht,List.take_of_length_le (by simp [hA])]
 | v::vs,k,A,done,hk,hA,hd,hv,ht=>by
  simp only [List.length_cons] at hk
  have hv0:=hv v (by simp)
  have hle:(k+1) * sz≤n * sz:=Nat.mul_le_mul_right _ (by omega)
  have e1:(k+1) * sz=k * sz+sz:=by rw [Nat.add_mul,Nat.one_mul]
  obtain ⟨h1,h2⟩:=oI (k * sz) v.cells.toList 0 A
  simp only [List.length_cons,List.range'_succ,List.zip_cons_cons,Instr.fill]
  rw [if_neg (by simp [hv0];omega)]
  have ef:v.cells.zipIdx.foldl (fun (cs:Array Value) (x:Value×Nat)=>cs.setIfInBounds (k * sz+x.2) x.1) A=(v.cells.toList.zipIdx 0).foldl (fun (a:Array Value) (p:Value×Nat)=>a.setIfInBounds (k * sz+p.2) p.1) A:=by
   rw [←Array.foldl_toList,Array.toList_zipIdx]
  have:=vC sz n hsz vs (k+1) _ (done++v.cells.toList) (by omega) (h1.trans hA) (by simp [hd,hv0,e1]) (fun u hu=>hv u (by simp [hu])) ?_
  ·rw [←ef] at this
   simpa [List.append_assoc] using this
  ·apply List.ext_getElem?
   intro j
   by_cases hj:j < (k+1) * sz
   ·rw [List.getElem?_take_of_lt hj,Array.getElem?_toList,h2]
    by_cases hj2:j < k * sz
    ·rw [if_neg (by omega),List.getElem?_append_left (by omega),←ht,List.getElem?_take_of_lt hj2,Array.getElem?_toList]
    ·rw [if_pos (by simp [hv0];omega),List.getElem?_append_right (by omega),hd,Nat.add_zero]
   ·rw [List.getElem?_eq_none (by rw [List.length_take];omega),List.getElem?_eq_none (by simp [hd,hv0];omega)]
theorem Ep {e sz by_:Nat} [hc:ln P t e sz by_] (hsz:Nat.blt 0 sz=true) (vs:List Value) (hv:∀v∈vs,v.cells.size=sz) (h24:Nat.ble (vs.length * sz) 16777216=true) (w:World):
    (Instr.buildSlice t vs.length ((List.range' 0 vs.length).zip vs).toArray).run P w= .ok (.slice (some ⟨w.heap.size,0,none⟩) vs.length vs.length) (w.alloc (.cells (vs.flatMap (·.cells.toList)).toArray e)):=by
  obtain ⟨i,z,hi,hs1,hs2,hz,hzs⟩:=hc.info
  have hsz':0 < sz:=by simpa [Nat.blt_eq] using hsz
  have h24':vs.length * sz≤16777216:=by simpa [Nat.ble_eq] using h24
  have hf:∀A:Array Value,A.size=vs.length * sz→Instr.fill (fun i=>some (i * sz,sz)) A ((List.range' 0 vs.length).zip vs)=some (vs.flatMap (·.cells.toList)).toArray:=fun A hA=>by
    have:=vC sz vs.length hsz' vs 0 A [] (by simp) hA (by simp) hv (by simp)
    simpa using this
  by_cases h0:vs.length * sz=0
  · have:=hf #[] (by simp [h0])
    have hl:vs.length=0:=by
      rcases Nat.mul_eq_zero.1 h0 with h | h
      · exact h
      · omega
    have hvs:vs=[]:=List.length_eq_zero_iff.1 hl
    subst hvs
    simp [Instr.buildSlice,run_underlying hc.under,sizeOf,typeInfo,hi,newRow,Instr.fill]
    have e0:∀A:Array Value,A.size=0→A=#[]:=fun A h=>Array.eq_empty_of_size_eq_zero h
    have e1:∀A:Array Value,A.size=0→w.alloc (.cells A e)=w.alloc (.cells #[] e):=fun A h=>by rw [e0 A h]
    exact e1 _ (by simp)
  · have:=hf ((Array.range (vs.length * sz)).map (z.cells[· % z.cells.size]!)) (by simp)
    have h1:¬vs.length * i.size > 2 ^ 24:=by rw [hs1];omega
    have h2:¬vs.length * i.size=0:=by rw [hs1];exact h0
    subst hs1
    exact run_buildSlice w t e vs.length _ _ i z hc.under hi hz h1 h2 this
theorem li {e sz by_:Nat} [hc:ln P t e sz by_] {A:Option Addr} {n c:Nat} (hn:n≤c) {A':Option Addr} {c':Nat} (w:World):(Builtin.append_ #[t,t] ty #[.slice A n c,.slice A' 0 c']).run P w= .ok (.slice A n c) w:=by
 have e1:(Builtin.lenOf (.slice A' 0 c')).run P w= .ok 0 w:=by simp [Builtin.lenOf]
 have e2:(Builtin.firstCells sz 0 (.slice A' 0 c')).run P w= .ok #[] w:=by
  cases A' <;> simp [Builtin.firstCells,loadCells,loadCellsFrom]
 simp [Builtin.append_,run_underlying hc.under,d5 (t:=t),e1,e2,hn]
 cases A <;> simp [storeCells]
def CE (dn:List Nat) (es:List Edge):Bool:=es.all fun e=> !Region.binds .any e || dn.any (Nat.beq e.on)
def Cn (o:Oper) (ε:Nat→Value) (A B:Prop):Prop:=match o.guard with
 | none=>A
 | some (j,want)=>(ε j= .bool want→A)∧(ε j≠ .bool want→B)
theorem Cn.mono {o:Oper} {ε:Nat→Value} {A B A' B':Prop} (h:Cn o ε A B) (ha:A→A') (hb:B→B'):Cn o ε A' B':=by
 unfold Cn at *
 split at h <;> simp_all
end Go.Proofs.YtpmdfoaadejmkaaGreatDoor
namespace Go.Proofs.YtpmdfoaadejmkaaGreatDoor
open Go.RowKit
def AV.cells:AV→Option (List AV)
 | .agg cs=>some cs
 | .sc v=>bif v.oneCell' then some [.sc v] else none
 | .tup _=>none
 | c=>some [c]
def Kp (c:AV):AV:=match c with
 | .vec _ sz l=> .imm sz l
 | .sc v=> .sc v
 | .agg cs=> .agg cs
 | .imm sz l=> .imm sz l
 | .iptr cs=> .iptr cs
 | .fn f cs=> .fn f cs
 | .fnB f fs cs=> .fnB f fs cs
 | .tup cs=> .tup cs
 | .new q sz l=> .new q sz l
theorem HZ (c:AV):Kp c=c.im:=by cases c <;> rfl
def gN:List AV→Option (List AV)
 | []=>some []
 | c::r=>match gN r with
  | some q=>match Kp c with
   | .sc v=>some (.sc v::q)
   | .agg cs=>some (.agg cs::q)
   | .imm sz l=>some (.imm sz l::q)
   | .vec k sz l=>some (.vec k sz l::q)
   | .iptr cs=>some (.iptr cs::q)
   | .fn f cs=>some (.fn f cs::q)
   | .fnB f fs cs=>some (.fnB f fs cs::q)
   | .tup cs=>some (.tup cs::q)
   | .new p sz l=>some (.new p sz l::q)
  | none=>none
theorem i4:∀{cs ds:List AV},gN cs=some ds→cs.map AV.im=ds
 | [],ds,h=>by simp [gN] at h;subst h;rfl
 | c::r,ds,h=>by
  simp only [gN] at h
  cases hq:gN r with
  | none=>rw [hq] at h;cases h
  | some q=>
   rw [hq] at h
   rw [Lp,i4 hq,←HZ]
   simp only at h
   split at h <;> cases h <;> rename_i hc <;> rw [hc]
def AV.cellsI (c:AV):Option (List AV):=match c.cells with
 | some cs=>gN cs
 | none=>none
theorem VR.one {σ:Mem} {c:AV} {v:Value} (h:VR σ c v):(∀cs,c≠ .agg cs)→(∀u,c≠ .sc u)→(∀cs,c≠ .tup cs)→v.oneCell'=true:=by
 intro h1 h2 h3
 cases h with
 | sc v=>exact absurd rfl (h2 v)
 | agg cs=>exact absurd rfl (h1 cs)
 | tup cs=>exact absurd rfl (h3 cs)
 | new q sz l v h hq=>cases h;rfl
 | _=>rfl
theorem VR.cells {σ:Mem} {c:AV} {v:Value} {cs:List AV} (h:VR σ c v) (hc:c.cells=some cs):cS σ cs v.cells.toList∧∀u∈v.cells.toList,u.oneCell'=true:=by
 have key:∀c':AV,cs=[c']→VR σ c' v→v.oneCell'=true→cS σ cs v.cells.toList∧∀u∈v.cells.toList,u.oneCell'=true:=by
  intro c' hcs hv h1
  subst hcs
  rw [sl h1]
  exact ⟨cS.cons hv cS.nil,fun u hu=>by simp at hu;subst hu;exact h1⟩
 cases c with
 | agg ds=>
  simp only [AV.cells,Option.some.injEq] at hc
  subst hc
  obtain ⟨vs,rfl,hs,h1⟩:=h.agg_inv
  simpa [Value.cells] using ⟨hs,h1⟩
 | sc u=>
  simp only [AV.cells] at hc
  cases h1:u.oneCell' with
  | false=>rw [h1] at hc;cases hc
  | true=>
   rw [h1] at hc
   simp only [cond_true,Option.some.injEq] at hc
   have:=h.sc_inv
   subst this
   exact key _ hc.symm h h1
 | tup ds=>cases hc
 | imm sz l=>exact key _ (by simpa [AV.cells] using hc.symm) h (h.one (by simp) (by simp) (by simp))
 | vec k sz l=>exact key _ (by simpa [AV.cells] using hc.symm) h (h.one (by simp) (by simp) (by simp))
 | iptr l=>exact key _ (by simpa [AV.cells] using hc.symm) h (h.one (by simp) (by simp) (by simp))
 | fn f l=>exact key _ (by simpa [AV.cells] using hc.symm) h (h.one (by simp) (by simp) (by simp))
 | fnB f q l=>exact key _ (by simpa [AV.cells] using hc.symm) h (h.one (by simp) (by simp) (by simp))
 | new p sz l=>exact key _ (by simpa [AV.cells] using hc.symm) h (h.one (by simp) (by simp) (by simp))
theorem cS.im {σ:Mem} {cs:List AV} {vs:List Value} (h:cS σ cs vs):cS σ (cs.map AV.im) vs:=by
 refine ⟨by simp [h.1],fun i c u hc hu=>?_⟩
 rw [List.getElem?_map] at hc
 obtain ⟨c',hc',rfl⟩:=Option.map_eq_some_iff.1 hc
 exact (h.2 i c' u hc' hu).im
theorem VR.cellsI {σ:Mem} {c:AV} {v:Value} {cs:List AV} (h:VR σ c v) (hc:c.cellsI=some cs):cS σ cs v.cells.toList∧∀u∈v.cells.toList,u.oneCell'=true:=by
 unfold AV.cellsI at hc
 split at hc
 ·rename_i ds hds
  rw [←i4 hc]
  exact ⟨(h.cells hds).1.im,(h.cells hds).2⟩
 ·cases hc
def kz:List AV→Option (List (List AV))
 | []=>some []
 | c::cs=>match c.cellsI with
  | none=>none
  | some x=>match kz cs with
   | none=>none
   | some xs=>some (x::xs)
theorem p9 {σ:Mem}:∀{cs:List AV} {vs:List Value} {xs:List (List AV)},cS σ cs vs→kz cs=some xs→cS σ xs.flatten (vs.flatMap fun v=>v.cells.toList)∧(∀u∈(vs.flatMap fun v=>v.cells.toList),u.oneCell'=true)∧xs.length=vs.length∧∀(i:Nat) (x:List AV),xs[i]?=some x→∃v:Value,vs[i]?=some v∧x.length=v.cells.size
 | [],vs,xs,h,hx=>by
  simp only [kz,Option.some.injEq] at hx
  subst hx
  rw [h.nil_inv]
  exact ⟨cS.nil,by simp,rfl,fun i x h=>by simp at h⟩
 | c::cs,vs,xs,h,hx=>by
  obtain ⟨v,ws,rfl,hv,hs⟩:=h.inv
  simp only [kz] at hx
  split at hx
  ·cases hx
  ·rename_i y hy
   split at hx
   ·cases hx
   ·rename_i ys hys
    cases hx
    obtain ⟨h1,h2,h3,h4⟩:=p9 hs hys
    obtain ⟨k1,k2⟩:=hv.cellsI hy
    refine ⟨?_,?_,by simp [h3],?_⟩
    ·rw [List.flatten_cons,List.flatMap_cons]
     refine ⟨by rw [List.length_append,List.length_append,k1.1,h1.1],fun i c u hc hu=>?_⟩
     have hl:=k1.1
     by_cases hi:i < y.length
     ·rw [List.getElem?_append_left hi] at hc
      rw [List.getElem?_append_left (by omega)] at hu
      exact k1.2 i c u hc hu
     ·rw [List.getElem?_append_right (by omega)] at hc
      rw [List.getElem?_append_right (by omega),←hl] at hu
      exact h1.2 _ c u hc hu
    ·intro u hu
     rw [List.flatMap_cons] at hu
     rcases Ll hu with hu | hu
     ·exact k2 u hu
     ·exact h2 u hu
    ·intro i x hi
     cases i with
     | zero=>simp at hi;subst hi;exact ⟨v,rfl,by have:=k1.1;simpa using this⟩
     | succ i=>exact h4 i x (by simpa using hi)
theorem tQ {α:Type} {sz:Nat}:∀(l:List (List α)) (i j:Nat) (e:List α) (c:α),(∀e∈l,e.length=sz)→l[i]?=some e→e[j]?=some c→l.flatten[i * sz+j]?=some c
 | [],i,j,e,c,_,h,_=>by simp at h
 | x::l,0,j,e,c,hs,h,hc=>by
  simp at h;subst h
  rw [List.flatten_cons,Nat.zero_mul,Nat.zero_add,List.getElem?_append_left (Ln hc).1]
  exact hc
 | x::l,i+1,j,e,c,hs,h,hc=>by
  have hx:=hs x (List.mem_cons_self ..)
  rw [List.flatten_cons,List.getElem?_append_right (by rw [hx,Nat.add_mul];omega),hx,show (i+1) * sz+j - sz=i * sz+j by rw [Nat.add_mul];omega]
  exact tQ l i j e c (fun e he=>hs e (Ls _ he)) (by simpa using h) hc
theorem ej {α:Type} {sz:Nat}:∀(l:List (List α)),(∀e∈l,e.length=sz)→l.flatten.length=l.length * sz
 | [],_=>by simp
 | x::l,hs=>by
  rw [List.flatten_cons,List.length_append,hs x (List.mem_cons_self ..),ej l fun e he=>hs e (Ls _ he),List.length_cons,Nat.add_mul];omega
theorem VR.row {σ:Mem} {sz:Nat} {l:List (List AV)} {A:Option Addr} {n cap:Nat} (h:VR σ (.imm sz l) (.slice A n cap)):n=l.length∧n≤cap∧cap≤maxLen∧(∀e∈l,e.length=sz)∧∃xs:List Value,xs.length=n * sz∧cS σ l.flatten xs∧(∀u∈xs,u.oneCell'=true)∧(0 < n→∃b off,A=some ⟨b,off,none⟩∧∀j u,xs[j]?=some u→σ b (off+j)=some u):=by
 obtain ⟨A',cap',he,hc,hm,hs,ha,hx,hy⟩:=h.imm_inv
 cases he
 refine ⟨rfl,hc,hm,hs,?_⟩
 by_cases hl:l=[]
 ·subst hl
  exact ⟨[],by simp,cS.nil,by simp,fun h=>by simp at h⟩
 obtain ⟨b,off,rfl⟩:=ha hl
 classical
 have hflen:=ej l hs
 have hsz:sz=0∨0 < sz:=by omega
 rcases hsz with rfl | hsz
 ·have h0:l.flatten=[]:=List.length_eq_zero_iff.1 (by rw [hflen];omega)
  exact ⟨[],by simp,by rw [h0];exact cS.nil,by simp,fun _=>⟨b,off,rfl,fun j u h=>by simp at h⟩⟩
 let f:Nat→Value:=fun j=>(σ b (off+j)).getD undef
 have hf:∀j,j < l.length * sz→σ b (off+j)=some (f j)∧(f j).oneCell'=true:=fun j hj=>by
  have h1:j / sz < l.length:=(Nat.div_lt_iff_lt_mul hsz).2 hj
  obtain ⟨u,hu,h2⟩:=hx (j / sz) b off (j % sz) rfl h1 (Nat.mod_lt _ hsz)
  have e:off+j / sz * sz+j % sz=off+j:=by rw [Nat.add_assoc,Nat.mul_comm,Nat.div_add_mod]
  rw [e] at hu
  exact ⟨by simp [f,hu],by simpa [f,hu] using h2⟩
 refine ⟨(List.range (l.length * sz)).map f,by simp,⟨by simp [hflen],fun i c u hc hu=>?_⟩,fun u hu=>?_,fun _=>⟨b,off,rfl,fun j u hj=>?_⟩⟩
 ·have hlt:i < l.length * sz:=by simpa using (Ln hu).1
  simp [hlt] at hu
  subst hu
  have h1:i / sz < l.length:=(Nat.div_lt_iff_lt_mul hsz).2 hlt
  have he:l[i / sz]?=some l[i / sz]:=Iy h1
  have hel:=hs _ (List.getElem_mem h1)
  have hj:i % sz < (l[i / sz]).length:=by rw [hel];exact Nat.mod_lt _ hsz
  have hcj:(l[i / sz])[i % sz]?=some (l[i / sz])[i % sz]:=Iy hj
  have e:i / sz * sz+i % sz=i:=by rw [Nat.mul_comm,Nat.div_add_mod]
  have:=tQ l _ _ _ _ hs he hcj
  rw [e,hc] at this
  injection this with this
  subst this
  refine hy (i / sz) _ b off (i % sz) _ _ he rfl hcj ?_
  rw [Nat.add_assoc,e]
  exact (hf i hlt).1
 ·obtain ⟨j,hj,rfl⟩:=List.mem_map.1 hu
  exact (hf j (by simpa using hj)).2
 ·have hlt:j < l.length * sz:=by simpa using (Ln hj).1
  simp [hlt] at hj
  subst hj
  exact (hf j hlt).1
theorem lY {σ:Mem} {sz b cap:Nat} {l:List (List AV)} {xs:List Value} (hs:∀e∈l,e.length=sz) (hx:cS σ l.flatten xs) (h1:∀u∈xs,u.oneCell'=true) (hc:l.length≤cap) (hm:cap≤maxLen) (hb:∀j u,xs[j]?=some u→σ b j=some u):VR σ (.vec (some (b,cap)) sz l) (.slice (some ⟨b,0,none⟩) l.length cap):=by
 have hflen:=ej l hs
 have hxl:=hx.1
 refine .vec b cap sz l hc hm hs (fun i j hi hj=>?_) fun i e j c u he hj hu=>?_
 ·have hlt:i * sz+j < xs.length:=by
   rw [←hxl,hflen]
   have:(i+1) * sz≤l.length * sz:=Nat.mul_le_mul_right _ hi
   rw [Nat.add_mul] at this
   omega
  rw [Nat.zero_add]
  exact ⟨xs[i * sz+j],hb _ _ (Iy hlt),h1 _ (List.getElem_mem hlt)⟩
 ·have hf:=tQ l i j e c hs he hj
  have hlt:i * sz+j < xs.length:=by rw [←hxl];exact (Ln hf).1
  have h2:=hb _ _ (Iy hlt)
  rw [Nat.zero_add,h2] at hu
  injection hu with hu
  subst hu
  exact hx.2 _ c _ hf (Iy hlt)
section
variable {B:Bs} {σ:Mem} {L:AL} {w:World}
theorem cL.fresh (h:cL B σ L w) {b:Nat} (hb:w.heap.size≤b) (off:Nat):σ b off=none:=by
 cases hq:σ b off with
 | none=>rfl
 | some u=>
  have:=iI (h.froz _ _ _ hq)
  omega
theorem cL.alloc (h:cL B σ L w) (o:Obj) (a:AB) (ha:a.holds σ o):cL B σ ((w.heap.size,a)::L) (w.alloc o):=by
 have hnew:(w.alloc o).heap[w.heap.size]?=some o:=World.alloc_heap_new w o
 refine ⟨h.os,h.tape,h.output,Nat.le_trans h.size (by simp),fun k hk hx=>(Below.heap_alloc w o k (Nat.lt_of_lt_of_le hk h.size)).trans (h.old k hk hx),?_,?_,?_,?_,?_,h.grow,h.same,fun b off u hb hu=>?_⟩
 rotate_right
 ·obtain ⟨cur,t,ho⟩:=h.cold b off u hb hu
  exact ⟨cur,t,(Below.heap_alloc w o b (iI (h.froz b off u hu))).trans ho⟩
 ·intro p hp
  rcases List.mem_cons.1 hp with rfl | hp
  ·exact ⟨o,hnew,ha⟩
  ·obtain ⟨o',ho,hq⟩:=h.here p hp
   exact ⟨o',(Below.heap_alloc w o p.1 (Array.getElem?_eq_some_iff.1 ho).1).trans ho,hq⟩
 ·intro p hp
  rcases List.mem_cons.1 hp with rfl | hp
  ·exact .inl h.size
  ·exact h.mine p hp
 ·simp only [Lp,List.nodup_cons]
  refine ⟨fun hm=>?_,h.apart⟩
  obtain ⟨p,hp,he⟩:=List.mem_map.1 hm
  have:=h.lt hp
  omega
 ·intro b off u hu
  have:=h.froz b off u hu
  rw [World.cell?_of_block (a:=⟨b,off,none⟩) (Below.heap_alloc w o b (iI this))]
  exact this
 ·intro p hp off hm
  rcases List.mem_cons.1 hp with rfl | hp
  ·exact h.fresh (Nat.le_refl _) off
  ·exact h.free p hp off hm
def Mem.add (σ:Mem) (b:Nat) (xs:List Value):Mem:=fun c off=>if c=b∧off < xs.length then xs[off]? else σ c off
theorem Mem.add_le {b:Nat} {xs:List Value} (h:∀off u,off < xs.length→σ b off=some u→xs[off]?=some u):σ.le (σ.add b xs):=by
 intro c off u hu
 unfold Mem.add
 split
 ·rename_i hc
  obtain ⟨rfl,hl⟩:=hc
  exact h off u hl hu
 ·exact hu
theorem Mem.add_at {b:Nat} {xs:List Value} {j:Nat} {u:Value} (h:xs[j]?=some u):σ.add b xs b j=some u:=by
 unfold Mem.add
 rw [if_pos ⟨rfl,(Ln h).1⟩,h]
theorem cL.freezeHead {b t sz n n' cap:Nat} {xs:List Value} (h:cL B σ ((b,.vec t sz n cap)::L) w) (hx:∀j u,xs[j]?=some u→w.cell? ⟨b,j,none⟩=some u) (hl:xs.length=n' * sz) (hn:n≤n') (hc:n'≤cap):cL B (σ.add b xs) ((b,.vec t sz n' cap)::L) w∧σ.le (σ.add b xs):=by
 have hfr:∀off u,off < xs.length→σ b off=some u→xs[off]?=some u:=fun off u hlt hu=>by
  have h1:=h.froz b off u hu
  have h2:=hx off xs[off] (Iy hlt)
  rw [h1] at h2
  injection h2 with h2
  rw [h2]
  exact Iy hlt
 have hle:σ.le (σ.add b xs):=Mem.add_le hfr
 have hmine:=h.mine _ (List.mem_cons_self ..)
 refine ⟨⟨h.os,h.tape,h.output,h.size,h.old,fun p hp=>?_,fun p hp=>?_,by have:=h.apart;simpa using this,fun c off u hu=>?_,fun p hp off hm=>?_,Mem.le_trans h.grow hle,fun c hc hx' off=>?_,fun c off u hb hu=>?_⟩,hle⟩
 rotate_right
 ·unfold Mem.add at hu
  split at hu
  ·rename_i hc'
   obtain ⟨rfl,_⟩:=hc'
   obtain ⟨o,ho,cur,h1,_⟩:=h.here _ (List.mem_cons_self ..)
   exact ⟨cur,t,by rw [ho,h1]⟩
  ·exact h.cold c off u hb hu
 ·rcases List.mem_cons.1 hp with rfl | hp
  ·obtain ⟨o,ho,cur,h1,h2,h3,h4⟩:=h.here _ (List.mem_cons_self ..)
   exact ⟨o,ho,cur,h1,h2,hc,h4⟩
  ·obtain ⟨o,ho,hh⟩:=h.here p (Ls _ hp)
   exact ⟨o,ho,AB.mono hle hh⟩
 ·rcases List.mem_cons.1 hp with rfl | hp
  ·exact hmine
  ·exact h.mine p (Ls _ hp)
 ·unfold Mem.add at hu
  split at hu
  ·rename_i hc
   obtain ⟨rfl,_⟩:=hc
   exact hx off u hu
  ·exact h.froz c off u hu
 ·have hap:=h.apart
  simp only [Lp,List.nodup_cons] at hap
  rcases List.mem_cons.1 hp with rfl | hp'
  ·have hm':n' * sz≤off:=hm
   show σ.add b xs b off=none
   unfold Mem.add
   rw [if_neg (by omega)]
   refine h.free _ (List.mem_cons_self ..) off ?_
   show n * sz≤off
   exact Nat.le_trans (Nat.mul_le_mul_right _ hn) hm'
  ·unfold Mem.add
   rw [if_neg (fun e=>hap.1 (by rw [←e.1];exact List.mem_map_of_mem hp'))]
   exact h.free p (Ls _ hp') off hm
 ·unfold Mem.add
  rw [if_neg]
  ·exact h.same c hc hx' off
  ·rintro ⟨rfl,_⟩
   rcases hmine with h1 | h1
   ·simp only at h1;omega
   ·exact hx' h1
end
section
variable {P:Program} {fr:bT} {B:Bs} {L:AL} {d:Option Tmp} {ty t t':TypeId} {pos:String} {af:Array Edge} {g:Option (Nat×Bool)} {x y:Operand} {u:AV}
theorem HN {cs:List AV} (hx:bh fr x=some u) (hc:u.cells=some cs):AO P ⟨d,.box t x,ty,pos,af,g⟩ fr B L (fun c L'=>∃b,c= .sc (.pointer (some ⟨b,0,none⟩))∧L'=(b,.box cs t)::L):=by
 intro σ ρ w hρ hw
 have h1:=(hρ x u hx).cells hc
 have hr:(execOp ρ ⟨d,.box t x,ty,pos,af,g⟩).run P w= .ok (.value (.pointer (some ⟨w.heap.size,0,none⟩))) (w.alloc (.cells (ρ x).cells t)):=by
  simp [execOp,Instr.box,newVar,newRow]
 unfold gT
 rw [hr]
 exact ⟨σ,_,_,Mem.le_refl _,.sc _,hw.alloc _ (.box cs t) ⟨_,rfl,h1.1,h1.2⟩,_,rfl,rfl⟩
theorem nd {z:List Value} (hz:CZ P t z) (h1:z.all (·.oneCell')=true):AO P ⟨d,.alloc t,ty,pos,af,g⟩ fr B L (fun c L'=>∃b,c= .sc (.pointer (some ⟨b,0,none⟩))∧L'=(b,.box (z.map .sc) t)::L):=by
 intro σ ρ w hρ hw
 obtain ⟨v,hv,hr⟩:=hz.run
 have hr:(execOp ρ ⟨d,.alloc t,ty,pos,af,g⟩).run P w= .ok (.value (.pointer (some ⟨w.heap.size,0,none⟩))) (w.alloc (.cells z.toArray t)):=by
  simp [execOp,Instr.alloc,hr,newVar,newRow,hv]
 unfold gT
 rw [hr]
 refine ⟨σ,_,_,Mem.le_refl _,.sc _,hw.alloc _ (.box (z.map .sc) t) ⟨z,rfl,⟨by simp,fun i c u hc hu=>?_⟩,fun u hu=>List.all_eq_true.1 h1 u hu⟩,_,rfl,rfl⟩
 rw [List.getElem?_map,hu] at hc
 simp at hc
 subst hc
 exact .sc u
theorem cL.boxCell {σ:Mem} {w:World} (h:cL B σ L w) {i b:Nat} {cs:List AV} {e:TypeId} (hL:L[i]?=some (b,.box cs e)):∃vs:List Value,w.heap[b]?=some (.cells vs.toArray e (0,0))∧cS σ cs vs∧∀u∈vs,u.oneCell'=true:=by
 obtain ⟨o,ho,vs,rfl,h1,h2⟩:=h.here _ (Lw hL)
 exact ⟨vs,ho,h1,h2⟩
theorem tG (i:Nat) {b k:Nat} {cs:List AV} {e:TypeId} (h:EV P t) (hx:bh fr x=some (.sc (.pointer (some ⟨b,k,none⟩)))) (hL:L[i]?=some (b,.box cs e)) (hc:cs[k]?=some u):AO P ⟨d,.load t x,ty,pos,af,g⟩ fr B L (fun c L'=>c=u∧L'=L):=by
 intro σ ρ w hρ hw
 obtain ⟨vs,hb,hs,_⟩:=hw.boxCell hL
 obtain ⟨v,hv,hr⟩:=hs.get hc
 have hcell:w.cell? ⟨b,k,none⟩=some v:=by rw [cX hb];simpa using hv
 unfold gT
 rw [show (execOp ρ ⟨d,.load t x,ty,pos,af,g⟩).run P w= .ok (.value v) w by simp [execOp,(hρ x _ hx).sc_inv,Instr.loadAt,Instr.sureAddr,fJ hcell]]
 exact ⟨σ,u,L,Mem.le_refl _,hr,hw,rfl,rfl⟩
theorem v8 (i:Nat) {b k n:Nat} {cs:List AV} {e:TypeId} (h:GN P t n) (hx:bh fr x=some (.sc (.pointer (some ⟨b,k,none⟩)))) (hL:L[i]?=some (b,.box cs e)) (hc:Nat.ble (k+n) cs.length=true):AO P ⟨d,.load t x,ty,pos,af,g⟩ fr B L (fun c L'=>c= .agg ((cs.drop k).take n)∧L'=L):=by
 intro σ ρ w hρ hw
 rw [Nat.ble_eq] at hc
 obtain ⟨vs,hb,hs,h1⟩:=hw.boxCell hL
 have hl:=hs.1
 have hrun:=fI (P:=P) (t:=t) (w:=w) (b:=b) (o:=k) (cs:=(vs.drop k).take n) (by simp;omega) (fun j v hj=>by
  rw [List.getElem?_take] at hj
  split at hj
  ·rw [List.getElem?_drop] at hj;rw [cX hb];simpa using hj
  ·cases hj)
 unfold gT
 rw [show (execOp ρ ⟨d,.load t x,ty,pos,af,g⟩).run P w= .ok (.value (.agg ((vs.drop k).take n).toArray)) w by simp only [execOp,(hρ x _ hx).sc_inv,Instr.loadAt,Instr.sureAddr,Sem.run_bind,Sem.run_pure,Result.andThen,hrun]]
 refine ⟨σ,_,L,Mem.le_refl _,.agg _ _ (by simp [hl]) (fun i c u hc hu=>?_) (fun u hu=>h1 u (List.mem_of_mem_drop (List.mem_of_mem_take hu))),hw,rfl,rfl⟩
 rw [List.getElem?_take] at hc hu
 split at hc
 ·rename_i hi
  rw [if_pos hi,List.getElem?_drop] at hu
  rw [List.getElem?_drop] at hc
  exact hs.2 _ c u hc hu
 ·cases hc
end
end Go.Proofs.YtpmdfoaadejmkaaGreatDoor
namespace Go.Proofs.YtpmdfoaadejmkaaGreatDoor
open Go.RowKit
section
variable {B:Bs} {σ:Mem} {L:AL} {w w':World}
def eF (L:AL) (i:Nat) (q:AB):AL:=match L,i with
 | [],_=>[]
 | p::r,0=>(p.1,q)::r
 | p::r,i+1=>p::eF r i q
theorem dY {L:AL} {i:Nat} {p:Nat×AB} (h:L[i]?=some p):L.Perm (p::L.eraseIdx i):=by
 induction L generalizing i with
 | nil=>simp at h
 | cons a r ih=>
  cases i with
  | zero=>simp at h;subst h;simp
  | succ i=>
   simp only [List.getElem?_cons_succ] at h
   simp only [List.eraseIdx_cons_succ]
   exact ((ih h).cons a).trans (List.Perm.swap ..)
theorem jJ {L:AL} {i:Nat} {p:Nat×AB} (q:AB) (h:L[i]?=some p):((p.1,q)::L.eraseIdx i).Perm (eF L i q):=by
 induction L generalizing i with
 | nil=>simp at h
 | cons a r ih=>
  cases i with
  | zero=>simp at h;subst h;simp [eF]
  | succ i=>
   simp only [List.getElem?_cons_succ] at h
   simp only [List.eraseIdx_cons_succ,eF]
   exact (List.Perm.swap ..).trans ((ih h).cons a)
theorem cL.put {b:Nat} {a a':AB} (h:cL B σ ((b,a)::L) w) (hm:∀off,a.mut off) (hg:w.grownBy w' (some b)) {o':Obj} (ho:w'.heap[b]?=some o') (hq:a'.holds σ o'):cL B σ ((b,a')::L) w':=by
 have hmine:=h.mine _ (List.mem_cons_self ..)
 have hap:=h.apart
 simp only [Lp,List.nodup_cons] at hap
 have hb0:∀off,σ b off=none:=fun off=>h.free _ (List.mem_cons_self ..) off (hm off)
 refine ⟨hg.os.trans h.os,hg.tape.trans h.tape,hg.output.trans h.output,Nat.le_trans h.size hg.size,fun k hk hx=>?_,fun p hp=>?_,fun p hp=>?_,by simpa using h.apart,fun c off u hu=>?_,fun p hp off hm'=>?_,h.grow,h.same,fun c off u hc hu=>?_⟩
 rotate_right
 ·have h1:=h.froz c off u hu
  obtain ⟨cur,t,ho'⟩:=h.cold c off u hc hu
  refine ⟨cur,t,(hg.block c (iI h1) fun e=>?_).trans ho'⟩
  injection e with e
  subst e
  rw [hb0] at hu
  cases hu
 ·refine (hg.block k (Nat.lt_of_lt_of_le hk h.size) ?_).trans (h.old k hk hx)
  rintro ⟨⟩
  rcases hmine with h1 | h1
  ·simp only at h1;omega
  ·exact hx h1
 ·rcases List.mem_cons.1 hp with rfl | hp'
  ·exact ⟨o',ho,hq⟩
  ·obtain ⟨o,ho,hh⟩:=h.here p (Ls _ hp')
   refine ⟨o,(hg.block p.1 (Array.getElem?_eq_some_iff.1 ho).1 ?_).trans ho,hh⟩
   intro e
   injection e with e
   exact hap.1 (by rw [←e];exact List.mem_map_of_mem hp')
 ·rcases List.mem_cons.1 hp with rfl | hp'
  ·exact hmine
  ·exact h.mine p (Ls _ hp')
 ·have h1:=h.froz c off u hu
  rw [World.cell?_of_block (a:=⟨c,off,none⟩) (hg.block c (iI h1) ?_)]
  ·exact h1
  ·intro e
   injection e with e
   subst e
   rw [hb0] at hu
   cases hu
 ·rcases List.mem_cons.1 hp with rfl | hp'
  ·exact hb0 off
  ·exact h.free p (Ls _ hp') off hm'
theorem cL.putAt {i b:Nat} {a a':AB} (h:cL B σ L w) (hi:L[i]?=some (b,a)) (hm:∀off,a.mut off) (hg:w.grownBy w' (some b)) {o':Obj} (ho:w'.heap[b]?=some o') (hq:a'.holds σ o'):cL B σ (eF L i a') w':=
 ((h.perm (dY hi)).put hm hg ho hq).perm (jJ a' hi)
def fx (z:List AV) (off:Nat):List AV→List AV
 | []=>z
 | c::cs=>fx (z.set off c) (off+1) cs
theorem je:∀(ys z:List AV) (k:Nat),(fx z k ys).length=z.length
 | [],z,k=>rfl
 | y::ys,z,k=>by rw [fx,je ys];simp
theorem gL:∀(ys z:List AV) (k j:Nat),k+ys.length≤z.length→(fx z k ys)[j]?=if k≤j∧j < k+ys.length then ys[j - k]? else z[j]?
 | [],z,k,j,_=>by rw [fx,if_neg (by simp)]
 | y::ys,z,k,j,h=>by
  simp only [List.length_cons] at h
  rw [fx,gL ys _ _ _ (by simp;omega)]
  simp only [List.length_cons]
  by_cases h1:j=k
  ·subst h1
   rw [if_neg (by omega),if_pos (by omega),Nat.sub_self,List.getElem?_set_self (by omega)]
   rfl
  ·by_cases h2:k+1≤j∧j < k+1+ys.length
   ·rw [if_pos h2,if_pos (by omega),show j - k=(j - (k+1))+1 by omega,List.getElem?_cons_succ]
   ·rw [if_neg h2,if_neg (by omega),List.getElem?_set_ne (by omega)]
end
section
variable {P:Program} {fr:bT} {B:Bs} {L:AL} {d:Option Tmp} {ty t t':TypeId} {pos:String} {af:Array Edge} {g:Option (Nat×Bool)} {x y:Operand} {u:AV}
theorem nZ {w:World} {b k:Nat} {v:Value} {n:Nat} {cs:Array Value} {e:TypeId} (hs:(P.info? t).map (·.size)=some n) (hn:v.cells.size=n) (h1:∀u∈v.cells.toList,u.oneCell'=true) (hb:w.heap[b]?=some (.cells cs e (0,0))) (hk:k+n≤cs.size):(storeVar t ⟨b,k,none⟩ v).run P w= .ok () (w.setCells b k v.cells.toList):=by
 have:=run_storeCells_cells (P:=P) b k v.cells.toList 0 w (fun j hj=>by simp at hj;rw [cX hb];simp;omega) (fun j hj=>sU hb) h1
 cases hq:P.info? t with
 | none=>rw [hq] at hs;cases hs
 | some i=>
  rw [hq] at hs
  simp only [Option.map_some,Option.some.injEq] at hs
  simp only [Nat.add_zero] at this
  simp [storeVar,sizeOf,typeInfo,hq,hs,hn,this]
theorem nf (i:Nat) {b k n:Nat} {cs ys:List AV} {e:TypeId} (hs:(P.info? t).map (·.size)=some n) (hx:bh fr x=some (.sc (.pointer (some ⟨b,k,none⟩)))) (hy:bh fr y=some u) (hu:u.cells=some ys) (hL:L[i]?=some (b,.box cs e)) (hn:Nat.beq ys.length n=true) (hk:Nat.ble (k+n) cs.length=true):
  AO P ⟨d,.store t x y,ty,pos,af,g⟩ fr B L (fun _ L'=>L'=eF L i (.box (fx cs k ys) e)):=by
 intro σ ρ w hρ hw
 rw [Nat.ble_eq] at hk
 rw [Nat.beq_eq] at hn
 obtain ⟨vs,hb,hvs,h1⟩:=hw.boxCell hL
 obtain ⟨hcs,hc1⟩:=(hρ y u hy).cells hu
 have hl:=hvs.1
 have hlc:=hcs.1
 have hsz:(ρ y).cells.size=n:=by have:=hlc;simp at this;omega
 have hrun:=nZ (P:=P) (t:=t) (w:=w) (b:=b) (k:=k) hs hsz hc1 hb (by simp;omega)
 unfold gT
 rw [show (execOp ρ ⟨d,.store t x y,ty,pos,af,g⟩).run P w= .ok .skip (w.setCells b k (ρ y).cells.toList) by simp only [execOp,(hρ x _ hx).sc_inv,Instr.storeAt,Instr.sureAddr,Sem.run_bind,Sem.run_pure,Result.andThen,hrun]]
 obtain ⟨hg,cs',hh,hs',hj⟩:=i7 b (ρ y).cells.toList k w _ e (0,0) hb
 refine ⟨σ,.sc undef,_,Mem.le_refl _,.sc _,hw.putAt (a':= .box (fx cs k ys) e) hL (fun _=>trivial) hg hh ⟨cs'.toList,by simp,⟨by rw [je,hl];simp [hs'],fun i c u hc hu=>?_⟩,fun u hu=>?_⟩,rfl⟩
 ·have hu':cs'[i]?=some u:=by simpa using hu
  rw [hj i] at hu'
  rw [gL _ _ _ _ (by omega)] at hc
  by_cases hi:k≤i∧i < k+ys.length
  ·rw [if_pos hi] at hc
   rw [if_pos (by simp at hlc ⊢;omega)] at hu'
   exact hcs.2 _ c u hc hu'
  ·rw [if_neg hi] at hc
   rw [if_neg (by simp at hlc ⊢;omega)] at hu'
   exact hvs.2 i c u hc (by simpa using hu')
 ·obtain ⟨i,hi,rfl⟩:=List.getElem_of_mem hu
  have hu':cs'[i]?=some (cs'.toList[i]):=by rw [←Array.getElem?_toList];exact Iy hi
  rw [hj i] at hu'
  split at hu'
  ·exact hc1 _ (Lw hu')
  ·exact h1 _ (Lw (by simpa using hu'))
theorem Cr {e sz by_ n:Nat} {parts:Array (Nat×Operand)} {vs:List AV} {xs:List (List AV)} (hc:ln P t e sz by_) (hsz:0 < sz) (hv:dy fr (parts.toList.map (·.2))=some vs) (hxs:kz vs=some xs) (hn:Nat.beq xs.length n=true) (hi:parts.toList.map (·.1)=List.range' 0 n) (hz:xs.all (fun q=>Nat.beq q.length sz)=true) (h24:Nat.ble (n * sz) 16777216=true):
  AO P ⟨d,.buildSlice t n parts,ty,pos,af,g⟩ fr B L (fun c L'=>∃b,c= .vec (some (b,n)) sz xs∧L'=(b,.vec e sz n n)::L):=by
 intro σ ρ w hρ hw
 rw [Nat.beq_eq] at hn
 have h24':n * sz≤16777216:=by rwa [Nat.ble_eq] at h24
 have hvs:=ey hρ _ _ hv
 obtain ⟨hf,h1,hlen,hcell⟩:=p9 hvs hxs
 generalize hws:(parts.toList.map (·.2)).map ρ=ws at *
 have hzs:∀q∈xs,q.length=sz:=fun q hq=>by have:=List.all_eq_true.1 hz q hq;rwa [Nat.beq_eq] at this
 have hwz:∀v∈ws,v.cells.size=sz:=fun v hv=>by
  obtain ⟨i,hi,rfl⟩:=List.getElem_of_mem hv
  have hlt:i < xs.length:=by omega
  obtain ⟨v',h2,h3⟩:=hcell i xs[i] (Iy hlt)
  rw [Iy hi] at h2
  injection h2 with h2
  rw [h2,←h3,hzs _ (List.getElem_mem hlt)]
 have e1:parts.map (fun p=>(p.1,ρ p.2))=((parts.toList.map (·.1)).zip ws).toArray:=by
  apply Array.toList_inj.1
  rw [←hws]
  simp only [Array.toList_map,List.map_map]
  induction parts.toList with
  | nil=>rfl
  | cons p l ih=>simp only [Lp,List.zip_cons_cons,ih];rfl
 haveI:=hc
 have hwl:ws.length=n:=by omega
 have hrun:=Ep (P:=P) (t:=t) (by simpa [Nat.blt_eq] using hsz) ws hwz (by rw [hwl];exact h24) w
 have hr:(execOp ρ ⟨d,.buildSlice t n parts,ty,pos,af,g⟩).run P w= .ok (.value (.slice (some ⟨w.heap.size,0,none⟩) n n)) (w.alloc (.cells (ws.flatMap fun v=>v.cells.toList).toArray e)):=by
  simp only [execOp]
  rw [e1,hi,←hwl]
  simp [hrun]
 unfold gT
 rw [hr]
 have hfl:(ws.flatMap fun v=>v.cells.toList).length=n * sz:=by rw [←hf.1,ej xs hzs,hn]
 have ha:=hw.alloc (.cells (ws.flatMap fun v=>v.cells.toList).toArray e) (.vec e sz 0 n) ⟨_,rfl,by simp [hfl],Nat.zero_le _,by unfold maxLen;have:=Nat.le_mul_of_pos_right n hsz;omega⟩
 have hnb:(w.alloc (.cells (ws.flatMap fun v=>v.cells.toList).toArray e)).heap[w.heap.size]?=some (.cells (ws.flatMap fun v=>v.cells.toList).toArray e):=World.alloc_heap_new w _
 obtain ⟨hb,hle⟩:=ha.freezeHead (n':=n) (xs:=ws.flatMap fun v=>v.cells.toList) (fun j u hj=>by rw [cX hnb];simpa using hj) hfl (Nat.zero_le _) (Nat.le_refl _)
 refine ⟨_,_,_,hle,?_,hb,_,rfl,rfl⟩
 have:=lY (σ:=σ.add w.heap.size (ws.flatMap fun v=>v.cells.toList)) (b:=w.heap.size) (cap:=n) hzs (hf.mono hle) h1 (by omega) (by unfold maxLen;have:=Nat.le_mul_of_pos_right n hsz;omega) (fun j u hj=>Mem.add_at hj)
 rwa [hn] at this
end
end Go.Proofs.YtpmdfoaadejmkaaGreatDoor
