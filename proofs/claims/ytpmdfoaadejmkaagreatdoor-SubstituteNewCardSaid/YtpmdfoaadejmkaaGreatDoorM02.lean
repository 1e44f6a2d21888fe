/-
  A region whose order Go leaves open, all of whose operations have values that are known: it is walked once, in the order of the text.
-/
import Derived.Test.YtpmdfoaadejmkaaGreatDoorM01
import Derived.Maps.AppendAt
import Derived.Laws.MakeOwn
import Derived.Laws.OwnMore
import Derived.Laws.CopyRow
import Derived.Great.BuildSlice
namespace Go.Proofs.YtpmdfoaadejmkaaGreatDoor
open Go.RowKit
section
variable {P:Program} {r:Option Nat} {Q:Exit→Act→World→Prop} {nt:Nat} {D:List Deferred} {fr:Fr} {I:World→Prop}
def ov (ops:Array Oper) (ε:Nat→Value) (fr:Fr):Nat→Fr
 | 0=>fr
 | n+1=>match eT ops n with
  | some t=>(t,ε n)::ov ops ε fr n
  | none=>ov ops ε fr n
theorem nH {ops:Array Oper} {ε:Nat→Value} {fr:Fr}:∀(n:Nat) {t:Nat} {v:Value},fG (ov ops ε fr n) t=some v→
  (∃i,i < n∧eT ops i=some t∧v=ε i)∨(fG fr t=some v∧∀i,i < n→eT ops i≠some t)
 | 0,t,v,h=> .inr ⟨h,by intro i hi;omega⟩
 | n+1,t,v,h=>by
  simp only [ov] at h
  cases hd:eT ops n with
  | none=>
   rw [hd] at h
   rcases nH n h with ⟨i,hi,h1⟩ | ⟨h1,h2⟩
   ·exact .inl ⟨i,by omega,h1⟩
   ·refine .inr ⟨h1,fun i hi=>?_⟩
    rcases Nat.lt_or_eq_of_le (Nat.le_of_lt_succ hi) with h | rfl
    ·exact h2 i h
    ·rw [hd];simp
  | some t'=>
   rw [hd] at h
   simp only [jB] at h
   by_cases e:t'=t
   ·subst e
    simp only [if_true,Option.some.injEq] at h
    exact .inl ⟨n,by omega,hd,h.symm⟩
   ·rw [if_neg e] at h
    rcases nH n h with ⟨i,hi,h1⟩ | ⟨h1,h2⟩
    ·exact .inl ⟨i,by omega,h1⟩
    ·refine .inr ⟨h1,fun i hi=>?_⟩
     rcases Nat.lt_or_eq_of_le (Nat.le_of_lt_succ hi) with h | rfl
     ·exact h2 i h
     ·rw [hd];intro e1;injection e1 with e1;exact e e1
def mU (nt:Nat):List Oper→Bool
 | []=>true
 | o::r=>(match o.dst with | none=>true | some t=>Nat.blt t nt) && mU nt r
theorem oK:∀(l:List Oper),mU nt l=true→∀(i t:Nat),eT l.toArray i=some t→t < nt
 | [],_,i,t,h=>by simp [eT] at h
 | o::l,hk,i,t,h=>by
  simp only [mU,Bool.and_eq_true] at hk
  cases i with
  | zero=>
   have:o.dst=some t:=by simpa [eT] using h
   simpa [this,Nat.blt_eq] using hk.1
  | succ i=>exact oK l hk.2 i t (by simpa [eT] using h)
theorem Iw {id:Nat} {l:List Oper} (n0:Nat) {J:(Nat→Bool)→(Nat→Value)→World→Prop} (hn0:n0≤l.length) (ht:nW l n0=true) (hm:P.follows .mixedOrders=true) (ok:kJ l=true) (hs:mU nt l=true)
  (h0:∀w n,I w→J (fun _=>false) (fun _=>undef) { w with drawn:=n }) (hob:∀k o,k < n0→l[k]?=some o→Ob P l fr J k o)
  (fin:∀ε,TL P r l.toArray Q nt D (l.drop n0) (ov l.toArray ε fr n0) (J (fun i=>decide (i < n0)) ε)):T P r (.region id l.toArray true) Q nt D fr I:=by
 intro a w ha hw
 refine wpIn_region_any hm ?_
 have hnone:(fun i=>(Array.replicate l.toArray.size false).getD i false)=(fun _:Nat=>false):=by
  funext i
  by_cases hi:i < l.length <;> simp [hi]
 refine xU (J:=J) (fr:=fr) (D:=D) (nt:=nt) hn0 ht ok (oK l hs) hob ?_ _ _ (fun _=>undef) a _ (by simp) ?_ ?_ ?_ ?_ ?_
 ·intro ε a w hway hj
  refine fin ε a w ⟨hway.size,hway.defers,fun t v hl=>?_⟩ hj
  rcases nH _ hl with ⟨i,hi,hd,rfl⟩ | ⟨hl,hno⟩
  ·exact hway.done i t (by simpa using hi) hd
  ·exact hway.base t v hl fun i hi hd=>hno i (by simpa using hi) hd
 ·rw [hnone];intro i o _ h;simp at h
 ·intro i _;exact congrFun hnone i
 ·exact Nat.le_trans List.countP_le_length (by simp)
 ·rw [hnone]
  exact ⟨ha.size,ha.defers,fun t v hl _=>ha.look t v hl,fun i t h=>by simp at h⟩
 ·rw [hnone];exact h0 w _ hw
def lv (acc:Fr) (i:Nat):Value:=(fG acc i).getD undef
def DV (P:Program) (l:List Oper) (fr:Fr) (I:World→Prop) (fin:Fr→Prop):Nat→List Oper→Fr→Prop
 | _,[],acc=>fin acc
 | k,o::rest,acc=>∃u,(match o.guard with
   | none=>O P o (ra l.toArray (lv acc) fr o.after.toList) I (fun v w=>v=u∧I w)
   | some (j,want)=>(lv acc j= .bool want∧O P o (ra l.toArray (lv acc) fr o.after.toList) I (fun v w=>v=u∧I w))∨(lv acc j≠ .bool want∧u=undef))∧
   DV P l fr I fin (k+1) rest ((k,u)::acc)
def M6 (P:Program) (r:Option Nat) (l:List Oper) (n0:Nat) (Q:Exit→Act→World→Prop) (nt:Nat) (D:List Deferred) (fr:Fr) (I:World→Prop) (acc:Fr):Prop:=TL P r l.toArray Q nt D (l.drop n0) (ov l.toArray (lv acc) fr n0) I
def DE (P:Program) (l:List Oper) (fr:Fr) (Bf Af:World→Prop) (k0:Nat) (fin:Fr→Prop):Nat→List Oper→Fr→Prop
 | _,[],acc=>fin acc
 | k,o::rest,acc=>∃u,o.guard=none∧(if k=k0 then O P o (ra l.toArray (lv acc) fr o.after.toList) Bf (fun v w=>v=u∧Af w) else O P o (ra l.toArray (lv acc) fr o.after.toList) Bf (fun v w=>v=u∧Bf w)∧O P o (ra l.toArray (lv acc) fr o.after.toList) Af (fun v w=>v=u∧Af w))∧
   DE P l fr Bf Af k0 fin (k+1) rest ((k,u)::acc)
end
section
variable {P:Program} {t ty:TypeId}
theorem of {w:World} {b k:Nat} {v:Value} (h:w.cell? ⟨b,k,none⟩=some v):b < w.heap.size:=by
 rcases Nat.lt_or_ge b w.heap.size with hlt | hge
 ·exact hlt
 ·simp [World.cell?,Array.getElem?_eq_none hge] at h
theorem wz (l:List Value) (hl:0 < l.length):∀(n j:Nat),j < n * l.length→(List.replicate n l).flatten[j]?=l[j % l.length]?
 | 0,j,h=>by simp at h
 | n+1,j,h=>by
  rw [List.replicate_succ,List.flatten_cons]
  by_cases hj:j < l.length
  ·rw [List.getElem?_append_left hj,Nat.mod_eq_of_lt hj]
  ·rw [List.getElem?_append_right (by omega),wz l hl n (j - l.length) (by rw [Nat.add_mul] at h;omega)]
   rw [Nat.mod_eq_sub_mod (a:=j) (by omega)]
theorem s8 (z:Array Value) (n:Nat) (hz:0 < z.size):(madeCells z (n * z.size)).toList=(List.replicate n z.toList).flatten:=by
 apply List.ext_getElem?
 intro j
 by_cases hj:j < n * z.size
 ·rw [wz z.toList (by simpa using hz) n j (by simpa using hj)]
  have hm:j % z.size < z.size:=Nat.mod_lt _ hz
  simp [madeCells,hj,hm]
 ·rw [List.getElem?_eq_none (by simp [madeCells];omega),List.getElem?_eq_none (by simp;omega)]
theorem pE (off:Nat):∀(cs:List Value) (m:Nat) (A:Array Value),((cs.zipIdx m).foldl (fun (a:Array Value) (p:Value×Nat)=>a.setIfInBounds (off+p.2) p.1) A).size=A.size∧
    ∀j,((cs.zipIdx m).foldl (fun (a:Array Value) (p:Value×Nat)=>a.setIfInBounds (off+p.2) p.1) A)[j]?=if off+m≤j∧j < off+m+cs.length∧j < A.size then cs[j - (off+m)]? else A[j]?
  | [], m, A => ⟨rfl, fun j => by rw [if_neg]; · rfl
                                  · simp;omega⟩
  | c::cs,m,A=>by
    obtain ⟨h1,h2⟩:=pE off cs (m+1) (A.setIfInBounds (off+m) c)
    refine ⟨by simpa using h1,fun j=>?_⟩
    simp only [List.zipIdx_cons,List.foldl_cons]
    rw [h2,Array.size_setIfInBounds,Array.getElem?_setIfInBounds]
    simp only [List.length_cons]
    by_cases hj:j=off+m
    · subst hj
      rw [if_neg (by omega),if_pos rfl]
      by_cases hA:off+m < A.size
      · rw [if_pos hA,if_pos (by omega)]
        simp
      · rw [if_neg hA,if_neg (by omega),Array.getElem?_eq_none (by omega)]
    · rw [if_neg (Ne.symm hj)]
      by_cases hc:off+(m+1)≤j∧j < off+(m+1)+cs.length∧j < A.size
      · rw [if_pos hc,if_pos (by omega)]
        have e:j - (off+m)=(j - (off+(m+1)))+1:=by omega
        rw [e,List.getElem?_cons_succ]
      · rw [if_neg hc,if_neg (by omega)]
theorem wp (sz n:Nat) (hsz:0 < sz):∀(vs:List Value) (k:Nat) (A:Array Value) (done:List Value),k+vs.length=n→A.size=n * sz→done.length=k * sz→(∀v∈vs,v.cells.size=sz)→A.toList.take (k * sz)=done→
  Instr.fill (fun i=>some (i * sz,sz)) A ((List.range' k vs.length).zip vs)=some (done++vs.flatMap (·.cells.toList)).toArray
 | [],k,A,done,hk,hA,hd,hv,ht=>by
  simp only [List.length_nil,Nat.add_zero] at hk
  subst hk
  simp only [List.length_nil,List.range'_zero,List.zip_nil_left,Instr.fill,List.flatMap_nil,List.append_nil]
  rw [←ht,List.take_of_length_le (by simp [hA])]
 | v::vs,k,A,done,hk,hA,hd,hv,ht=>by
  simp only [List.length_cons] at hk
  have hv0:=hv v (by simp)
  have hle:(k+1) * sz≤n * sz:=Nat.mul_le_mul_right _ (by omega)
  have e1:(k+1) * sz=k * sz+sz:=by rw [Nat.add_mul,Nat.one_mul]
  obtain ⟨h1,h2⟩:=pE (k * sz) v.cells.toList 0 A
  simp only [List.length_cons,List.range'_succ,List.zip_cons_cons,Instr.fill]
  rw [if_neg (by simp [hv0];omega)]
  have ef:v.cells.zipIdx.foldl (fun (cs:Array Value) (x:Value×Nat)=>cs.setIfInBounds (k * sz+x.2) x.1) A=(v.cells.toList.zipIdx 0).foldl (fun (a:Array Value) (p:Value×Nat)=>a.setIfInBounds (k * sz+p.2) p.1) A:=by
   rw [←Array.foldl_toList,Array.toList_zipIdx]
  have:=wp sz n hsz vs (k+1) _ (done++v.cells.toList) (by omega) (h1.trans hA) (by simp [hd,hv0,e1]) (fun u hu=>hv u (by simp [hu])) ?_
  ·rw [←ef] at this
   simpa [List.append_assoc] using this
  ·apply List.ext_getElem?
   intro j
   by_cases hj:j < (k+1) * sz
   ·rw [List.getElem?_take_of_lt hj,Array.getElem?_toList,h2]
    by_cases hj2:j < k * sz
    ·rw [if_neg (by omega),List.getElem?_append_left (by omega),←ht,List.getElem?_take_of_lt hj2,Array.getElem?_toList]
    ·rw [if_pos (by simp [hv0];omega),List.getElem?_append_right (by omega),hd,Nat.add_zero]
   ·rw [List.getElem?_eq_none (by rw [List.length_take];omega),List.getElem?_eq_none (by simp [hd,hv0];omega)]
theorem Gf {e sz by_:Nat} [hc:lw P t e sz by_] (hsz:Nat.blt 0 sz=true) (vs:List Value) (hv:∀v∈vs,v.cells.size=sz) (h24:Nat.ble (vs.length * sz) 16777216=true) (w:World):
    (Instr.buildSlice t vs.length ((List.range' 0 vs.length).zip vs).toArray).run P w= .ok (.slice (some ⟨w.heap.size,0,none⟩) vs.length vs.length) (w.alloc (.cells (vs.flatMap (·.cells.toList)).toArray e)):=by
  obtain ⟨i,z,hi,hs1,hs2,hz,hzs⟩:=hc.info
  have hsz':0 < sz:=by simpa [Nat.blt_eq] using hsz
  have h24':vs.length * sz≤16777216:=by simpa [Nat.ble_eq] using h24
  have hf:∀A:Array Value,A.size=vs.length * sz→Instr.fill (fun i=>some (i * sz,sz)) A ((List.range' 0 vs.length).zip vs)=some (vs.flatMap (·.cells.toList)).toArray:=fun A hA=>by
    have:=wp sz vs.length hsz' vs 0 A [] (by simp) hA (by simp) hv (by simp)
    simpa using this
  by_cases h0:vs.length * sz=0
  · have:=hf #[] (by simp [h0])
    have hl:vs.length=0:=by
      rcases Nat.mul_eq_zero.1 h0 with h | h
      · exact h
      · omega
    have hvs:vs=[]:=List.length_eq_zero_iff.1 hl
    subst hvs
    simp [Instr.buildSlice,run_underlying hc.under,sizeOf,typeInfo,hi,newRow,Instr.fill]
    have e0:∀A:Array Value,A.size=0→A=#[]:=fun A h=>Array.eq_empty_of_size_eq_zero h
    have e1:∀A:Array Value,A.size=0→w.alloc (.cells A e)=w.alloc (.cells #[] e):=fun A h=>by rw [e0 A h]
    exact e1 _ (by simp)
  · have:=hf ((Array.range (vs.length * sz)).map (z.cells[· % z.cells.size]!)) (by simp)
    have h1:¬vs.length * i.size > 2 ^ 24:=by rw [hs1];omega
    have h2:¬vs.length * i.size=0:=by rw [hs1];exact h0
    subst hs1
    exact run_buildSlice w t e vs.length _ _ i z hc.under hi hz h1 h2 this
theorem j4 {e sz by_:Nat} [hc:lw P t e sz by_] {A:Option Addr} {n c:Nat} (hn:n≤c) {A':Option Addr} {c':Nat} (w:World):(Builtin.append_ #[t,t] ty #[.slice A n c,.slice A' 0 c']).run P w= .ok (.slice A n c) w:=by
 have e1:(Builtin.lenOf (.slice A' 0 c')).run P w= .ok 0 w:=by simp [Builtin.lenOf]
 have e2:(Builtin.firstCells sz 0 (.slice A' 0 c')).run P w= .ok #[] w:=by
  cases A' <;> simp [Builtin.firstCells,loadCells,loadCellsFrom]
 simp [Builtin.append_,run_underlying hc.under,df (t:=t),e1,e2,hn]
 cases A <;> simp [storeCells]
def Eg (dn:List Nat) (es:List Edge):Bool:=es.all fun e=> !Region.binds .any e || dn.any (Nat.beq e.on)
def Cn (o:Oper) (ε:Nat→Value) (A B:Prop):Prop:=match o.guard with
 | none=>A
 | some (j,want)=>(ε j= .bool want→A)∧(ε j≠ .bool want→B)
theorem Cn.mono {o:Oper} {ε:Nat→Value} {A B A' B':Prop} (h:Cn o ε A B) (ha:A→A') (hb:B→B'):Cn o ε A' B':=by
 unfold Cn at *
 split at h <;> simp_all
end
def AV.cells:AV→Option (List AV)
 | .agg cs=>some cs
 | .sc v=>bif v.oneCell' then some [.sc v] else none
 | .tup _=>none
 | c=>some [c]
def MM (c:AV):AV:=match c with
 | .vec _ sz l=> .imm sz l
 | .sc v=> .sc v
 | .agg cs=> .agg cs
 | .imm sz l=> .imm sz l
 | .iptr cs=> .iptr cs
 | .fn f cs=> .fn f cs
 | .fnB f fs cs=> .fnB f fs cs
 | .tup cs=> .tup cs
theorem JS (c:AV):MM c=c.im:=by cases c <;> rfl
def n9:List AV→Option (List AV)
 | []=>some []
 | c::r=>match n9 r with
  | some q=>match MM c with
   | .sc v=>some (.sc v::q)
   | .agg cs=>some (.agg cs::q)
   | .imm sz l=>some (.imm sz l::q)
   | .vec k sz l=>some (.vec k sz l::q)
   | .iptr cs=>some (.iptr cs::q)
   | .fn f cs=>some (.fn f cs::q)
   | .fnB f fs cs=>some (.fnB f fs cs::q)
   | .tup cs=>some (.tup cs::q)
  | none=>none
theorem jY:∀{cs ds:List AV},n9 cs=some ds→cs.map AV.im=ds
 | [],ds,h=>by simp [n9] at h;subst h;rfl
 | c::r,ds,h=>by
  simp only [n9] at h
  cases hq:n9 r with
  | none=>rw [hq] at h;cases h
  | some q=>
   rw [hq] at h
   rw [Nq,jY hq,←JS]
   simp only at h
   split at h <;> cases h <;> rename_i hc <;> rw [hc]
def AV.cellsI (c:AV):Option (List AV):=match c.cells with
 | some cs=>n9 cs
 | none=>none
theorem VR.one {σ:cF} {c:AV} {v:Value} (h:VR σ c v):(∀cs,c≠ .agg cs)→(∀u,c≠ .sc u)→(∀cs,c≠ .tup cs)→v.oneCell'=true:=by
 intro h1 h2 h3
 cases h with
 | sc v=>exact absurd rfl (h2 v)
 | agg cs=>exact absurd rfl (h1 cs)
 | tup cs=>exact absurd rfl (h3 cs)
 | _=>rfl
theorem VR.cells {σ:cF} {c:AV} {v:Value} {cs:List AV} (h:VR σ c v) (hc:c.cells=some cs):dI σ cs v.cells.toList∧∀u∈v.cells.toList,u.oneCell'=true:=by
 have key:∀c':AV,cs=[c']→VR σ c' v→v.oneCell'=true→dI σ cs v.cells.toList∧∀u∈v.cells.toList,u.oneCell'=true:=by
  intro c' hcs hv h1
  subst hcs
  rw [t6 h1]
  exact ⟨dI.cons hv dI.nil,fun u hu=>by simp at hu;subst hu;exact h1⟩
 cases c with
 | agg ds=>
  simp only [AV.cells,Option.some.injEq] at hc
  subst hc
  obtain ⟨vs,rfl,hs,h1⟩:=h.agg_inv
  simpa [Value.cells] using ⟨hs,h1⟩
 | sc u=>
  simp only [AV.cells] at hc
  cases h1:u.oneCell' with
  | false=>rw [h1] at hc;cases hc
  | true=>
   rw [h1] at hc
   simp only [cond_true,Option.some.injEq] at hc
   have:=h.sc_inv
   subst this
   exact key _ hc.symm h h1
 | tup ds=>cases hc
 | imm sz l=>exact key _ (by simpa [AV.cells] using hc.symm) h (h.one (by simp) (by simp) (by simp))
 | vec k sz l=>exact key _ (by simpa [AV.cells] using hc.symm) h (h.one (by simp) (by simp) (by simp))
 | iptr l=>exact key _ (by simpa [AV.cells] using hc.symm) h (h.one (by simp) (by simp) (by simp))
 | fn f l=>exact key _ (by simpa [AV.cells] using hc.symm) h (h.one (by simp) (by simp) (by simp))
 | fnB f q l=>exact key _ (by simpa [AV.cells] using hc.symm) h (h.one (by simp) (by simp) (by simp))
theorem dI.im {σ:cF} {cs:List AV} {vs:List Value} (h:dI σ cs vs):dI σ (cs.map AV.im) vs:=by
 refine ⟨by simp [h.1],fun i c u hc hu=>?_⟩
 rw [List.getElem?_map] at hc
 obtain ⟨c',hc',rfl⟩:=Option.map_eq_some_iff.1 hc
 exact (h.2 i c' u hc' hu).im
theorem VR.cellsI {σ:cF} {c:AV} {v:Value} {cs:List AV} (h:VR σ c v) (hc:c.cellsI=some cs):dI σ cs v.cells.toList∧∀u∈v.cells.toList,u.oneCell'=true:=by
 unfold AV.cellsI at hc
 split at hc
 ·rename_i ds hds
  rw [←jY hc]
  exact ⟨(h.cells hds).1.im,(h.cells hds).2⟩
 ·cases hc
def ju:List AV→Option (List (List AV))
 | []=>some []
 | c::cs=>match c.cellsI with
  | none=>none
  | some x=>match ju cs with
   | none=>none
   | some xs=>some (x::xs)
theorem q9 {σ:cF}:∀{cs:List AV} {vs:List Value} {xs:List (List AV)},dI σ cs vs→ju cs=some xs→dI σ xs.flatten (vs.flatMap fun v=>v.cells.toList)∧(∀u∈(vs.flatMap fun v=>v.cells.toList),u.oneCell'=true)∧xs.length=vs.length∧∀(i:Nat) (x:List AV),xs[i]?=some x→∃v:Value,vs[i]?=some v∧x.length=v.cells.size
 | [],vs,xs,h,hx=>by
  simp only [ju,Option.some.injEq] at hx
  subst hx
  rw [h.nil_inv]
  exact ⟨dI.nil,by simp,rfl,fun i x h=>by simp at h⟩
 | c::cs,vs,xs,h,hx=>by
  obtain ⟨v,ws,rfl,hv,hs⟩:=h.inv
  simp only [ju] at hx
  split at hx
  ·cases hx
  ·rename_i y hy
   split at hx
   ·cases hx
   ·rename_i ys hys
    cases hx
    obtain ⟨h1,h2,h3,h4⟩:=q9 hs hys
    obtain ⟨k1,k2⟩:=hv.cellsI hy
    refine ⟨?_,?_,by simp [h3],?_⟩
    ·rw [List.flatten_cons,List.flatMap_cons]
     refine ⟨by rw [List.length_append,List.length_append,k1.1,h1.1],fun i c u hc hu=>?_⟩
     have hl:=k1.1
     by_cases hi:i < y.length
     ·rw [List.getElem?_append_left hi] at hc
      rw [List.getElem?_append_left (by omega)] at hu
      exact k1.2 i c u hc hu
     ·rw [List.getElem?_append_right (by omega)] at hc
      rw [List.getElem?_append_right (by omega),←hl] at hu
      exact h1.2 _ c u hc hu
    ·intro u hu
     rw [List.flatMap_cons] at hu
     rcases Nm hu with hu | hu
     ·exact k2 u hu
     ·exact h2 u hu
    ·intro i x hi
     cases i with
     | zero=>simp at hi;subst hi;exact ⟨v,rfl,by have:=k1.1;simpa using this⟩
     | succ i=>exact h4 i x (by simpa using hi)
theorem r9 {α:Type} {sz:Nat}:∀(l:List (List α)) (i j:Nat) (e:List α) (c:α),(∀e∈l,e.length=sz)→l[i]?=some e→e[j]?=some c→l.flatten[i * sz+j]?=some c
 | [],i,j,e,c,_,h,_=>by simp at h
 | x::l,0,j,e,c,hs,h,hc=>by
  simp at h;subst h
  rw [List.flatten_cons,Nat.zero_mul,Nat.zero_add,List.getElem?_append_left (Np hc).1]
  exact hc
 | x::l,i+1,j,e,c,hs,h,hc=>by
  have hx:=hs x (List.mem_cons_self ..)
  rw [List.flatten_cons,List.getElem?_append_right (by rw [hx,Nat.add_mul];omega),hx,show (i+1) * sz+j - sz=i * sz+j by rw [Nat.add_mul];omega]
  exact r9 l i j e c (fun e he=>hs e (Nt _ he)) (by simpa using h) hc
theorem fP {α:Type} {sz:Nat}:∀(l:List (List α)),(∀e∈l,e.length=sz)→l.flatten.length=l.length * sz
 | [],_=>by simp
 | x::l,hs=>by
  rw [List.flatten_cons,List.length_append,hs x (List.mem_cons_self ..),fP l fun e he=>hs e (Nt _ he),List.length_cons,Nat.add_mul];omega
theorem VR.row {σ:cF} {sz:Nat} {l:List (List AV)} {A:Option Addr} {n cap:Nat} (h:VR σ (.imm sz l) (.slice A n cap)):n=l.length∧n≤cap∧cap≤maxLen∧(∀e∈l,e.length=sz)∧∃xs:List Value,xs.length=n * sz∧dI σ l.flatten xs∧(∀u∈xs,u.oneCell'=true)∧(0 < n→∃b off,A=some ⟨b,off,none⟩∧∀j u,xs[j]?=some u→σ b (off+j)=some u):=by
 obtain ⟨A',cap',he,hc,hm,hs,ha,hx,hy⟩:=h.imm_inv
 cases he
 refine ⟨rfl,hc,hm,hs,?_⟩
 by_cases hl:l=[]
 ·subst hl
  exact ⟨[],by simp,dI.nil,by simp,fun h=>by simp at h⟩
 obtain ⟨b,off,rfl⟩:=ha hl
 classical
 have hflen:=fP l hs
 have hsz:sz=0∨0 < sz:=by omega
 rcases hsz with rfl | hsz
 ·have h0:l.flatten=[]:=List.length_eq_zero_iff.1 (by rw [hflen];omega)
  exact ⟨[],by simp,by rw [h0];exact dI.nil,by simp,fun _=>⟨b,off,rfl,fun j u h=>by simp at h⟩⟩
 let f:Nat→Value:=fun j=>(σ b (off+j)).getD undef
 have hf:∀j,j < l.length * sz→σ b (off+j)=some (f j)∧(f j).oneCell'=true:=fun j hj=>by
  have h1:j / sz < l.length:=(Nat.div_lt_iff_lt_mul hsz).2 hj
  obtain ⟨u,hu,h2⟩:=hx (j / sz) b off (j % sz) rfl h1 (Nat.mod_lt _ hsz)
  have e:off+j / sz * sz+j % sz=off+j:=by rw [Nat.add_assoc,Nat.mul_comm,Nat.div_add_mod]
  rw [e] at hu
  exact ⟨by simp [f,hu],by simpa [f,hu] using h2⟩
 refine ⟨(List.range (l.length * sz)).map f,by simp,⟨by simp [hflen],fun i c u hc hu=>?_⟩,fun u hu=>?_,fun _=>⟨b,off,rfl,fun j u hj=>?_⟩⟩
 ·have hlt:i < l.length * sz:=by simpa using (Np hu).1
  simp [hlt] at hu
  subst hu
  have h1:i / sz < l.length:=(Nat.div_lt_iff_lt_mul hsz).2 hlt
  have he:l[i / sz]?=some l[i / sz]:=Nz h1
  have hel:=hs _ (List.getElem_mem h1)
  have hj:i % sz < (l[i / sz]).length:=by rw [hel];exact Nat.mod_lt _ hsz
  have hcj:(l[i / sz])[i % sz]?=some (l[i / sz])[i % sz]:=Nz hj
  have e:i / sz * sz+i % sz=i:=by rw [Nat.mul_comm,Nat.div_add_mod]
  have:=r9 l _ _ _ _ hs he hcj
  rw [e,hc] at this
  injection this with this
  subst this
  refine hy (i / sz) _ b off (i % sz) _ _ he rfl hcj ?_
  rw [Nat.add_assoc,e]
  exact (hf i hlt).1
 ·obtain ⟨j,hj,rfl⟩:=List.mem_map.1 hu
  exact (hf j (by simpa using hj)).2
 ·have hlt:j < l.length * sz:=by simpa using (Np hj).1
  simp [hlt] at hj
  subst hj
  exact (hf j hlt).1
theorem mA {σ:cF} {sz b cap:Nat} {l:List (List AV)} {xs:List Value} (hs:∀e∈l,e.length=sz) (hx:dI σ l.flatten xs) (h1:∀u∈xs,u.oneCell'=true) (hc:l.length≤cap) (hm:cap≤maxLen) (hb:∀j u,xs[j]?=some u→σ b j=some u):VR σ (.vec (some (b,cap)) sz l) (.slice (some ⟨b,0,none⟩) l.length cap):=by
 have hflen:=fP l hs
 have hxl:=hx.1
 refine .vec b cap sz l hc hm hs (fun i j hi hj=>?_) fun i e j c u he hj hu=>?_
 ·have hlt:i * sz+j < xs.length:=by
   rw [←hxl,hflen]
   have:(i+1) * sz≤l.length * sz:=Nat.mul_le_mul_right _ hi
   rw [Nat.add_mul] at this
   omega
  rw [Nat.zero_add]
  exact ⟨xs[i * sz+j],hb _ _ (Nz hlt),h1 _ (List.getElem_mem hlt)⟩
 ·have hf:=r9 l i j e c hs he hj
  have hlt:i * sz+j < xs.length:=by rw [←hxl];exact (Np hf).1
  have h2:=hb _ _ (Nz hlt)
  rw [Nat.zero_add,h2] at hu
  injection hu with hu
  subst hu
  exact hx.2 _ c _ hf (Nz hlt)
section
variable {B:Bs} {σ:cF} {L:AL} {w:World}
theorem dw.fresh (h:dw B σ L w) {b:Nat} (hb:w.heap.size≤b) (off:Nat):σ b off=none:=by
 cases hq:σ b off with
 | none=>rfl
 | some u=>
  have:=of (h.froz _ _ _ hq)
  omega
theorem dw.alloc (h:dw B σ L w) (o:Obj) (a:AB) (ha:a.holds σ o):dw B σ ((w.heap.size,a)::L) (w.alloc o):=by
 have hnew:(w.alloc o).heap[w.heap.size]?=some o:=World.alloc_heap_new w o
 refine ⟨h.os,h.tape,h.output,Nat.le_trans h.size (by simp),fun k hk hx=>(Below.heap_alloc w o k (Nat.lt_of_lt_of_le hk h.size)).trans (h.old k hk hx),?_,?_,?_,?_,?_,h.grow,h.same⟩
 ·intro p hp
  rcases List.mem_cons.1 hp with rfl | hp
  ·exact ⟨o,hnew,ha⟩
  ·obtain ⟨o',ho,hq⟩:=h.here p hp
   exact ⟨o',(Below.heap_alloc w o p.1 (Array.getElem?_eq_some_iff.1 ho).1).trans ho,hq⟩
 ·intro p hp
  rcases List.mem_cons.1 hp with rfl | hp
  ·exact .inl h.size
  ·exact h.mine p hp
 ·simp only [Nq,List.nodup_cons]
  refine ⟨fun hm=>?_,h.apart⟩
  obtain ⟨p,hp,he⟩:=List.mem_map.1 hm
  have:=h.lt hp
  omega
 ·intro b off u hu
  have:=h.froz b off u hu
  rw [World.cell?_of_block (a:=⟨b,off,none⟩) (Below.heap_alloc w o b (of this))]
  exact this
 ·intro p hp off hm
  rcases List.mem_cons.1 hp with rfl | hp
  ·exact h.fresh (Nat.le_refl _) off
  ·exact h.free p hp off hm
def cF.add (σ:cF) (b:Nat) (xs:List Value):cF:=fun c off=>if c=b∧off < xs.length then xs[off]? else σ c off
theorem cF.add_le {b:Nat} {xs:List Value} (h:∀off u,off < xs.length→σ b off=some u→xs[off]?=some u):σ.le (σ.add b xs):=by
 intro c off u hu
 unfold cF.add
 split
 ·rename_i hc
  obtain ⟨rfl,hl⟩:=hc
  exact h off u hl hu
 ·exact hu
theorem cF.add_at {b:Nat} {xs:List Value} {j:Nat} {u:Value} (h:xs[j]?=some u):σ.add b xs b j=some u:=by
 unfold cF.add
 rw [if_pos ⟨rfl,(Np h).1⟩,h]
theorem dw.freezeHead {b t sz n n' cap:Nat} {xs:List Value} (h:dw B σ ((b,.vec t sz n cap)::L) w) (hx:∀j u,xs[j]?=some u→w.cell? ⟨b,j,none⟩=some u) (hl:xs.length=n' * sz) (hn:n≤n') (hc:n'≤cap):dw B (σ.add b xs) ((b,.vec t sz n' cap)::L) w∧σ.le (σ.add b xs):=by
 have hfr:∀off u,off < xs.length→σ b off=some u→xs[off]?=some u:=fun off u hlt hu=>by
  have h1:=h.froz b off u hu
  have h2:=hx off xs[off] (Nz hlt)
  rw [h1] at h2
  injection h2 with h2
  rw [h2]
  exact Nz hlt
 have hle:σ.le (σ.add b xs):=cF.add_le hfr
 have hmine:=h.mine _ (List.mem_cons_self ..)
 refine ⟨⟨h.os,h.tape,h.output,h.size,h.old,fun p hp=>?_,fun p hp=>?_,by have:=h.apart;simpa using this,fun c off u hu=>?_,fun p hp off hm=>?_,cF.le_trans h.grow hle,fun c hc hx' off=>?_⟩,hle⟩
 ·rcases List.mem_cons.1 hp with rfl | hp
  ·obtain ⟨o,ho,cur,h1,h2,h3,h4⟩:=h.here _ (List.mem_cons_self ..)
   exact ⟨o,ho,cur,h1,h2,hc,h4⟩
  ·obtain ⟨o,ho,hh⟩:=h.here p (Nt _ hp)
   exact ⟨o,ho,AB.mono hle hh⟩
 ·rcases List.mem_cons.1 hp with rfl | hp
  ·exact hmine
  ·exact h.mine p (Nt _ hp)
 ·unfold cF.add at hu
  split at hu
  ·rename_i hc
   obtain ⟨rfl,_⟩:=hc
   exact hx off u hu
  ·exact h.froz c off u hu
 ·have hap:=h.apart
  simp only [Nq,List.nodup_cons] at hap
  rcases List.mem_cons.1 hp with rfl | hp'
  ·have hm':n' * sz≤off:=hm
   show σ.add b xs b off=none
   unfold cF.add
   rw [if_neg (by omega)]
   refine h.free _ (List.mem_cons_self ..) off ?_
   show n * sz≤off
   exact Nat.le_trans (Nat.mul_le_mul_right _ hn) hm'
  ·unfold cF.add
   rw [if_neg (fun e=>hap.1 (by rw [←e.1];exact List.mem_map_of_mem hp'))]
   exact h.free p (Nt _ hp') off hm
 ·unfold cF.add
  rw [if_neg]
  ·exact h.same c hc hx' off
  ·rintro ⟨rfl,_⟩
   rcases hmine with h1 | h1
   ·simp only at h1;omega
   ·exact hx' h1
end
section
variable {P:Program} {fr:cf} {B:Bs} {L:AL} {d:Option Tmp} {ty t t':TypeId} {pos:String} {af:Array Edge} {g:Option (Nat×Bool)} {x y:Operand} {u:AV}
theorem JE {cs:List AV} (hx:bE fr x=some u) (hc:u.cells=some cs):AO P ⟨d,.box t x,ty,pos,af,g⟩ fr B L (fun c L'=>∃b,c= .sc (.pointer (some ⟨b,0,none⟩))∧L'=(b,.box cs t)::L):=by
 intro σ ρ w hρ hw
 have h1:=(hρ x u hx).cells hc
 have hr:(execOp ρ ⟨d,.box t x,ty,pos,af,g⟩).run P w= .ok (.value (.pointer (some ⟨w.heap.size,0,none⟩))) (w.alloc (.cells (ρ x).cells t)):=by
  simp [execOp,Instr.box,newVar,newRow]
 unfold j7
 rw [hr]
 exact ⟨σ,_,_,cF.le_refl _,.sc _,hw.alloc _ (.box cs t) ⟨_,rfl,h1.1,h1.2⟩,_,rfl,rfl⟩
theorem kq {z:List Value} (hz:CZ P t z) (h1:z.all (·.oneCell')=true):AO P ⟨d,.alloc t,ty,pos,af,g⟩ fr B L (fun c L'=>∃b,c= .sc (.pointer (some ⟨b,0,none⟩))∧L'=(b,.box (z.map .sc) t)::L):=by
 intro σ ρ w hρ hw
 obtain ⟨v,hv,hr⟩:=hz.run
 have hr:(execOp ρ ⟨d,.alloc t,ty,pos,af,g⟩).run P w= .ok (.value (.pointer (some ⟨w.heap.size,0,none⟩))) (w.alloc (.cells z.toArray t)):=by
  simp [execOp,Instr.alloc,hr,newVar,newRow,hv]
 unfold j7
 rw [hr]
 refine ⟨σ,_,_,cF.le_refl _,.sc _,hw.alloc _ (.box (z.map .sc) t) ⟨z,rfl,⟨by simp,fun i c u hc hu=>?_⟩,fun u hu=>List.all_eq_true.1 h1 u hu⟩,_,rfl,rfl⟩
 rw [List.getElem?_map,hu] at hc
 simp at hc
 subst hc
 exact .sc u
theorem dw.boxCell {σ:cF} {w:World} (h:dw B σ L w) {i b:Nat} {cs:List AV} {e:TypeId} (hL:L[i]?=some (b,.box cs e)):∃vs:List Value,w.heap[b]?=some (.cells vs.toArray e (0,0))∧dI σ cs vs∧∀u∈vs,u.oneCell'=true:=by
 obtain ⟨o,ho,vs,rfl,h1,h2⟩:=h.here _ (Nw hL)
 exact ⟨vs,ho,h1,h2⟩
theorem uA (i:Nat) {b k:Nat} {cs:List AV} {e:TypeId} (h:IF P t) (hx:bE fr x=some (.sc (.pointer (some ⟨b,k,none⟩)))) (hL:L[i]?=some (b,.box cs e)) (hc:cs[k]?=some u):AO P ⟨d,.load t x,ty,pos,af,g⟩ fr B L (fun c L'=>c=u∧L'=L):=by
 intro σ ρ w hρ hw
 obtain ⟨vs,hb,hs,_⟩:=hw.boxCell hL
 obtain ⟨v,hv,hr⟩:=hs.get hc
 have hcell:w.cell? ⟨b,k,none⟩=some v:=by rw [dc hb];simpa using hv
 unfold j7
 rw [show (execOp ρ ⟨d,.load t x,ty,pos,af,g⟩).run P w= .ok (.value v) w by simp [execOp,(hρ x _ hx).sc_inv,Instr.loadAt,Instr.sureAddr,i5 hcell]]
 exact ⟨σ,u,L,cF.le_refl _,hr,hw,rfl,rfl⟩
theorem vY (i:Nat) {b k n:Nat} {cs:List AV} {e:TypeId} (h:J9 P t n) (hx:bE fr x=some (.sc (.pointer (some ⟨b,k,none⟩)))) (hL:L[i]?=some (b,.box cs e)) (hc:Nat.ble (k+n) cs.length=true):AO P ⟨d,.load t x,ty,pos,af,g⟩ fr B L (fun c L'=>c= .agg ((cs.drop k).take n)∧L'=L):=by
 intro σ ρ w hρ hw
 rw [Nat.ble_eq] at hc
 obtain ⟨vs,hb,hs,h1⟩:=hw.boxCell hL
 have hl:=hs.1
 have hrun:=i4 (P:=P) (t:=t) (w:=w) (b:=b) (o:=k) (cs:=(vs.drop k).take n) (by simp;omega) (fun j v hj=>by
  rw [List.getElem?_take] at hj
  split at hj
  ·rw [List.getElem?_drop] at hj;rw [dc hb];simpa using hj
  ·cases hj)
 unfold j7
 rw [show (execOp ρ ⟨d,.load t x,ty,pos,af,g⟩).run P w= .ok (.value (.agg ((vs.drop k).take n).toArray)) w by simp only [execOp,(hρ x _ hx).sc_inv,Instr.loadAt,Instr.sureAddr,Sem.run_bind,Sem.run_pure,Result.andThen,hrun]]
 refine ⟨σ,_,L,cF.le_refl _,.agg _ _ (by simp [hl]) (fun i c u hc hu=>?_) (fun u hu=>h1 u (List.mem_of_mem_drop (List.mem_of_mem_take hu))),hw,rfl,rfl⟩
 rw [List.getElem?_take] at hc hu
 split at hc
 ·rename_i hi
  rw [if_pos hi,List.getElem?_drop] at hu
  rw [List.getElem?_drop] at hc
  exact hs.2 _ c u hc hu
 ·cases hc
end
section
variable {B:Bs} {σ:cF} {L:AL} {w w':World}
def fx (L:AL) (i:Nat) (q:AB):AL:=match L,i with
 | [],_=>[]
 | p::r,0=>(p.1,q)::r
 | p::r,i+1=>p::fx r i q
theorem fq {L:AL} {i:Nat} {p:Nat×AB} (h:L[i]?=some p):L.Perm (p::L.eraseIdx i):=by
 induction L generalizing i with
 | nil=>simp at h
 | cons a r ih=>
  cases i with
  | zero=>simp at h;subst h;simp
  | succ i=>
   simp only [List.getElem?_cons_succ] at h
   simp only [List.eraseIdx_cons_succ]
   exact ((ih h).cons a).trans (List.Perm.swap ..)
theorem tf {L:AL} {i:Nat} {p:Nat×AB} (q:AB) (h:L[i]?=some p):((p.1,q)::L.eraseIdx i).Perm (fx L i q):=by
 induction L generalizing i with
 | nil=>simp at h
 | cons a r ih=>
  cases i with
  | zero=>simp at h;subst h;simp [fx]
  | succ i=>
   simp only [List.getElem?_cons_succ] at h
   simp only [List.eraseIdx_cons_succ,fx]
   exact (List.Perm.swap ..).trans ((ih h).cons a)
theorem dw.put {b:Nat} {a a':AB} (h:dw B σ ((b,a)::L) w) (hm:∀off,a.mut off) (hg:w.grownBy w' (some b)) {o':Obj} (ho:w'.heap[b]?=some o') (hq:a'.holds σ o'):dw B σ ((b,a')::L) w':=by
 have hmine:=h.mine _ (List.mem_cons_self ..)
 have hap:=h.apart
 simp only [Nq,List.nodup_cons] at hap
 have hb0:∀off,σ b off=none:=fun off=>h.free _ (List.mem_cons_self ..) off (hm off)
 refine ⟨hg.os.trans h.os,hg.tape.trans h.tape,hg.output.trans h.output,Nat.le_trans h.size hg.size,fun k hk hx=>?_,fun p hp=>?_,fun p hp=>?_,by simpa using h.apart,fun c off u hu=>?_,fun p hp off hm'=>?_,h.grow,h.same⟩
 ·refine (hg.block k (Nat.lt_of_lt_of_le hk h.size) ?_).trans (h.old k hk hx)
  rintro ⟨⟩
  rcases hmine with h1 | h1
  ·simp only at h1;omega
  ·exact hx h1
 ·rcases List.mem_cons.1 hp with rfl | hp'
  ·exact ⟨o',ho,hq⟩
  ·obtain ⟨o,ho,hh⟩:=h.here p (Nt _ hp')
   refine ⟨o,(hg.block p.1 (Array.getElem?_eq_some_iff.1 ho).1 ?_).trans ho,hh⟩
   intro e
   injection e with e
   exact hap.1 (by rw [←e];exact List.mem_map_of_mem hp')
 ·rcases List.mem_cons.1 hp with rfl | hp'
  ·exact hmine
  ·exact h.mine p (Nt _ hp')
 ·have h1:=h.froz c off u hu
  rw [World.cell?_of_block (a:=⟨c,off,none⟩) (hg.block c (of h1) ?_)]
  ·exact h1
  ·intro e
   injection e with e
   subst e
   rw [hb0] at hu
   cases hu
 ·rcases List.mem_cons.1 hp with rfl | hp'
  ·exact hb0 off
  ·exact h.free p (Nt _ hp') off hm'
theorem dw.putAt {i b:Nat} {a a':AB} (h:dw B σ L w) (hi:L[i]?=some (b,a)) (hm:∀off,a.mut off) (hg:w.grownBy w' (some b)) {o':Obj} (ho:w'.heap[b]?=some o') (hq:a'.holds σ o'):dw B σ (fx L i a') w':=
 ((h.perm (fq hi)).put hm hg ho hq).perm (tf a' hi)
def fS (z:List AV) (off:Nat):List AV→List AV
 | []=>z
 | c::cs=>fS (z.set off c) (off+1) cs
theorem jM:∀(ys z:List AV) (k:Nat),(fS z k ys).length=z.length
 | [],z,k=>rfl
 | y::ys,z,k=>by rw [fS,jM ys];simp
theorem i3:∀(ys z:List AV) (k j:Nat),k+ys.length≤z.length→(fS z k ys)[j]?=if k≤j∧j < k+ys.length then ys[j - k]? else z[j]?
 | [],z,k,j,_=>by rw [fS,if_neg (by simp)]
 | y::ys,z,k,j,h=>by
  simp only [List.length_cons] at h
  rw [fS,i3 ys _ _ _ (by simp;omega)]
  simp only [List.length_cons]
  by_cases h1:j=k
  ·subst h1
   rw [if_neg (by omega),if_pos (by omega),Nat.sub_self,List.getElem?_set_self (by omega)]
   rfl
  ·by_cases h2:k+1≤j∧j < k+1+ys.length
   ·rw [if_pos h2,if_pos (by omega),show j - k=(j - (k+1))+1 by omega,List.getElem?_cons_succ]
   ·rw [if_neg h2,if_neg (by omega),List.getElem?_set_ne (by omega)]
end
section
variable {P:Program} {fr:cf} {B:Bs} {L:AL} {d:Option Tmp} {ty t t':TypeId} {pos:String} {af:Array Edge} {g:Option (Nat×Bool)} {x y:Operand} {u:AV}
theorem vp {w:World} {b k:Nat} {v:Value} {n:Nat} {cs:Array Value} {e:TypeId} (hs:(P.info? t).map (·.size)=some n) (hn:v.cells.size=n) (h1:∀u∈v.cells.toList,u.oneCell'=true) (hb:w.heap[b]?=some (.cells cs e (0,0))) (hk:k+n≤cs.size):(storeVar t ⟨b,k,none⟩ v).run P w= .ok () (w.setCells b k v.cells.toList):=by
 have:=run_storeCells_cells (P:=P) b k v.cells.toList 0 w (fun j hj=>by simp at hj;rw [dc hb];simp;omega) (fun j hj=>tN hb) h1
 cases hq:P.info? t with
 | none=>rw [hq] at hs;cases hs
 | some i=>
  rw [hq] at hs
  simp only [Option.map_some,Option.some.injEq] at hs
  simp only [Nat.add_zero] at this
  simp [storeVar,sizeOf,typeInfo,hq,hs,hn,this]
theorem o6 (i:Nat) {b k n:Nat} {cs ys:List AV} {e:TypeId} (hs:(P.info? t).map (·.size)=some n) (hx:bE fr x=some (.sc (.pointer (some ⟨b,k,none⟩)))) (hy:bE fr y=some u) (hu:u.cells=some ys) (hL:L[i]?=some (b,.box cs e)) (hn:Nat.beq ys.length n=true) (hk:Nat.ble (k+n) cs.length=true):
  AO P ⟨d,.store t x y,ty,pos,af,g⟩ fr B L (fun _ L'=>L'=fx L i (.box (fS cs k ys) e)):=by
 intro σ ρ w hρ hw
 rw [Nat.ble_eq] at hk
 rw [Nat.beq_eq] at hn
 obtain ⟨vs,hb,hvs,h1⟩:=hw.boxCell hL
 obtain ⟨hcs,hc1⟩:=(hρ y u hy).cells hu
 have hl:=hvs.1
 have hlc:=hcs.1
 have hsz:(ρ y).cells.size=n:=by have:=hlc;simp at this;omega
 have hrun:=vp (P:=P) (t:=t) (w:=w) (b:=b) (k:=k) hs hsz hc1 hb (by simp;omega)
 unfold j7
 rw [show (execOp ρ ⟨d,.store t x y,ty,pos,af,g⟩).run P w= .ok .skip (w.setCells b k (ρ y).cells.toList) by simp only [execOp,(hρ x _ hx).sc_inv,Instr.storeAt,Instr.sureAddr,Sem.run_bind,Sem.run_pure,Result.andThen,hrun]]
 obtain ⟨hg,cs',hh,hs',hj⟩:=k9 b (ρ y).cells.toList k w _ e (0,0) hb
 refine ⟨σ,.sc undef,_,cF.le_refl _,.sc _,hw.putAt (a':= .box (fS cs k ys) e) hL (fun _=>trivial) hg hh ⟨cs'.toList,by simp,⟨by rw [jM,hl];simp [hs'],fun i c u hc hu=>?_⟩,fun u hu=>?_⟩,rfl⟩
 ·have hu':cs'[i]?=some u:=by simpa using hu
  rw [hj i] at hu'
  rw [i3 _ _ _ _ (by omega)] at hc
  by_cases hi:k≤i∧i < k+ys.length
  ·rw [if_pos hi] at hc
   rw [if_pos (by simp at hlc ⊢;omega)] at hu'
   exact hcs.2 _ c u hc hu'
  ·rw [if_neg hi] at hc
   rw [if_neg (by simp at hlc ⊢;omega)] at hu'
   exact hvs.2 i c u hc (by simpa using hu')
 ·obtain ⟨i,hi,rfl⟩:=List.getElem_of_mem hu
  have hu':cs'[i]?=some (cs'.toList[i]):=by rw [←Array.getElem?_toList];exact Nz hi
  rw [hj i] at hu'
  split at hu'
  ·exact hc1 _ (Nw hu')
  ·exact h1 _ (Nw (by simpa using hu'))
theorem uz {e sz by_ n:Nat} {parts:Array (Nat×Operand)} {vs:List AV} {xs:List (List AV)} (hc:lw P t e sz by_) (hsz:0 < sz) (hv:eP fr (parts.toList.map (·.2))=some vs) (hxs:ju vs=some xs) (hn:Nat.beq xs.length n=true) (hi:parts.toList.map (·.1)=List.range' 0 n) (hz:xs.all (fun q=>Nat.beq q.length sz)=true) (h24:Nat.ble (n * sz) 16777216=true):
  AO P ⟨d,.buildSlice t n parts,ty,pos,af,g⟩ fr B L (fun c L'=>∃b,c= .vec (some (b,n)) sz xs∧L'=(b,.vec e sz n n)::L):=by
 intro σ ρ w hρ hw
 rw [Nat.beq_eq] at hn
 have h24':n * sz≤16777216:=by rwa [Nat.ble_eq] at h24
 have hvs:=fL hρ _ _ hv
 obtain ⟨hf,h1,hlen,hcell⟩:=q9 hvs hxs
 generalize hws:(parts.toList.map (·.2)).map ρ=ws at *
 have hzs:∀q∈xs,q.length=sz:=fun q hq=>by have:=List.all_eq_true.1 hz q hq;rwa [Nat.beq_eq] at this
 have hwz:∀v∈ws,v.cells.size=sz:=fun v hv=>by
  obtain ⟨i,hi,rfl⟩:=List.getElem_of_mem hv
  have hlt:i < xs.length:=by omega
  obtain ⟨v',h2,h3⟩:=hcell i xs[i] (Nz hlt)
  rw [Nz hi] at h2
  injection h2 with h2
  rw [h2,←h3,hzs _ (List.getElem_mem hlt)]
 have e1:parts.map (fun p=>(p.1,ρ p.2))=((parts.toList.map (·.1)).zip ws).toArray:=by
  apply Array.toList_inj.1
  rw [←hws]
  simp only [Array.toList_map,List.map_map]
  induction parts.toList with
  | nil=>rfl
  | cons p l ih=>simp only [Nq,List.zip_cons_cons,ih];rfl
 haveI:=hc
 have hwl:ws.length=n:=by omega
 have hrun:=Gf (P:=P) (t:=t) (by simpa [Nat.blt_eq] using hsz) ws hwz (by rw [hwl];exact h24) w
 have hr:(execOp ρ ⟨d,.buildSlice t n parts,ty,pos,af,g⟩).run P w= .ok (.value (.slice (some ⟨w.heap.size,0,none⟩) n n)) (w.alloc (.cells (ws.flatMap fun v=>v.cells.toList).toArray e)):=by
  simp only [execOp]
  rw [e1,hi,←hwl]
  simp [hrun]
 unfold j7
 rw [hr]
 have hfl:(ws.flatMap fun v=>v.cells.toList).length=n * sz:=by rw [←hf.1,fP xs hzs,hn]
 have ha:=hw.alloc (.cells (ws.flatMap fun v=>v.cells.toList).toArray e) (.vec e sz 0 n) ⟨_,rfl,by simp [hfl],Nat.zero_le _,by unfold maxLen;have:=Nat.le_mul_of_pos_right n hsz;omega⟩
 have hnb:(w.alloc (.cells (ws.flatMap fun v=>v.cells.toList).toArray e)).heap[w.heap.size]?=some (.cells (ws.flatMap fun v=>v.cells.toList).toArray e):=World.alloc_heap_new w _
 obtain ⟨hb,hle⟩:=ha.freezeHead (n':=n) (xs:=ws.flatMap fun v=>v.cells.toList) (fun j u hj=>by rw [dc hnb];simpa using hj) hfl (Nat.zero_le _) (Nat.le_refl _)
 refine ⟨_,_,_,hle,?_,hb,_,rfl,rfl⟩
 have:=mA (σ:=σ.add w.heap.size (ws.flatMap fun v=>v.cells.toList)) (b:=w.heap.size) (cap:=n) hzs (hf.mono hle) h1 (by omega) (by unfold maxLen;have:=Nat.le_mul_of_pos_right n hsz;omega) (fun j u hj=>cF.add_at hj)
 rwa [hn] at this
end
section
variable {P:Program}
theorem Ie (w:World) (t ty e:TypeId) (i:TypeInfo) (z:Value) (ht:P.underlying t=some (.slice e)) (hi:P.info? e=some i) (hz:i.zero=some z) (hzs:z.cells.size=i.size)
  (v:Value) (n:Nat) (xs:List Value) (hown:w.ownsRow 0 e i.size v n xs)
  (a:Addr) (m c:Nat) (news:List Value) (hl:news.length=m * i.size) (hnews:∀j u,news[j]?=some u→w.cell? (a.add j)=some u) (h1:∀u∈news,u.oneCell'=true)
  (h63:n+m≤maxLen) (hbytes:(n+m) * i.bytes≤140737488355328) (hm:0 < m):
  ∃b cap w' cur,(Builtin.append_ #[t,t] ty #[v,.slice (some a) m c]).run P w= .ok (.slice (some ⟨b,0,none⟩) (n+m) cap) w'∧w'.heap[b]?=some (.cells cur e (0,0))∧cur.size=cap * i.size∧cur.toList.take ((n+m) * i.size)=xs++news∧n+m≤cap∧cap≤maxLen∧((v.ownBlock=some b∧w.grownBy w' (some b))∨(b=w.heap.size∧w.grownBy w' none)):=by
 have hsmall:n+m≤9223372036854775807:=by simp only [maxLen] at h63;omega
 have hlen:(xs++news).length=(n+m) * i.size:=by rw [List.length_append,hown.1,hl,Nat.add_mul]
 have grown:∀(old:Nat),old < n+m→
   (w.drew.alloc (.cells (xs.toArray++news.toArray++Builtin.zeroCells z.cells (grownCap w (n+m) old e - (n+m))) e)).heap[w.heap.size]?=some (.cells (xs.toArray++news.toArray++Builtin.zeroCells z.cells (grownCap w (n+m) old e - (n+m))) e (0,0))∧
   (xs.toArray++news.toArray++Builtin.zeroCells z.cells (grownCap w (n+m) old e - (n+m))).size=grownCap w (n+m) old e * i.size∧(xs.toArray++news.toArray++Builtin.zeroCells z.cells (grownCap w (n+m) old e - (n+m))).toList.take ((n+m) * i.size)=xs++news∧n+m≤grownCap w (n+m) old e∧grownCap w (n+m) old e≤maxLen∧
   w.grownBy (w.drew.alloc (.cells (xs.toArray++news.toArray++Builtin.zeroCells z.cells (grownCap w (n+m) old e - (n+m))) e)) none:=by
  intro old ho
  have hge:=grownCap_ge w (n+m) old e
  have hcm:grownCap w (n+m) old e≤maxLen:=grownCap_le_maxLen w (n+m) old e h63
  refine ⟨heap_alloc_new w.drew _,?_,?_,hge,hcm,⟨rfl,rfl,rfl,by simp,fun k hk _=>heap_alloc_old w.drew _ k hk⟩⟩
  ·simp only [Array.size_append,List.size_toArray,size_zeroCells,hzs,hown.1,hl,←Nat.add_mul]
   congr 1
   omega
  ·simp only [Array.toList_append,List.append_assoc]
   rw [←List.append_assoc,←hlen]
   exact List.take_left
 rcases hown.2 with ⟨rfl,rfl⟩ | ⟨g,cap,cur,rfl,hbg,hg,hnc,hcm,hcs,htake⟩
 ·have hx:xs=[]:=List.eq_nil_of_length_eq_zero (by simpa using hown.1)
  subst hx
  have hr:=run_append_nil (P:=P) w t ty e i z ht hi hz a m c news hl hnews (by omega) (by omega) (by have hb:=hbytes;simp only [Nat.zero_add] at hb;omega)
  obtain ⟨g1,g2,g3,g4,g5,g6⟩:=grown 0 (by omega)
  simp only [Nat.zero_add,Nr,Array.empty_append] at g1 g2 g3 g4 g5 g6 ⊢
  exact ⟨_,_,_,_,hr,g1,g2,g3,g4,g5,.inr ⟨rfl,g6⟩⟩
 ·by_cases hroom:n+m≤cap
  ·have hfit:n * i.size+news.length≤cur.size:=by rw [hl,hcs,←Nat.add_mul];exact Nat.mul_le_mul_right _ hroom
   have hr:=run_append_room (P:=P) w t ty e i ht hi g n cap cur hg a m c news hl hnews h1 hroom hfit
   refine ⟨_,_,_,_,hr,setRow_heap w g cur _ e _ hg,?_,?_,hroom,hcm,.inl ⟨rfl,⟨rfl,rfl,rfl,by simp,fun k _ hk=>setRow_other w g k _ (fun e=>hk (by simp [e]))⟩⟩⟩
   ·simp only [List.size_toArray,List.length_append,List.length_take,List.length_drop,Array.length_toList]
    omega
   ·rw [htake,←hlen]
    exact List.take_left
  ·have holds:∀j u,xs[j]?=some u→w.cell? ((⟨g,0,none⟩:Addr).add j)=some u:=hown.cells (g:=g) rfl
   have hr:=run_append_grow (P:=P) w t ty e i z ht hi hz ⟨g,0,none⟩ n cap xs hown.1 holds a m c news hl hnews (by omega) (by omega) (growslice_fits (by omega) hbytes)
   obtain ⟨g1,g2,g3,g4,g5,g6⟩:=grown cap (by omega)
   exact ⟨_,_,_,_,hr,g1,g2,g3,g4,g5,.inr ⟨rfl,g6⟩⟩
end
def tok (k:Option (Nat×Nat)) (e sz n:Nat):AL:=match k with
 | none=>[]
 | some (b,cap)=>[(b,.vec e sz n cap)]
section
variable {B:Bs} {σ:cF} {L:AL} {w w':World}
theorem dw.putVec {b t sz n cap cap':Nat} {cur:Array Value} (h:dw B σ ((b,.vec t sz n cap)::L) w) (hg:w.grownBy w' (some b)) (ho:w'.heap[b]?=some (.cells cur t (0,0))) (hs:cur.size=cap' * sz) (hn:n≤cap') (hm:cap'≤maxLen) (hf:∀j u,σ b j=some u→cur[j]?=some u):dw B σ ((b,.vec t sz n cap')::L) w':=by
 have hmine:=h.mine _ (List.mem_cons_self ..)
 have hap:=h.apart
 simp only [Nq,List.nodup_cons] at hap
 refine ⟨hg.os.trans h.os,hg.tape.trans h.tape,hg.output.trans h.output,Nat.le_trans h.size hg.size,fun k hk hx=>?_,fun p hp=>?_,fun p hp=>?_,by simpa using h.apart,fun c off u hu=>?_,fun p hp off hm'=>?_,h.grow,h.same⟩
 ·refine (hg.block k (Nat.lt_of_lt_of_le hk h.size) ?_).trans (h.old k hk hx)
  rintro ⟨⟩
  rcases hmine with h1 | h1
  ·simp only at h1;omega
  ·exact hx h1
 ·rcases List.mem_cons.1 hp with rfl | hp'
  ·exact ⟨_,ho,cur,rfl,hs,hn,hm⟩
  ·obtain ⟨o,ho,hh⟩:=h.here p (Nt _ hp')
   refine ⟨o,(hg.block p.1 (Array.getElem?_eq_some_iff.1 ho).1 ?_).trans ho,hh⟩
   intro e
   injection e with e
   exact hap.1 (by rw [←e];exact List.mem_map_of_mem hp')
 ·rcases List.mem_cons.1 hp with rfl | hp'
  ·exact hmine
  ·exact h.mine p (Nt _ hp')
 ·by_cases hc:c=b
  ·subst hc
   rw [dc ho]
   exact hf off u hu
  ·have h1:=h.froz c off u hu
   rw [World.cell?_of_block (a:=⟨c,off,none⟩) (hg.block c (of h1) (fun e=>hc (by injection e)))]
   exact h1
 ·rcases List.mem_cons.1 hp with rfl | hp'
  ·exact h.free _ (List.mem_cons_self ..) off hm'
  ·exact h.free p (Nt _ hp') off hm'
theorem dw.newVec {t sz cap:Nat} {cur:Array Value} (h:dw B σ L w) (hg:w.grownBy w' none) (ho:w'.heap[w.heap.size]?=some (.cells cur t (0,0))) (hs:cur.size=cap * sz) (hm:cap≤maxLen):dw B σ ((w.heap.size,.vec t sz 0 cap)::L) w':=by
 have hb:∀k,k < w.heap.size→w'.heap[k]?=w.heap[k]?:=fun k hk=>hg.block k hk (by simp)
 refine ⟨hg.os.trans h.os,hg.tape.trans h.tape,hg.output.trans h.output,Nat.le_trans h.size hg.size,fun k hk hx=>(hb k (Nat.lt_of_lt_of_le hk h.size)).trans (h.old k hk hx),fun p hp=>?_,fun p hp=>?_,?_,fun c off u hu=>?_,fun p hp off hm'=>?_,h.grow,h.same⟩
 ·rcases List.mem_cons.1 hp with rfl | hp'
  ·exact ⟨_,ho,cur,rfl,hs,Nat.zero_le _,hm⟩
  ·obtain ⟨o,ho,hh⟩:=h.here p hp'
   exact ⟨o,(hb p.1 (Array.getElem?_eq_some_iff.1 ho).1).trans ho,hh⟩
 ·rcases List.mem_cons.1 hp with rfl | hp'
  ·exact .inl h.size
  ·exact h.mine p hp'
 ·simp only [Nq,List.nodup_cons]
  refine ⟨fun hm=>?_,h.apart⟩
  obtain ⟨p,hp,he⟩:=List.mem_map.1 hm
  have:=h.lt hp
  omega
 ·have h1:=h.froz c off u hu
  rw [World.cell?_of_block (a:=⟨c,off,none⟩) (hb c (of h1))]
  exact h1
 ·rcases List.mem_cons.1 hp with rfl | hp'
  ·exact h.fresh (Nat.le_refl _) off
  ·exact h.free p hp' off hm'
end
section
variable {P:Program} {fr:cf} {B:Bs} {L:AL} {d:Option Tmp} {ty t t':TypeId} {pos:String} {af:Array Edge} {g:Option (Nat×Bool)} {x y:Operand} {u:AV}
theorem VR.vec_inv {σ:cF} {k:Option (Nat×Nat)} {sz:Nat} {l:List (List AV)} {v:Value} (h:VR σ (.vec k sz l) v):(k=none∧l=[]∧v= .slice none 0 0)∨∃b cap,k=some (b,cap)∧v= .slice (some ⟨b,0,none⟩) l.length cap:=by
 cases h with
 | vecN=>exact .inl ⟨rfl,rfl,rfl⟩
 | vec b cap=>exact .inr ⟨b,cap,rfl,rfl⟩
theorem xv {cur:Array Value} {m:Nat} {xs:List Value} (h:cur.toList.take m=xs) {j:Nat} {u:Value} (hj:xs[j]?=some u):cur[j]?=some u:=by
 rw [←h,List.getElem?_take] at hj
 split at hj
 ·simpa using hj
 ·cases hj
theorem pn (L0:AL) {e sz by_:Nat} {k:Option (Nat×Nat)} {l l2:List (List AV)} (hc:lw P t e sz by_) (hsz:0 < sz) (hx:bE fr x=some (.vec k sz l)) (hy:bE fr y=some u) (hu:u.im= .imm sz l2) (hL:L.Perm (tok k e sz l.length++L0)) (h63:l.length+l2.length≤9223372036854775807) (hby:(l.length+l2.length) * by_≤140737488355328):
  AO P ⟨d,.call ⟨.builtin .append,#[x,y],#[t,t]⟩,ty,pos,af,g⟩ fr B L (fun c L'=>∃k',c= .vec k' sz (l++l2)∧L'=tok k' e sz (l++l2).length++L0):=by
 intro σ ρ w hρ hw0
 have hw:=hw0.perm hL
 have hxv:=hρ x _ hx
 have hyv:=(hρ y u hy).im
 rw [hu] at hyv
 obtain ⟨A2,c2,hA2,_⟩:=hyv.imm_inv
 rw [hA2] at hyv
 obtain ⟨_,_,_,hs2,ys,hyl,hyr,hy1,hyc⟩:=hyv.row
 have hxi:=hxv.im
 obtain ⟨A1,c1,hA1,_⟩:=VR.imm_inv (show VR σ (.imm sz l) (ρ x) from hxi)
 have hxi':VR σ (.imm sz l) (.slice A1 l.length c1):=by rw [←hA1];exact hxi
 obtain ⟨_,hle1,hm1,hs1,xs,hxl,hxr,hx1,hxc⟩:=hxi'.row
 haveI:=hc
 obtain ⟨i,z,hi,rfl,rfl,hz,hzs⟩:=hc.info
 unfold j7
 by_cases hm:l2.length=0
 ·have hl2:l2=[]:=List.length_eq_zero_iff.1 hm
  subst hl2
  rw [show (execOp ρ ⟨d,.call ⟨.builtin .append,#[x,y],#[t,t]⟩,ty,pos,af,g⟩).run P w= .ok (.value (.slice A1 l.length c1)) w by
   simp [execOp,resolve,hA1,hA2,invoke,builtin,j4 (P:=P) (t:=t) (ty:=ty) hle1]]
  refine ⟨σ,.vec k i.size l,_,cF.le_refl _,by rw [←hA1];exact hxv,hw,k,by simp,by simp⟩
 ·have hpos:0 < l2.length:=by omega
  obtain ⟨b2,off2,rfl,hycc⟩:=hyc hpos
  have hown:w.ownsRow 0 e i.size (ρ x) l.length xs:=by
   refine ⟨hxl,?_⟩
   rcases hxv.vec_inv with ⟨rfl,rfl,hv⟩ | ⟨b,cap,rfl,hv⟩
   ·exact .inl ⟨hv,rfl⟩
   ·obtain ⟨o,ho,cur,rfl,h2,h3,h4⟩:=hw.here (b,.vec e i.size l.length cap) (by simp [tok])
    rw [hA1] at hv
    injection hv with e1 e2 e3
    subst e1 e3
    refine .inr ⟨b,c1,cur,by rw [hA1],Nat.zero_le _,ho,h3,h4,h2,?_⟩
    apply List.ext_getElem?
    intro j
    rw [List.getElem?_take]
    by_cases hj:j < l.length * i.size
    ·rw [if_pos hj]
     have hjx:j < xs.length:=by omega
     have hln:0 < l.length:=by
      rcases Nat.eq_zero_or_pos l.length with h0 | h0
      ·rw [h0] at hj;simp at hj
      ·exact h0
     obtain ⟨b',off',he,hcell⟩:=hxc hln
     cases he
     have:=hw.froz _ _ _ (hcell j xs[j] (Nz hjx))
     rw [Nat.zero_add,dc ho] at this
     rw [Nz hjx,←this]
     simp
    ·rw [if_neg hj,List.getElem?_eq_none (by omega)]
  obtain ⟨b',cap',w',cur',hr,hh,hs',htk,hle',hm',hcase⟩:=Ie (P:=P) w t ty e i z hc.under hi hz hzs (ρ x) l.length xs hown ⟨b2,off2,none⟩ l2.length c2 ys (by rw [hyl]) (fun j u hj=>by rw [dS];exact hw.froz _ _ _ (hycc j u hj)) hy1 (by unfold maxLen;omega) hby hpos
  rw [show (execOp ρ ⟨d,.call ⟨.builtin .append,#[x,y],#[t,t]⟩,ty,pos,af,g⟩).run P w= .ok (.value (.slice (some ⟨b',0,none⟩) (l.length+l2.length) cap')) w' by
   simp [execOp,resolve,hA2,invoke,builtin,hr]]
  have hxyl:(xs++ys).length=(l++l2).length * i.size:=by rw [List.length_append,List.length_append,hxl,hyl,Nat.add_mul]
  have hcells:∀j u,(xs++ys)[j]?=some u→w'.cell? ⟨b',j,none⟩=some u:=fun j u hj=>by
   rw [dc hh]
   exact xv htk hj
  have fin:∀n,n≤l.length→dw B σ ((b',.vec e i.size n cap')::L0) w'→∃τ c L',σ.le τ∧VR τ c (.slice (some ⟨b',0,none⟩) (l.length+l2.length) cap')∧dw B τ L' w'∧∃k',c= .vec k' i.size (l++l2)∧L'=tok k' e i.size (l++l2).length++L0:=by
   intro n hn hst
   obtain ⟨hst',hle⟩:=hst.freezeHead (n':=(l++l2).length) (xs:=xs++ys) hcells hxyl (by rw [List.length_append];omega) (by rw [List.length_append];exact hle')
   refine ⟨_,.vec (some (b',cap')) i.size (l++l2),_,hle,?_,hst',some (b',cap'),rfl,rfl⟩
   have hss:∀q∈l++l2,q.length=i.size:=fun q hq=>by
    rcases Nm hq with hq | hq
    ·exact hs1 q hq
    ·exact hs2 q hq
   have hvr:dI (σ.add b' (xs++ys)) (l++l2).flatten (xs++ys):=by
    rw [List.flatten_append]
    refine ⟨by rw [List.length_append,List.length_append,hxr.1,hyr.1],fun j c u hc hu=>?_⟩
    have hq:=hxr.1
    by_cases hj:j < l.flatten.length
    ·rw [List.getElem?_append_left hj] at hc
     rw [List.getElem?_append_left (by omega)] at hu
     exact (hxr.2 j c u hc hu).mono hle
    ·rw [List.getElem?_append_right (by omega)] at hc
     rw [List.getElem?_append_right (by omega),←hq] at hu
     exact (hyr.2 _ c u hc hu).mono hle
   have:=mA (σ:=σ.add b' (xs++ys)) (b:=b') (cap:=cap') hss hvr (fun u hu=>by
    rcases Nm hu with hu | hu
    ·exact hx1 u hu
    ·exact hy1 u hu) (by rw [List.length_append];exact hle') hm' (fun j u hj=>cF.add_at hj)
   rwa [List.length_append] at this
  rcases hcase with ⟨hob,hg⟩ | ⟨rfl,hg⟩
  ·rcases hxv.vec_inv with ⟨rfl,rfl,hv⟩ | ⟨b,cap,rfl,hv⟩
   ·rw [hv] at hob;simp [Value.ownBlock] at hob
   ·rw [hv] at hob
    simp only [Value.ownBlock,Option.some.injEq] at hob
    subst hob
    refine fin l.length (Nat.le_refl _) (dw.putVec (cap:=cap) hw hg hh hs' (by omega) hm' fun j u hj=>?_)
    by_cases hjl:j < xs.length
    ·have hln:0 < l.length:=by
      rcases Nat.eq_zero_or_pos l.length with h0 | h0
      ·rw [hxl,h0] at hjl;simp at hjl
      ·exact h0
     obtain ⟨b',off',he,hcell⟩:=hxc hln
     rw [hA1] at hv
     injection hv with e1 _ _
     rw [he] at e1
     cases e1
     have:=hcell j xs[j] (Nz hjl)
     rw [Nat.zero_add,hj] at this
     injection this with this
     subst this
     exact xv htk (by rw [List.getElem?_append_left hjl];exact Nz hjl)
    ·have:=hw.free (b,.vec e i.size l.length cap) (by simp [tok]) j (by show l.length * i.size≤j;omega)
     rw [hj] at this
     cases this
  ·exact fin 0 (Nat.zero_le _) (dw.newVec (hw.sublist (List.sublist_append_right ..)) hg hh hs' hm')
end
end Go.Proofs.YtpmdfoaadejmkaaGreatDoor
