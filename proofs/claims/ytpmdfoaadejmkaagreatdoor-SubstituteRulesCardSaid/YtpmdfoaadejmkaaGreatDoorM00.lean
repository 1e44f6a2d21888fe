/-
  A small logic of triples over the kit's 'wpIn' at the wide fence: a frame is a list of known slots, a world is known by a predicate.
-/
import Derived.RangeFuncNested
import Derived.RangeFuncBound
import Derived.RangeFuncCalls
import Derived.RangeFuncLeaves
import Derived.WalkKit
import Derived.OrdersIn
import Derived.KernelRfl
import Derived.Laws.AppendOwn
import Derived.Laws.IdiomCopy
import Derived.Deep.MidRow
namespace Go.Proofs.YtpmdfoaadejmkaaGreatDoor
class go (g:Prop) (h:outParam Prop):Prop where
  z:h→g
theorem L3 {g h:Prop} [go g h] (k:h):g:=go.z k
theorem HY {α0:Sort _} {a:α0} {α1:Sort _} {b:α1}:a=a∧b=b:=⟨rfl,rfl⟩
theorem KA {α0:Sort _} {a:α0} {α1:Sort _} {b:α1} {α2:Sort _} {c:α2}:a=a∧b=b∧c=c:=⟨rfl,rfl,rfl⟩
theorem KB {α0:Sort _} {a:α0} {α1:Sort _} {b:α1} {α2:Sort _} {c:α2} {α3:Sort _} {d:α3}:a=a∧b=b∧c=c∧d=d:=⟨rfl,rfl,rfl,rfl⟩
theorem KC {α0:Sort _} {a:α0} {α1:Sort _} {b:α1} {α2:Sort _} {c:α2} {α3:Sort _} {d:α3} {α4:Sort _} {e:α4}:a=a∧b=b∧c=c∧d=d∧e=e:=⟨rfl,rfl,rfl,rfl,rfl⟩
theorem KD {α0:Sort _} {a:α0} {α1:Sort _} {b:α1} {α2:Sort _} {c:α2} {α3:Sort _} {d:α3} {α4:Sort _} {e:α4} {α5:Sort _} {f:α5}:a=a∧b=b∧c=c∧d=d∧e=e∧f=f:=⟨rfl,rfl,rfl,rfl,rfl,rfl⟩
theorem KE {α0:Sort _} {a:α0} {α1:Sort _} {b:α1} {α2:Sort _} {c:α2} {α3:Sort _} {d:α3} {α4:Sort _} {e:α4} {α5:Sort _} {f:α5} {α6:Sort _} {g:α6}:a=a∧b=b∧c=c∧d=d∧e=e∧f=f∧g=g:=⟨rfl,rfl,rfl,rfl,rfl,rfl,rfl⟩
theorem KF {α0:Sort _} {a:α0} {α1:Sort _} {b:α1} {α2:Sort _} {c:α2} {α3:Sort _} {d:α3} {α4:Sort _} {e:α4} {α5:Sort _} {f:α5} {α6:Sort _} {g:α6} {α7:Sort _} {h:α7}:a=a∧b=b∧c=c∧d=d∧e=e∧f=f∧g=g∧h=h:=⟨rfl,rfl,rfl,rfl,rfl,rfl,rfl,rfl⟩
theorem Kz {α:Type _} {l:List α} {i:Nat} (h:i < l.length):l[i]?=some l[i]:=List.getElem?_eq_getElem h
theorem Ky {p:Prop} [i:Decidable p] (h:decide p=true):p:=_root_.of_decide_eq_true h
theorem Kx {p:Prop} [i:Decidable p] (h:decide p=false):¬p:=_root_.of_decide_eq_false h
theorem Kw {α:Type _} {l:List α} {i:Nat} {a:α} (h:l[i]?=some a):a∈l:=List.mem_of_getElem? h
theorem Kv (n m:Nat):((n+m:Nat):Int)=n+m:=Int.natCast_add n m
theorem Ku {α β:Type _} {l:List α} (f:α→β):(l.map f).length=l.length:=List.length_map f
theorem Ks {α:Type _} (y:α) {a:α} {l:List α} (h:a∈l):a∈y::l:=List.mem_cons_of_mem y h
theorem Kr {α:Type _} {a:α} {as bs:List α}:a::as++bs=a::(as++bs):=rfl
theorem Kq {α:Type _} (as:List α):[]++as=as:=rfl
theorem Kp {α β:Type _} {f:α→β} {a:α} {l:List α}:(a::l).map f=f a::l.map f:=rfl
theorem Ko {α:Type _} {l:List α} {i:Nat} {a:α} (h:l[i]?=some a):∃h:i < l.length,l[i]=a:=List.getElem?_eq_some_iff.1 h
theorem Lz {α:Type _} (l:List α):l.Perm l:=List.Perm.refl l
theorem Ly {α:Type _} {a:α} {s t:List α} (h:a∈s++t):a∈s∨a∈t:=List.mem_append.1 h
theorem Lw {α:Type _} {a b:α} (h:a∈[b]):a=b:=List.mem_singleton.1 h
theorem Lv {α β:Type _} {f:α→β}:[].map f=[]:=rfl
open Go.RowKit
abbrev Wd (r:Option Nat):Fence:={ Fence.wide with round:=r }
abbrev Fr:=List (Nat×Value)
def f0:Fr→Nat→Option Value
 | [],_=>none
 | (i,v)::r,t=>bif Nat.beq i t then some v else f0 r t
def wy (fr:Fr):Operand→Option Value
 | .tmp t=>f0 fr t
 | .const v=>some v
 | .global g=>some (.pointer (some ⟨g,0,none⟩))
 | .func f=>some (.func (.func f) #[] #[])
def Jt (fr:Fr):List Operand→Option (List Value)
 | []=>some []
 | x::xs=>match wy fr x with
  | none=>none
  | some v=>match Jt fr xs with
   | none=>none
   | some vs=>some (v::vs)
structure Ag (nt:Nat) (D:List Deferred) (fr:Fr) (a:Act):Prop where
 size:a.tmps.size=nt
 defers:a.defers=D
 look:∀t v,f0 fr t=some v→a.tmps.getD t undef=v
theorem iZ (i:Nat) (v:Value) (fr:Fr) (t:Nat):f0 ((i,v)::fr) t=if i=t then some v else f0 fr t:=by
 simp only [f0]
 by_cases h:i=t
 ·subst h;simp
 ·have:Nat.beq i t=false:=by
   rw [←Bool.not_eq_true,Nat.beq_eq];exact h
  simp [h,this]
def Kf:Fr→Fr→Prop
 | [],_=>True
 | (t,v)::r,fr=>f0 fr t=some v∧Kf r fr
def gR (P:Program) (o:Oper) (ρ:Operand→Value) (w:World) (K:Value→World→Prop):Prop:=
 match (execOp ρ o).run P w with
 | .ok (.value v) w'=>K v w'
 | .ok .skip w'=>K undef w'
 | .ok (.enter f args) w'=>Calls P f args w' fun e w''=>∃v,e= .returned v∧K v w''
 | .ok (.round l f tmps assign body) w'=>RoundIn Fence.wide 0 P l f tmps assign body w' fun e w''=>∃v,e= .returned v∧K v w''
 | _=>False
def Oper.noDefer (o:Oper):Bool:=match o.op with | .defer _=>false | .select .. =>false | _=>true
theorem uj {o:Oper} (h:Oper.noDefer o=true):∀c,o.op≠ .defer c:=by
 intro c e;simp [Oper.noDefer,e] at h
theorem pk {r:Option Nat} {n:Nat} {P:Program} {f:FuncId} {args:Array Value} {w:World} {R:Ending→World→Prop} (h:Calls P f args w R):CallsIn (Wd r) n P f args w R:=by
 have:=(callsIn_wide (n:=n)).2 h
 exact this
theorem wa {r:Option Nat} {n m:Nat} {P:Program} {l:Nat} {f:FuncId} {tmps:Array Value} {assign body:Code} {w:World} {R:Ending→World→Prop}
  (h:RoundIn Fence.wide m P l f tmps assign body w R):RoundIn (Wd r) n P l f tmps assign body w R:=
 ⟨trivial,fun c cs _=>h.2 c cs (room_wide _)⟩
theorem rL {P:Program} {o:Oper} {a:Act} {w:World} {K:Value→World→Prop} {r:Option Nat} {n:Nat} {next:Act→World→Prop} {Q:Exit→Act→World→Prop}
  (hd:Oper.noDefer o=true) (h:gR P o a.eval w K) (hk:∀v w',K v w'→next (a.put o.dst v) w'):o.wpIn (Wd r) n P a w next Q:=by
 refine ⟨fun _ _=>trivial,?_⟩
 rw [show o.semAt (Wd r).round a.eval=execOp a.eval o from Oper.semAt_eq _ _ _ (uj hd)]
 unfold gR at h
 generalize (execOp a.eval o).run P w=x at h
 cases x with
 | halt _ _=>exact h.elim
 | ok x w'=>
  cases x <;> simp only at h <;> first | exact h.elim | skip
  ·exact hk _ _ h
  ·exact hk _ _ h
  ·rename_i f args
   refine ⟨fun hh=>by simp [Fence.wide] at hh,pk (h.mono ?_)⟩
   rintro e w'' ⟨v,rfl,hv⟩
   exact hk _ _ hv
  ·refine ⟨fun hh=>by simp [Fence.wide] at hh,wa (h.mono ?_)⟩
   rintro e w'' ⟨v,rfl,hv⟩
   exact hk _ _ hv
def O (P:Program) (o:Oper) (fr:Fr) (I:World→Prop) (R:Value→World→Prop):Prop:=
 ∀ρ w,(∀x v,wy fr x=some v→ρ x=v)→I w→gR P o ρ w R
theorem gR.mono {P:Program} {o:Oper} {ρ:Operand→Value} {w:World} {K K':Value→World→Prop} (h:gR P o ρ w K) (hk:∀v w',K v w'→K' v w'):gR P o ρ w K':=by
 unfold gR at *
 generalize (execOp ρ o).run P w=x at *
 cases x with
 | halt _ _=>exact h
 | ok x w'=>
  cases x <;> simp only at h ⊢ <;> first | exact hk _ _ h | exact h | skip
  ·exact h.mono fun e w'' ⟨v,he,hv⟩=>⟨v,he,hk _ _ hv⟩
  ·exact h.mono fun e w'' ⟨v,he,hv⟩=>⟨v,he,hk _ _ hv⟩
variable {P:Program} {r:Option Nat} {ops:Array Oper} {Q:Exit→Act→World→Prop} {nt:Nat} {D:List Deferred} {fr:Fr} {I:World→Prop}
def TL (P:Program) (r:Option Nat) (ops:Array Oper) (Q:Exit→Act→World→Prop) (nt:Nat) (D:List Deferred) (rest:List Oper) (fr:Fr) (I:World→Prop):Prop:=
 ∀a w,Ag nt D fr a→I w→wpListIn (Wd r) 0 P ops Q rest a w
def Xt (_P:Program) (e:Exit) (Q:Exit→Act→World→Prop) (nt:Nat) (D:List Deferred) (fr:Fr) (I:World→Prop):Prop:=
 ∀a w,Ag nt D fr a→I w→Q e a w
def T (P:Program) (r:Option Nat) (c:Code) (Q:Exit→Act→World→Prop) (nt:Nat) (D:List Deferred) (fr:Fr) (I:World→Prop):Prop:=
 ∀a w,Ag nt D fr a→I w→c.wpIn (Wd r) 0 P Q a w
def Kt (P:Program) (r:Option Nat) (y:Code) (Q:Exit→Act→World→Prop):Exit→Act→World→Prop:=Exit.then (fun a w=>y.wpIn (Wd r) 0 P Q a w) Q
def Ix:Nat→List Value→Fr
 | _,[]=>[]
 | k,v::vs=>(k,v)::Ix (k+1) vs
end Go.Proofs.YtpmdfoaadejmkaaGreatDoor
namespace Go.Proofs.YtpmdfoaadejmkaaGreatDoor
open Go.RowKit
abbrev HL:=List (Nat×(Obj→Prop))
def bx (cs:List Value) (t:TypeId):Obj→Prop:=fun o=>o= .cells cs.toArray t (0,0)
def f9 (e:TypeId) (sz n cap:Nat) (xs:List Value):Obj→Prop:=fun o=>
 ∃cur:Array Value,o= .cells cur e (0,0)∧cur.size=cap * sz∧cur.toList.take (n * sz)=xs∧xs.length=n * sz∧n≤cap∧cap≤maxLen
structure St (w0:World) (X:List Nat) (L:HL) (w:World):Prop where
 os:w.os=w0.os
 tape:w.tape=w0.tape
 output:w.output=w0.output
 size:w0.heap.size≤w.heap.size
 old:∀k,k < w0.heap.size→k∉X→w.heap[k]?=w0.heap[k]?
 here:∀p∈L,∃o,w.heap[p.1]?=some o∧p.2 o
 mine:∀p∈L,w0.heap.size≤p.1∨p.1∈X
 apart:(L.map (·.1)).Nodup
abbrev Kl (w w':World):Prop:=Below w.heap.size w w'
theorem pR (w:World) (b k:Nat) (v:Value):w.grownBy (w.setCell ⟨b,k,none⟩ v) (some b):=
 ⟨rfl,rfl,rfl,by simp [World.setCell],fun i _ hi=>Below.heap_setCell w ⟨b,k,none⟩ v i (fun e=>hi (by rw [e]))⟩
theorem nG {w:World} {b k:Nat} {v:Value} {cs:Array Value} {t:TypeId} {f:Nat×Nat} (h:w.heap[b]?=some (.cells cs t f)):(w.setCell ⟨b,k,none⟩ v).heap[b]?=some (.cells (cs.setIfInBounds k v) t f):=by
 simp [World.setCell,Array.getElem?_modify,h]
theorem jL (b:Nat):∀(vs:List Value) (k:Nat) (w:World) (cs:Array Value) (t:TypeId) (f:Nat×Nat),w.heap[b]?=some (.cells cs t f)→
  w.grownBy (w.setCells b k vs) (some b)∧∃cs':Array Value,(w.setCells b k vs).heap[b]?=some (.cells cs' t f)∧cs'.size=cs.size∧∀j,cs'[j]?=if k≤j∧j < k+vs.length∧j < cs.size then vs[j - k]? else cs[j]?
 | [],k,w,cs,t,f,h=>⟨⟨rfl,rfl,rfl,Nat.le_refl _,fun _ _ _=>rfl⟩,cs,h,rfl,fun j=>by rw [if_neg];simp;omega⟩
 | v::r,k,w,cs,t,f,h=>by
  have h1:=nG (k:=k) (v:=v) h
  obtain ⟨hg,cs',hc,hs,hj⟩:=jL b r (k+1) _ _ t f h1
  have g1:=pR w b k v
  refine ⟨⟨hg.os.trans g1.os,hg.tape.trans g1.tape,hg.output.trans g1.output,Nat.le_trans g1.size hg.size,fun i hi hne=>(hg.block i (Nat.lt_of_lt_of_le hi g1.size) hne).trans (g1.block i hi hne)⟩,cs',hc,by simpa using hs,?_⟩
  intro j
  rw [hj j]
  simp only [Array.size_setIfInBounds,List.length_cons]
  by_cases e:j=k
  ·subst e
   rw [if_neg (by omega)]
   by_cases hl:j < cs.size
   ·rw [if_pos ⟨Nat.le_refl _,by omega,hl⟩];simp [hl]
   ·rw [if_neg (by omega)]
    rw [Array.getElem?_eq_none (by simpa using hl),Array.getElem?_eq_none (by omega)]
  ·by_cases hc:k+1≤j∧j < k+1+r.length∧j < cs.size
   ·rw [if_pos hc,if_pos (by omega)]
    rw [show j - k=(j - (k+1))+1 by omega,List.getElem?_cons_succ]
   ·rw [if_neg hc,if_neg (by omega),Array.getElem?_setIfInBounds_ne (by omega)]
theorem d7 {w:World} {b k:Nat} {cs:Array Value} {t:TypeId} {f:Nat×Nat} (h:w.heap[b]?=some (.cells cs t f)):w.cell? ⟨b,k,none⟩=cs[k]?:=by simp [World.cell?,h]
theorem t3 {w:World} {b k:Nat} {cs:Array Value} {t:TypeId} (h:w.heap[b]?=some (.cells cs t (0,0))):w.frozen? ⟨b,k,none⟩=false:=by simp [World.frozen?,h]
def Rd (w:World) (sz:Nat) (v:Value) (xs:List Value):Prop:=
 ∃A n cap,v= .slice A n cap∧xs.length=n * sz∧n≤cap∧cap≤maxLen∧(0 < n→∃b off,A=some ⟨b,off,none⟩∧b < w.heap.size∧∀j u,xs[j]?=some u→w.cell? ⟨b,off+j,none⟩=some u)
variable {P:Program} {fr:Fr} {I:World→Prop} {d:Option Tmp} {ty t t':TypeId} {pos:String} {af:Array Edge} {g:Option (Nat×Bool)} {x y:Operand}
class Gl (P:Program) (t:TypeId):Prop where
 agg:∀w,(isAgg t).run P w= .ok false w
 one:(P.info? t).map (·.size)=some 1
class GL (P:Program) (t:TypeId) (k:outParam Nat):Prop where
 agg:∀w,(isAgg t).run P w= .ok true w
 size:(P.info? t).map (·.size)=some k
class Jg (P:Program) (s f:Nat) (off:outParam Nat):Prop where
 run:∀a w,(Instr.fieldAt s (.pointer (some a)) f).run P w= .ok (.pointer (some (a.add off))) w
class CZ (P:Program) (t:TypeId) (z:outParam (List Value)):Prop where
 run:∃v:Value,v.cells=z.toArray∧∀w,(zeroValue t).run P w= .ok v w
class kv (P:Program) (t:TypeId) (e sz bytes:outParam Nat):Prop where
 under:P.underlying t=some (.slice e)
 info:∃i z,P.info? e=some i∧i.size=sz∧i.bytes=bytes∧i.zero=some z∧z.cells.size=sz
class BD (P:Program) (t:TypeId):Prop where
 under:P.underlying t=some .string
class BC (P:Program) (t:TypeId) (k:outParam IntKind):Prop where
 under:P.underlying t=some (.int k)
class bM (P:Program) (f:FuncId):Prop where
 enters:∀args w,(callFunc f args).run P w= .ok (.enter f args) w
abbrev Pv (P:Program) (o:Oper) (fr:Fr) (I:World→Prop) (u:Value):Prop:=O P o fr I (fun v w=>v=u∧I w)
theorem oN {n:Int} (h: -9223372036854775808≤n∧n≤9223372036854775807):IntKind.i64.wrap n=n:=by
 rw [IntKind.wrap_i64];omega
theorem vc {a b:ByteArray} (h:¬a=b):¬a.toList=b.toList:=by
 intro e;apply h
 rw [ByteArray.toList_eq,ByteArray.toList_eq] at e
 exact ByteArray.ext (Array.toList_inj.1 e)
end Go.Proofs.YtpmdfoaadejmkaaGreatDoor
namespace Go.Proofs.YtpmdfoaadejmkaaGreatDoor
open Go.RowKit
variable {P:Program} {fr:Fr} {I:World→Prop} {d:Option Tmp} {ty t t':TypeId} {pos:String} {af:Array Edge} {g:Option (Nat×Bool)} {x y:Operand}
variable {w0:World} {X:List Nat} {L:HL}
theorem gG [h:Gl P t] {w:World} {a:Addr} {v:Value} (hc:w.cell? a=some v):(loadVar t a).run P w= .ok v w:=by
 simp [loadVar,h.agg w,load,Sem.run,hc,Sem.run_bind]
theorem gF {k:Nat} [h:GL P t k] {w:World} {b o:Nat} {cs:List Value} (hl:cs.length=k) (hc:∀j v,cs[j]?=some v→w.cell? ⟨b,o+j,none⟩=some v):(loadVar t ⟨b,o,none⟩).run P w= .ok (.agg cs.toArray) w:=by
 have hl':(loadCells ⟨b,o,none⟩ cs.length).run P w= .ok cs.toArray w:=
  run_loadCells_list (P:=P) w ⟨b,o,none⟩ cs (fun j v hv=>by rw [Addr.add_mid];exact hc j v hv)
 have hi:=h.size
 cases hq:P.info? t with
 | none=>rw [hq] at hi;cases hi
 | some i=>
  rw [hq] at hi
  simp only [Option.map_some,Option.some.injEq] at hi
  simp only [loadVar,Sem.run_bind,h.agg w,Result.andThen,if_true]
  simp [sizeOf,typeInfo,hq,hi,←hl,hl']
def JP (w0:World) (X:List Nat) (L:HL) (q:Obj→Prop) (v:Value) (w:World):Prop:=∃b,v= .pointer (some ⟨b,0,none⟩)∧St w0 X ((b,q)::L) w
theorem sB {v:Value} (h:v.oneCell'=true):v.cells=#[v]:=by cases v <;> first | rfl | (simp [Value.oneCell'] at h)
def Jw (L:HL) (i:Nat) (q:Obj→Prop):HL:=match L,i with
 | [],_=>[]
 | p::r,0=>(p.1,q)::r
 | p::r,i+1=>p::Jw r i q
theorem dJ (b k off:Nat):(⟨b,k,none⟩:Addr).add off=⟨b,k+off,none⟩:=Addr.add_mid b k off
theorem cP {e sz by_:Nat} [h:kv P t e sz by_] (w:World):(sizeOf e).run P w= .ok sz w:=by
 obtain ⟨i,z,hi,hs,_⟩:=h.info
 simp [sizeOf,typeInfo,hi,hs]
end Go.Proofs.YtpmdfoaadejmkaaGreatDoor
namespace Go.Proofs.YtpmdfoaadejmkaaGreatDoor
open Go.RowKit
inductive AV where
 | sc (v:Value)
 | agg (cs:List AV)
 | imm (sz:Nat) (l:List (List AV))
 | vec (k:Option (Nat×Nat)) (sz:Nat) (l:List (List AV))
 | iptr (cs:List AV)
 | fn (f:FuncId) (caps:List AV)
 | fnB (f:FuncId) (fs caps:List AV)
 | tup (vs:List AV)
abbrev cr:=Nat→Nat→Option Value
def cr.le (σ τ:cr):Prop:=∀b o u,σ b o=some u→τ b o=some u
theorem cr.le_refl (σ:cr):σ.le σ:=fun _ _ _ h=>h
theorem cr.le_trans {a b c:cr} (h:a.le b) (k:b.le c):a.le c:=fun _ _ _ e=>k _ _ _ (h _ _ _ e)
inductive VR (σ:cr):AV→Value→Prop where
 | sc (v:Value):VR σ (.sc v) v
 | agg (cs:List AV) (vs:List Value) (hl:cs.length=vs.length) (h:∀(i:Nat) (c:AV) (u:Value),cs[i]?=some c→vs[i]?=some u→VR σ c u) (h1:∀u∈vs,u.oneCell'=true):VR σ (.agg cs) (.agg vs.toArray)
 | imm (sz:Nat) (l:List (List AV)) (A:Option Addr) (cap:Nat) (hc:l.length≤cap) (hm:cap≤maxLen) (hs:∀e∈l,e.length=sz) (ha:l≠[]→∃b off,A=some ⟨b,off,none⟩)
   (hx:∀(i b off j:Nat),A=some ⟨b,off,none⟩→i < l.length→j < sz→∃u,σ b (off+i * sz+j)=some u∧u.oneCell'=true)
   (h:∀(i:Nat) (e:List AV) (b off j:Nat) (c:AV) (u:Value),l[i]?=some e→A=some ⟨b,off,none⟩→e[j]?=some c→σ b (off+i * sz+j)=some u→VR σ c u):VR σ (.imm sz l) (.slice A l.length cap)
 | vecN (sz:Nat):VR σ (.vec none sz []) (.slice none 0 0)
 | vec (b cap sz:Nat) (l:List (List AV)) (hc:l.length≤cap) (hm:cap≤maxLen) (hs:∀e∈l,e.length=sz)
   (hx:∀(i j:Nat),i < l.length→j < sz→∃u,σ b (0+i * sz+j)=some u∧u.oneCell'=true)
   (h:∀(i:Nat) (e:List AV) (j:Nat) (c:AV) (u:Value),l[i]?=some e→e[j]?=some c→σ b (0+i * sz+j)=some u→VR σ c u):VR σ (.vec (some (b,cap)) sz l) (.slice (some ⟨b,0,none⟩) l.length cap)
 | iptr (cs:List AV) (b off:Nat) (hx:∀(j:Nat),j < cs.length→∃u,σ b (off+j)=some u∧u.oneCell'=true) (h:∀(j:Nat) (c:AV) (u:Value),cs[j]?=some c→σ b (off+j)=some u→VR σ c u):VR σ (.iptr cs) (.pointer (some ⟨b,off,none⟩))
 | fn (f:FuncId) (cs:List AV) (vs:List Value) (hl:cs.length=vs.length) (h:∀(i:Nat) (c:AV) (u:Value),cs[i]?=some c→vs[i]?=some u→VR σ c u):VR σ (.fn f cs) (.func (.func f) #[] vs.toArray)
 | fnB (f:FuncId) (fs cs:List AV) (ws vs:List Value) (hf:fs.length=ws.length) (h0:∀(i:Nat) (c:AV) (u:Value),fs[i]?=some c→ws[i]?=some u→VR σ c u) (hl:cs.length=vs.length) (h:∀(i:Nat) (c:AV) (u:Value),cs[i]?=some c→vs[i]?=some u→VR σ c u):VR σ (.fnB f fs cs) (.func (.func f) ws.toArray vs.toArray)
 | tup (cs:List AV) (vs:List Value) (hl:cs.length=vs.length) (h:∀(i:Nat) (c:AV) (u:Value),cs[i]?=some c→vs[i]?=some u→VR σ c u):VR σ (.tup cs) (.tuple vs.toArray)
theorem VR.mono {σ τ:cr} (hle:σ.le τ) {c:AV} {v:Value} (h:VR σ c v):VR τ c v:=by
 induction h with
 | sc v=>exact .sc v
 | agg cs vs hl _ h1 ih=>exact .agg cs vs hl ih h1
 | imm sz l A cap hc hm hs ha hx _ ih=>
  refine .imm sz l A cap hc hm hs ha (fun i b off j hA hi hj=>?_) fun i e b off j c u he hA hj hu=>?_
  ·obtain ⟨u,hu,h1⟩:=hx i b off j hA hi hj
   exact ⟨u,hle _ _ _ hu,h1⟩
  ·have hi:=(Ko he).1
   have hj':j < sz:=by rw [←hs e (Kw he)];exact (Ko hj).1
   obtain ⟨u',hu',_⟩:=hx i b off j hA hi hj'
   have:=hle _ _ _ hu'
   rw [hu] at this
   injection this with this
   subst this
   exact ih i e b off j c u he hA hj hu'
 | vecN sz=>exact .vecN sz
 | vec b cap sz l hc hm hs hx _ ih=>
  refine .vec b cap sz l hc hm hs (fun i j hi hj=>?_) fun i e j c u he hj hu=>?_
  ·obtain ⟨u,hu,h1⟩:=hx i j hi hj
   exact ⟨u,hle _ _ _ hu,h1⟩
  ·have hi:=(Ko he).1
   have hj':j < sz:=by rw [←hs e (Kw he)];exact (Ko hj).1
   obtain ⟨u',hu',_⟩:=hx i j hi hj'
   have:=hle _ _ _ hu'
   rw [hu] at this
   injection this with this
   subst this
   exact ih i e j c u he hj hu'
 | iptr cs b off hx _ ih=>
  refine .iptr cs b off (fun j hj=>?_) fun j c u hc hu=>?_
  ·obtain ⟨u,hu,h1⟩:=hx j hj
   exact ⟨u,hle _ _ _ hu,h1⟩
  ·obtain ⟨u',hu',_⟩:=hx j (Ko hc).1
   have:=hle _ _ _ hu'
   rw [hu] at this
   injection this with this
   subst this
   exact ih j c u hc hu'
 | fn f cs vs hl _ ih=>exact .fn f cs vs hl ih
 | fnB f fs cs ws vs hf _ hl _ ih0 ih=>exact .fnB f fs cs ws vs hf ih0 hl ih
 | tup cs vs hl _ ih=>exact .tup cs vs hl ih
def AV.im:AV→AV
 | .vec _ sz l=> .imm sz l
 | c=>c
theorem VR.im {σ:cr} {c:AV} {v:Value} (h:VR σ c v):VR σ c.im v:=by
 cases h with
 | vecN sz=>exact .imm sz [] none 0 (Nat.le_refl _) (Nat.zero_le _) (by simp) (by simp) (fun i b off j hA=>by cases hA) (fun i e b off j c u he hA=>by cases hA)
 | vec b cap sz l hc hm hs hx h=>
  refine .imm sz l _ cap hc hm hs (fun _=>⟨b,0,rfl⟩) (fun i b' off j hA hi hj=>?_) fun i e b' off j c u he hA hj hu=>?_
  ·cases hA;exact hx i j hi hj
  ·cases hA;exact h i e j c u he hj hu
 | sc v=>exact .sc v
 | agg cs vs hl h h1=>exact .agg cs vs hl h h1
 | imm sz l A cap hc hm hs ha hx h=>exact .imm sz l A cap hc hm hs ha hx h
 | iptr cs b off hx h=>exact .iptr cs b off hx h
 | fn f cs vs hl h=>exact .fn f cs vs hl h
 | fnB f fs cs ws vs hf h0 hl h=>exact .fnB f fs cs ws vs hf h0 hl h
 | tup cs vs hl h=>exact .tup cs vs hl h
def dB (σ:cr) (cs:List AV) (vs:List Value):Prop:=cs.length=vs.length∧∀(i:Nat) (c:AV) (u:Value),cs[i]?=some c→vs[i]?=some u→VR σ c u
theorem dB.mono {σ τ:cr} (hle:σ.le τ) {cs:List AV} {vs:List Value} (h:dB σ cs vs):dB τ cs vs:=⟨h.1,fun i c u hc hu=>(h.2 i c u hc hu).mono hle⟩
theorem dB.nil {σ:cr}:dB σ [] []:=⟨rfl,fun i c u h=>by simp at h⟩
theorem dB.cons {σ:cr} {c:AV} {v:Value} {cs:List AV} {vs:List Value} (h:VR σ c v) (hs:dB σ cs vs):dB σ (c::cs) (v::vs):=by
 refine ⟨by simp [hs.1],fun i x u hx hu=>?_⟩
 cases i with
 | zero=>simp at hx hu;subst hx;subst hu;exact h
 | succ i=>exact hs.2 i x u (by simpa using hx) (by simpa using hu)
theorem dB.inv {σ:cr} {c:AV} {cs:List AV} {vs:List Value} (h:dB σ (c::cs) vs):∃v ws,vs=v::ws∧VR σ c v∧dB σ cs ws:=by
 cases vs with
 | nil=>have:=h.1;simp at this
 | cons v ws=>exact ⟨v,ws,rfl,h.2 0 c v rfl rfl,by have:=h.1;simpa using this,fun i x u hx hu=>h.2 (i+1) x u (by simpa using hx) (by simpa using hu)⟩
theorem dB.nil_inv {σ:cr} {vs:List Value} (h:dB σ [] vs):vs=[]:=by
 have:=h.1;cases vs with
 | nil=>rfl
 | cons _ _=>simp at this
theorem VR.sc_inv {σ:cr} {v u:Value} (h:VR σ (.sc v) u):u=v:=by cases h;rfl
inductive AB where
 | box (cs:List AV) (t:TypeId)
 | vec (t sz n cap:Nat)
 | raw (q:Obj→Prop)
 | dep (q:cr→Obj→Prop) (h:∀σ τ o,σ.le τ→q σ o→q τ o)
def AB.holds (σ:cr):AB→Obj→Prop
 | .box cs t,o=>∃vs,o= .cells vs.toArray t (0,0)∧dB σ cs vs∧∀u∈vs,u.oneCell'=true
 | .vec t sz n cap,o=>∃cur:Array Value,o= .cells cur t (0,0)∧cur.size=cap * sz∧n≤cap∧cap≤maxLen
 | .raw q,o=>q o
 | .dep q _,o=>q σ o
def AB.mut:AB→Nat→Prop
 | .vec _ sz n _,off=>n * sz≤off
 | _,_=>True
theorem AB.mono {σ τ:cr} (hle:σ.le τ) {a:AB} {o:Obj} (h:a.holds σ o):a.holds τ o:=by
 cases a with
 | box cs t=>obtain ⟨vs,ho,hv,h1⟩:=h;exact ⟨vs,ho,hv.mono hle,h1⟩
 | vec t sz n cap=>exact h
 | raw q=>exact h
 | dep q hq=>exact hq _ _ _ hle h
abbrev AL:=List (Nat×AB)
structure Bs where
 w:World
 σ:cr
 X:List Nat
structure di (B:Bs) (σ:cr) (L:AL) (w:World):Prop where
 os:w.os=B.w.os
 tape:w.tape=B.w.tape
 output:w.output=B.w.output
 size:B.w.heap.size≤w.heap.size
 old:∀k,k < B.w.heap.size→k∉B.X→w.heap[k]?=B.w.heap[k]?
 here:∀p∈L,∃o,w.heap[p.1]?=some o∧p.2.holds σ o
 mine:∀p∈L,B.w.heap.size≤p.1∨p.1∈B.X
 apart:(L.map (·.1)).Nodup
 froz:∀b off u,σ b off=some u→w.cell? ⟨b,off,none⟩=some u
 free:∀p∈L,∀off,p.2.mut off→σ p.1 off=none
 grow:B.σ.le σ
 same:∀b,b < B.w.heap.size→b∉B.X→∀off,σ b off=B.σ b off
theorem di.lt {B:Bs} {σ:cr} {L:AL} {w:World} (h:di B σ L w) {p:Nat×AB} (hp:p∈L):p.1 < w.heap.size:=by
 obtain ⟨o,ho,_⟩:=h.here p hp
 exact (Array.getElem?_eq_some_iff.1 ho).1
theorem di.drew {B:Bs} {σ:cr} {L:AL} {w:World} (h:di B σ L w) (n:Nat):di B σ L { w with drawn:=n }:=⟨h.os,h.tape,h.output,h.size,h.old,h.here,h.mine,h.apart,h.froz,h.free,h.grow,h.same⟩
theorem di.sub {B:Bs} {σ:cr} {L L':AL} {w:World} (h:di B σ L w) (hs:∀p∈L',p∈L) (hn:(L'.map (·.1)).Nodup):di B σ L' w:=
 ⟨h.os,h.tape,h.output,h.size,h.old,fun p hp=>h.here p (hs p hp),fun p hp=>h.mine p (hs p hp),hn,h.froz,fun p hp=>h.free p (hs p hp),h.grow,h.same⟩
theorem di.sublist {B:Bs} {σ:cr} {L L':AL} {w:World} (h:di B σ L w) (hs:L'.Sublist L):di B σ L' w:=h.sub (fun _ hp=>hs.subset hp) (h.apart.sublist (hs.map _))
theorem di.perm {B:Bs} {σ:cr} {L L':AL} {w:World} (h:di B σ L w) (hs:L.Perm L'):di B σ L' w:=h.sub (fun _ hp=>hs.mem_iff.2 hp) ((hs.map _).nodup_iff.1 h.apart)
theorem di.enter {B:Bs} {σ:cr} {Lc Lf:AL} {w:World} (h:di B σ (Lc++Lf) w):di ⟨w,σ,Lc.map (·.1)⟩ σ Lc w:=by
 refine ⟨rfl,rfl,rfl,Nat.le_refl _,fun _ _ _=>rfl,fun p hp=>h.here p (List.mem_append_left _ hp),fun p hp=> .inr (List.mem_map_of_mem hp),?_,h.froz,fun p hp=>h.free p (List.mem_append_left _ hp),cr.le_refl _,fun _ _ _ _=>rfl⟩
 have:=h.apart
 rw [List.map_append] at this
 exact (List.nodup_append.1 this).1
theorem di.leave {B:Bs} {σ τ:cr} {Lc Lf L':AL} {w w':World} (h:di B σ (Lc++Lf) w) (k:di ⟨w,σ,Lc.map (·.1)⟩ τ L' w'):di B τ (L'++Lf) w':=by
 have hap:=h.apart
 rw [List.map_append,List.nodup_append] at hap
 obtain ⟨_,hnf,hdis⟩:=hap
 have hmc:∀b,b∈Lc.map (·.1)→B.w.heap.size≤b∨b∈B.X:=by
  intro b hb
  obtain ⟨p,hp,rfl⟩:=List.mem_map.1 hb
  exact h.mine p (List.mem_append_left _ hp)
 have hf:∀p∈Lf,p.1 < w.heap.size∧p.1∉Lc.map (·.1):=fun p hp=>⟨h.lt (List.mem_append_right _ hp),fun hm=>hdis _ hm _ (List.mem_map_of_mem hp) rfl⟩
 have hk:∀b,b < B.w.heap.size→b∉B.X→b < w.heap.size∧b∉Lc.map (·.1):=fun b hb hx=>⟨Nat.lt_of_lt_of_le hb h.size,fun hm=>by
  rcases hmc b hm with h1 | h1
  ·omega
  ·exact hx h1⟩
 refine ⟨k.os.trans h.os,k.tape.trans h.tape,k.output.trans h.output,Nat.le_trans h.size k.size,fun b hb hx=>?_,fun p hp=>?_,fun p hp=>?_,?_,k.froz,fun p hp off hm=>?_,cr.le_trans h.grow k.grow,fun b hb hx off=>?_⟩
 ·obtain ⟨h1,h2⟩:=hk b hb hx
  exact (k.old b h1 h2).trans (h.old b hb hx)
 ·rcases Ly hp with hp | hp
  ·exact k.here p hp
  ·obtain ⟨o,ho,hh⟩:=h.here p (List.mem_append_right _ hp)
   obtain ⟨h1,h2⟩:=hf p hp
   exact ⟨o,(k.old p.1 h1 h2).trans ho,AB.mono k.grow hh⟩
 ·rcases Ly hp with hp | hp
  ·rcases k.mine p hp with h1 | h1
   ·exact .inl (Nat.le_trans h.size h1)
   ·exact hmc _ h1
  ·exact h.mine p (List.mem_append_right _ hp)
 ·rw [List.map_append,List.nodup_append]
  refine ⟨k.apart,hnf,fun a ha b hb hab=>?_⟩
  subst hab
  obtain ⟨p,hp,hpa⟩:=List.mem_map.1 ha
  obtain ⟨q,hq,hqa⟩:=List.mem_map.1 hb
  obtain ⟨h1,h2⟩:=hf q hq
  rw [hqa] at h1 h2
  rcases k.mine p hp with h3 | h3
  ·rw [hpa] at h3;exact absurd h1 (Nat.not_lt.2 h3)
  ·rw [hpa] at h3;exact h2 h3
 ·rcases Ly hp with hp | hp
  ·exact k.free p hp off hm
  ·obtain ⟨h1,h2⟩:=hf p hp
   rw [k.same p.1 h1 h2 off]
   exact h.free p (List.mem_append_right _ hp) off hm
 ·obtain ⟨h1,h2⟩:=hk b hb hx
  rw [k.same b h1 h2 off]
  exact h.same b hb hx off
abbrev cf:=List (Nat×AV)
def ci:cf→Nat→Option AV
 | [],_=>none
 | (i,v)::r,t=>bif Nat.beq i t then some v else ci r t
def br (fr:cf):Operand→Option AV
 | .tmp t=>ci fr t
 | .const v=>some (.sc v)
 | .global g=>some (.sc (.pointer (some ⟨g,0,none⟩)))
 | .func f=>some (.sc (.func (.func f) #[] #[]))
def eM (fr:cf):List Operand→Option (List AV)
 | []=>some []
 | x::xs=>match br fr x with
  | none=>none
  | some v=>match eM fr xs with
   | none=>none
   | some vs=>some (v::vs)
theorem cz (i:Nat) (v:AV) (fr:cf) (t:Nat):ci ((i,v)::fr) t=if i=t then some v else ci fr t:=by
 simp only [ci]
 by_cases h:i=t
 ·subst h;simp
 ·have:Nat.beq i t=false:=by
   rw [←Bool.not_eq_true,Nat.beq_eq];exact h
  simp [h,this]
structure jo (σ:cr) (nt:Nat) (D:List Deferred) (fr:cf) (a:Act):Prop where
 size:a.tmps.size=nt
 defers:a.defers=D
 look:∀t c,ci fr t=some c→VR σ c (a.tmps.getD t undef)
theorem jo.mono {σ τ:cr} (hle:σ.le τ) {nt:Nat} {D:List Deferred} {fr:cf} {a:Act} (h:jo σ nt D fr a):jo τ nt D fr a:=⟨h.size,h.defers,fun t c hc=>(h.look t c hc).mono hle⟩
theorem jo.put {σ:cr} {nt:Nat} {D:List Deferred} {fr:cf} {a:Act} {d:Nat} {c:AV} {v:Value} (h:jo σ nt D fr a) (hd:d < nt) (hv:VR σ c v):jo σ nt D ((d,c)::fr) (a.put (some d) v):=by
 refine ⟨by simp [Act.put,h.size],by simp [Act.put,h.defers],fun t u hu=>?_⟩
 rw [cz] at hu
 have hs:=h.size
 by_cases e:d=t
 ·subst e
  simp only [if_true,Option.some.injEq] at hu
  subst hu
  simpa [Act.put,hs,hd] using hv
 ·rw [if_neg e] at hu
  have:=h.look t u hu
  simp only [Act.put]
  simpa [Array.getElem?_setIfInBounds_ne,e] using this
theorem jo.eval {σ:cr} {nt:Nat} {D:List Deferred} {fr:cf} {a:Act} (h:jo σ nt D fr a) {x:Operand} {c:AV} (hx:br fr x=some c):VR σ c (a.eval x):=by
 cases x with
 | tmp t=>exact h.look t c hx
 | const u=>simp only [br,Option.some.injEq] at hx;subst hx;simp only [Act.eval];exact .sc _
 | global g=>simp only [br,Option.some.injEq] at hx;subst hx;simp only [Act.eval];exact .sc _
 | func f=>simp only [br,Option.some.injEq] at hx;subst hx;simp only [Act.eval];exact .sc _
def Km (σ:cr) (c c':AV):Prop:=∀v,VR σ c v→VR σ c' v
def mR:cf→cf→Prop
 | [],_=>True
 | (t,v)::r,fr=>ci fr t=some v∧mR r fr
theorem zy {fr' fr:cf} (h:mR fr' fr) {t:Nat} {v:AV} (hl:ci fr' t=some v):ci fr t=some v:=by
 induction fr' with
 | nil=>simp [ci] at hl
 | cons p r ih=>
  obtain ⟨i,u⟩:=p
  rw [cz] at hl
  by_cases e:i=t
  ·subst e;simp only [if_true,Option.some.injEq] at hl;subst hl;exact h.1
  ·rw [if_neg e] at hl;exact ih h.2 hl
theorem jo.weak {σ:cr} {nt:Nat} {D:List Deferred} {fr fr':cf} {a:Act} (h:jo σ nt D fr a) (hf:mR fr' fr):jo σ nt D fr' a:=⟨h.size,h.defers,fun t v hl=>h.look t v (zy hf hl)⟩
def AO (P:Program) (o:Oper) (fr:cf) (B:Bs) (L:AL) (R:AV→AL→Prop):Prop:=
 ∀σ ρ w,(∀x c,br fr x=some c→VR σ c (ρ x))→di B σ L w→gR P o ρ w fun v w'=>∃τ c L',σ.le τ∧VR τ c v∧di B τ L' w'∧R c L'
def Av (P:Program) (o:Oper) (fr:cf) (u:AV):Prop:=∀σ ρ w,(∀x c,br fr x=some c→VR σ c (ρ x))→(∀b off u,σ b off=some u→w.cell? ⟨b,off,none⟩=some u)→∃v,(execOp ρ o).run P w= .ok (.value v) w∧VR σ u v
theorem Av.ao {P:Program} {o:Oper} {fr:cf} {u:AV} {B:Bs} {L:AL} (h:Av P o fr u):AO P o fr B L (fun c L'=>c=u∧L'=L):=by
 intro σ ρ w hρ hw
 obtain ⟨v,hr,hv⟩:=h σ ρ w hρ hw.froz
 unfold gR
 rw [hr]
 exact ⟨σ,u,L,cr.le_refl _,hv,hw,rfl,rfl⟩
variable {P:Program} {r:Option Nat} {ops:Array Oper} {Q:Exit→Act→World→Prop} {nt:Nat} {D:List Deferred} {fr:cf} {B:Bs} {L:AL}
def bJ (P:Program) (r:Option Nat) (ops:Array Oper) (Q:Exit→Act→World→Prop) (nt:Nat) (D:List Deferred) (rest:List Oper) (fr:cf) (B:Bs) (L:AL):Prop:=
 ∀σ a w,jo σ nt D fr a→di B σ L w→wpListIn (Wd r) 0 P ops Q rest a w
def AX (_P:Program) (e:Exit) (Q:Exit→Act→World→Prop) (nt:Nat) (D:List Deferred) (fr:cf) (B:Bs) (L:AL):Prop:=
 ∀σ a w,jo σ nt D fr a→di B σ L w→Q e a w
def AT (P:Program) (r:Option Nat) (c:Code) (Q:Exit→Act→World→Prop) (nt:Nat) (D:List Deferred) (fr:cf) (B:Bs) (L:AL):Prop:=
 ∀σ a w,jo σ nt D fr a→di B σ L w→c.wpIn (Wd r) 0 P Q a w
theorem a7 (h:AX P .normal Q nt D fr B L):bJ P r ops Q nt D [] fr B L:=fun σ a w ha hw=>h σ a w ha hw
instance aA0:go (bJ P r ops Q nt D [] fr B L) (AX P .normal Q nt D fr B L):=⟨a7⟩
theorem mn {nt d:Nat} (hd:Nat.ble nt d=false):d < nt:=by
 rw [←Nat.not_le];intro hle;rw [←Nat.ble_eq] at hle;rw [hd] at hle;cases hle
theorem cN {d:Nat} {op:Op} {ty:TypeId} {pos:String} {af:Array Edge} {rest:List Oper} {R:AV→AL→Prop} (hd:Nat.ble nt d=false) (hn:Oper.noDefer ⟨some d,op,ty,pos,af,none⟩=true)
  (ho:AO P ⟨some d,op,ty,pos,af,none⟩ fr B L R) (h:∀c L',R c L'→bJ P r ops Q nt D rest ((d,c)::fr) B L'):bJ P r ops Q nt D (⟨some d,op,ty,pos,af,none⟩::rest) fr B L:=by
 intro σ a w ha hw
 unfold wpListIn
 rw [if_pos (by simp [Region.wanted])]
 exact rL hn (ho σ a.eval w (fun x c hx=>ha.eval hx) hw) fun v w' ⟨τ,c,L',h1,h2,h3,h4⟩=>h c L' h4 τ _ _ ((ha.mono h1).put (mn hd) h2) h3
theorem cw {d:Nat} {op:Op} {ty:TypeId} {pos:String} {af:Array Edge} {rest:List Oper} {u:AV} (ho:Av P ⟨some d,op,ty,pos,af,none⟩ fr u) (hd:Nat.ble nt d=false) (hn:Oper.noDefer ⟨some d,op,ty,pos,af,none⟩=true)
  (h:bJ P r ops Q nt D rest ((d,u)::fr) B L):bJ P r ops Q nt D (⟨some d,op,ty,pos,af,none⟩::rest) fr B L:=
 cN hd hn ho.ao fun c L' ⟨h1,h2⟩=>by subst h1;subst h2;exact h
theorem lz {op:Op} {ty:TypeId} {pos:String} {af:Array Edge} {rest:List Oper} {R:AV→AL→Prop} (hn:Oper.noDefer ⟨none,op,ty,pos,af,none⟩=true) (ho:AO P ⟨none,op,ty,pos,af,none⟩ fr B L R)
  (h:∀c L',R c L'→bJ P r ops Q nt D rest fr B L'):bJ P r ops Q nt D (⟨none,op,ty,pos,af,none⟩::rest) fr B L:=by
 intro σ a w ha hw
 unfold wpListIn
 rw [if_pos (by simp [Region.wanted])]
 exact rL hn (ho σ a.eval w (fun x c hx=>ha.eval hx) hw) fun v w' ⟨τ,c,L',h1,h2,h3,h4⟩=>h c L' h4 τ _ _ (ha.mono h1) h3
theorem qG {σ:cr} {a:Act} {j dj:Nat} {b:Bool} (ha:jo σ nt D fr a) (hj:(ops[j]?).bind (·.dst)=some dj) (hb:ci fr dj=some (.sc (.bool b))):yielded ops a.tmps j=some b:=by
 have:=(ha.look dj _ hb).sc_inv
 unfold yielded
 rw [hj]
 simp only [Option.bind_some]
 rw [Array.getD_eq_getD_getElem?] at this
 cases h:a.tmps[dj]? with
 | none=>rw [h] at this;simp [undef] at this
 | some x=>rw [h] at this;simp at this;subst this;rfl
theorem qH {σ:cr} {a:Act} {j dj:Nat} (ha:jo σ nt D fr a) (hj:(ops[j]?).bind (·.dst)=some dj) (hb:ci fr dj=some (.sc undef)):yielded ops a.tmps j=none:=by
 have:=(ha.look dj _ hb).sc_inv
 unfold yielded
 rw [hj]
 simp only [Option.bind_some]
 rw [Array.getD_eq_getD_getElem?] at this
 cases h:a.tmps[dj]? with
 | none=>rfl
 | some x=>rw [h] at this;simp at this;subst this;rfl
theorem jo.shadow {σ:cr} {a:Act} {t:Nat} {v:AV} (h:jo σ nt D fr a) (hl:ci fr t=some v):jo σ nt D ((t,v)::fr) a:=
 ⟨h.size,h.defers,fun t' v' hl'=>by
  rw [cz] at hl'
  by_cases e:t=t'
  ·subst e;simp only [if_true,Option.some.injEq] at hl';subst hl';exact h.look t v hl
  ·rw [if_neg e] at hl';exact h.look t' v' hl'⟩
theorem aY {d j dj:Nat} {want b:Bool} {op:Op} {ty:TypeId} {pos:String} {af:Array Edge} {rest:List Oper} (hj:(ops[j]?).bind (·.dst)=some dj) (hb:ci fr dj=some (.sc (.bool b))) (hd:Nat.ble nt d=false)
  (yes:b=want→bJ P r ops Q nt D (⟨some d,op,ty,pos,af,none⟩::rest) ((dj,.sc (.bool want))::fr) B L) (no:b= !want→bJ P r ops Q nt D rest ((d,.sc undef)::(dj,.sc (.bool (!want)))::fr) B L):
  bJ P r ops Q nt D (⟨some d,op,ty,pos,af,some (j,want)⟩::rest) fr B L:=by
 intro σ a w ha hw
 have hy:=qG (ops:=ops) ha hj hb
 unfold wpListIn
 by_cases e:b=want
 ·have h1:=yes e σ a w (by subst e;exact ha.shadow hb) hw
  unfold wpListIn at h1
  rw [if_pos (by simp [Region.wanted])] at h1
  rw [if_pos (by simp [Region.wanted,hy,e])]
  exact h1
 ·rw [if_neg (by simp [Region.wanted,hy,e])]
  have e':b= !want:=by cases b <;> cases want <;> simp_all
  exact ⟨fun _ _=>trivial,no e' σ _ _ ((by subst e';exact ha.shadow hb:jo σ nt D ((dj,.sc (.bool (!want)))::fr) a).put (mn hd) (.sc undef)) hw⟩
theorem KW {d j dj:Nat} {want b:Bool} {op:Op} {ty:TypeId} {pos:String} {af:Array Edge} {rest:List Oper} (zz:(ops[j]?).bind (·.dst)=some dj∧ci fr dj=some (.sc (.bool b))∧Nat.ble nt d=false) (yes:b=want→bJ P r ops Q nt D (⟨some d,op,ty,pos,af,none⟩::rest) ((dj,.sc (.bool want))::fr) B L) (no:b= !want→bJ P r ops Q nt D rest ((d,.sc undef)::(dj,.sc (.bool (!want)))::fr) B L):bJ P r ops Q nt D (⟨some d,op,ty,pos,af,some (j,want)⟩::rest) fr B L:=aY zz.1 zz.2.1 zz.2.2 yes no
theorem av {j dj:Nat} {d:Option Nat} {want:Bool} {op:Op} {ty:TypeId} {pos:String} {af:Array Edge} {rest:List Oper} (hj:(ops[j]?).bind (·.dst)=some dj) (hb:ci fr dj=some (.sc (.bool want)))
  (yes:bJ P r ops Q nt D (⟨d,op,ty,pos,af,none⟩::rest) fr B L):bJ P r ops Q nt D (⟨d,op,ty,pos,af,some (j,want)⟩::rest) fr B L:=by
 intro σ a w ha hw
 have hy:=qG (ops:=ops) ha hj hb
 have h1:=yes σ a w ha hw
 unfold wpListIn at h1 ⊢
 rw [if_pos (by simp [Region.wanted])] at h1
 rw [if_pos (by simp [Region.wanted,hy])]
 exact h1
theorem KR {j dj:Nat} {d:Option Nat} {want:Bool} {op:Op} {ty:TypeId} {pos:String} {af:Array Edge} {rest:List Oper} (zz:(ops[j]?).bind (·.dst)=some dj∧ci fr dj=some (.sc (.bool want))) (yes:bJ P r ops Q nt D (⟨d,op,ty,pos,af,none⟩::rest) fr B L):bJ P r ops Q nt D (⟨d,op,ty,pos,af,some (j,want)⟩::rest) fr B L:=av zz.1 zz.2 yes
theorem aE {d j dj:Nat} {want b:Bool} {op:Op} {ty:TypeId} {pos:String} {af:Array Edge} {rest:List Oper} (hj:(ops[j]?).bind (·.dst)=some dj) (hb:ci fr dj=some (.sc (.bool b))) (hw:(b==want)=false) (hd:Nat.ble nt d=false)
  (no:bJ P r ops Q nt D rest ((d,.sc undef)::fr) B L):bJ P r ops Q nt D (⟨some d,op,ty,pos,af,some (j,want)⟩::rest) fr B L:=by
 intro σ a w ha hw'
 have hy:=qG (ops:=ops) ha hj hb
 unfold wpListIn
 rw [if_neg (by simp only [Region.wanted,hy];intro h;cases b <;> cases want <;> simp_all)]
 exact ⟨fun _ _=>trivial,no σ _ _ (ha.put (mn hd) (.sc undef)) hw'⟩
theorem KV {d j dj:Nat} {want b:Bool} {op:Op} {ty:TypeId} {pos:String} {af:Array Edge} {rest:List Oper} (zz:(ops[j]?).bind (·.dst)=some dj∧ci fr dj=some (.sc (.bool b))∧(b==want)=false∧Nat.ble nt d=false) (no:bJ P r ops Q nt D rest ((d,.sc undef)::fr) B L):bJ P r ops Q nt D (⟨some d,op,ty,pos,af,some (j,want)⟩::rest) fr B L:=aE zz.1 zz.2.1 zz.2.2.1 zz.2.2.2 no
theorem dg {d j dj:Nat} {want:Bool} {op:Op} {ty:TypeId} {pos:String} {af:Array Edge} {rest:List Oper} (hj:(ops[j]?).bind (·.dst)=some dj) (hb:ci fr dj=some (.sc undef)) (hd:Nat.ble nt d=false)
  (no:bJ P r ops Q nt D rest ((d,.sc undef)::fr) B L):bJ P r ops Q nt D (⟨some d,op,ty,pos,af,some (j,want)⟩::rest) fr B L:=by
 intro σ a w ha hw
 have hy:=qH (ops:=ops) ha hj hb
 unfold wpListIn
 rw [if_neg (by simp [Region.wanted,hy])]
 exact ⟨fun _ _=>trivial,no σ _ _ (ha.put (mn hd) (.sc undef)) hw⟩
theorem v6 {rest:List Oper} {fr':cf} {L':AL} (hf:mR fr' fr) (hL:∀σ w,di B σ L w→di B σ L' w) (h:bJ P r ops Q nt D rest fr' B L'):bJ P r ops Q nt D rest fr B L:=fun σ a w ha hw=>h σ a w (ha.weak hf) (hL σ w hw)
theorem mf {c:Code} {fr':cf} {L':AL} (hf:mR fr' fr) (hL:∀σ w,di B σ L w→di B σ L' w) (h:AT P r c Q nt D fr' B L'):AT P r c Q nt D fr B L:=fun σ a w ha hw=>h σ a w (ha.weak hf) (hL σ w hw)
theorem a5 {id:Nat} {l:List Oper} (h:bJ P r l.toArray Q nt D l fr B L):AT P r (.region id l.toArray false) Q nt D fr B L:=fun σ a w ha hw=>wpIn_region_lit (h σ a w ha hw)
instance aA1 {id:Nat} {l:List Oper}:go (AT P r (.region id l.toArray false) Q nt D fr B L) (bJ P r l.toArray Q nt D l fr B L):=⟨a5⟩
theorem a9 {x y:Code} (h:AT P r x (Kt P r y Q) nt D fr B L):AT P r (.seq x y) Q nt D fr B L:=fun σ a w ha hw=>wpIn_seq (h σ a w ha hw)
instance aA2 {x y:Code}:go (AT P r (.seq x y) Q nt D fr B L) (AT P r x (Kt P r y Q) nt D fr B L):=⟨a9⟩
theorem a6 {y:Code} (h:AT P r y Q nt D fr B L):AX P .normal (Kt P r y Q) nt D fr B L:=fun σ a w ha hw=>h σ a w ha hw
instance aA3 {y:Code}:go (AX P .normal (Kt P r y Q) nt D fr B L) (AT P r y Q nt D fr B L):=⟨a6⟩
theorem ay {y:Code} (h:AX P .ret Q nt D fr B L):AX P .ret (Kt P r y Q) nt D fr B L:=fun σ a w ha hw=>h σ a w ha hw
instance aA4 {y:Code}:go (AX P .ret (Kt P r y Q) nt D fr B L) (AX P .ret Q nt D fr B L):=⟨ay⟩
theorem ar {y:Code} {id:Nat} (h:AX P (.exit id) Q nt D fr B L):AX P (.exit id) (Kt P r y Q) nt D fr B L:=fun σ a w ha hw=>h σ a w ha hw
instance aA5 {y:Code} {id:Nat}:go (AX P (.exit id) (Kt P r y Q) nt D fr B L) (AX P (.exit id) Q nt D fr B L):=⟨ar⟩
theorem aH {id:Nat} (h:AX P .normal Q nt D fr B L):AX P .normal (Exit.inBlock id Q) nt D fr B L:=fun σ a w ha hw=>h σ a w ha hw
instance aA6 {id:Nat}:go (AX P .normal (Exit.inBlock id Q) nt D fr B L) (AX P .normal Q nt D fr B L):=⟨aH⟩
theorem aV {id:Nat} (h:AX P .ret Q nt D fr B L):AX P .ret (Exit.inBlock id Q) nt D fr B L:=fun σ a w ha hw=>h σ a w ha hw
instance aA7 {id:Nat}:go (AX P .ret (Exit.inBlock id Q) nt D fr B L) (AX P .ret Q nt D fr B L):=⟨aV⟩
theorem au {id:Nat} (h:AX P .normal Q nt D fr B L):AX P (.exit id) (Exit.inBlock id Q) nt D fr B L:=fun σ a w ha hw=>by
 have:=h σ a w ha hw
 simpa [Exit.inBlock] using this
instance aA8 {id:Nat}:go (AX P (.exit id) (Exit.inBlock id Q) nt D fr B L) (AX P .normal Q nt D fr B L):=⟨au⟩
theorem c9 {id id':Nat} (hne:Nat.beq id' id=false) (h:AX P (.exit id') Q nt D fr B L):AX P (.exit id') (Exit.inBlock id Q) nt D fr B L:=fun σ a w ha hw=>by
 have:=h σ a w ha hw
 have hne':id'≠id:=by intro e;subst e;simp at hne
 simpa [Exit.inBlock,hne'] using this
theorem ak {id:Nat} {c:Code} (h:AT P r c (Exit.inBlock id Q) nt D fr B L):AT P r (.block id c) Q nt D fr B L:=fun σ a w ha hw=>wpIn_block (h σ a w ha hw)
theorem ai (h:AX P .normal Q nt D fr B L):AT P r .skip Q nt D fr B L:=fun σ a w ha hw=>wpIn_skip (h σ a w ha hw)
instance aA9:go (AT P r .skip Q nt D fr B L) (AX P .normal Q nt D fr B L):=⟨ai⟩
theorem am (h:AX P .ret Q nt D fr B L):AT P r .ret Q nt D fr B L:=fun σ a w ha hw=>wpIn_ret (h σ a w ha hw)
instance aB0:go (AT P r .ret Q nt D fr B L) (AX P .ret Q nt D fr B L):=⟨am⟩
theorem aK {id:Nat} (h:AX P (.exit id) Q nt D fr B L):AT P r (.exit id) Q nt D fr B L:=fun σ a w ha hw=>wpIn_exit (h σ a w ha hw)
instance aB1 {id:Nat}:go (AT P r (.exit id) Q nt D fr B L) (AX P (.exit id) Q nt D fr B L):=⟨aK⟩
theorem C7 {l:Nat} (h:AX P .normal Q nt D fr B L):AT P r (.label l) Q nt D fr B L:=fun σ a w ha hw=>wpIn_label (h σ a w ha hw)
theorem aw {c:Operand} {x y:Code} {b:Bool} (hc:br fr c=some (.sc (.bool b))) (ht:b=true→AT P r x Q nt D fr B L) (hf:b=false→AT P r y Q nt D fr B L):AT P r (.cond c x y) Q nt D fr B L:=
 fun σ a w ha hw=>wpIn_cond_split (ha.eval hc).sc_inv (fun e=>ht e σ a w ha hw) (fun e=>hf e σ a w ha hw)
theorem EO {α:Type} {c:Code} (Inv:α→cf) (J:α→AL→Prop) (μ:α→Nat) (x0:α) (L0:AL) (hf:mR (Inv x0) fr) (hJ:J x0 L0) (hL:∀σ w,di B σ L w→di B σ L0 w)
  (hb:∀x L,J x L→AT P r c (Exit.then (fun a w=>∃σ x' L',jo σ nt D (Inv x') a∧J x' L'∧di B σ L' w∧μ x' < μ x) Q) nt D (Inv x) B L):AT P r (.loop c) Q nt D fr B L:=by
 intro σ a w ha hw
 classical
 let G:Nat→Act→World→Prop:=fun m a w=>∃σ x L,jo σ nt D (Inv x) a∧J x L∧di B σ L w∧μ x=m
 let M:Act→World→Nat:=fun a w=>if h:∃m,G m a w∧∀m',G m' a w→m≤m' then h.choose else 0
 have least:∀a w,(∃m,G m a w)→G (M a w) a w∧∀m',G m' a w→M a w≤m':=by
  rintro a w ⟨m0,hg0⟩
  have hex:∃m,G m a w∧∀m',G m' a w→m≤m':=by
   have:∀k,∀m,m≤k→G m a w→∃m,G m a w∧∀m',G m' a w→m≤m':=by
    intro k
    induction k with
    | zero=>intro m hm hg;exact ⟨m,hg,fun m' _=>by omega⟩
    | succ k ih=>
     intro m hm hg
     by_cases h:∃m',m' < m∧G m' a w
     ·obtain ⟨m',hlt,hg'⟩:=h
      exact ih m' (by omega) hg'
     ·exact ⟨m,hg,fun m' hg'=>by
       rcases Nat.lt_or_ge m' m with hlt | hge
       ·exact absurd ⟨m',hlt,hg'⟩ h
       ·exact hge⟩
   exact this m0 m0 (Nat.le_refl _) hg0
  have hM:M a w=hex.choose:=dif_pos hex
  rw [hM];exact hex.choose_spec
 refine wpIn_loop (fun a w=>∃m,G m a w) M ⟨_,σ,x0,L0,ha.weak hf,hJ,hL σ w hw,rfl⟩ ?_
 intro a w hI
 obtain ⟨⟨σ',x,L',hx,hj,hst,hm⟩,_⟩:=least a w hI
 refine wpIn_mono (hb x L' hj σ' a w hx hst) ?_
 intro e a' w' hq
 cases e with
 | normal=>
  obtain ⟨τ,x',L2,hx',hj',hst',hlt⟩:=hq
  have hg:G (μ x') a' w':=⟨τ,x',L2,hx',hj',hst',rfl⟩
  refine ⟨⟨_,hg⟩,?_⟩
  have:=(least a' w' ⟨_,hg⟩).2 (μ x') hg
  omega
 | _=>exact hq
theorem Cb {α:Type} {Inv:α→cf} {J:α→AL→Prop} {μ:α→Nat} {x:α} (x':α) (L':AL) (hf:mR (Inv x') fr) (hJ:J x' L') (hL:∀σ w,di B σ L w→di B σ L' w) (hm:μ x' < μ x):
  AX P .normal (Exit.then (fun a w=>∃σ x' L',jo σ nt D (Inv x') a∧J x' L'∧di B σ L' w∧μ x' < μ x) Q) nt D fr B L:=
 fun σ _ _ ha hw=>⟨σ,x',L',ha.weak hf,hJ,hL _ _ hw,hm⟩
def qx:Nat→List AV→cf
 | _,[]=>[]
 | k,v::vs=>(k,v)::qx (k+1) vs
theorem ky:∀(vs:List AV) (k t:Nat) (v:AV),ci (qx k vs) t=some v→k≤t∧vs[t - k]?=some v
 | [],_,_,_,h=>by simp [qx,ci] at h
 | u::vs,k,t,v,h=>by
  simp only [qx,cz] at h
  by_cases e:k=t
  ·subst e;simp at h;subst h;simp
  ·rw [if_neg e] at h
   obtain ⟨h1,h2⟩:=ky vs (k+1) t v h
   exact ⟨by omega,by rw [show t - k=(t - (k+1))+1 by omega,List.getElem?_cons_succ];exact h2⟩
def jD (B:Bs) (Post:AV→AL→Prop):Ending→World→Prop:=fun e w'=>∃v τ c L',e= .returned v∧VR τ c v∧di B τ L' w'∧Post c L'
def AC (P:Program) (f:FuncId) (args:List AV) (L:AL) (Post:AV→AL→Prop):Prop:=∀σ w vs,dB σ args vs→di ⟨w,σ,L.map (·.1)⟩ σ L w→Calls P f vs.toArray w (jD ⟨w,σ,L.map (·.1)⟩ Post)
def bU (P:Program) (f:FuncId) (args:List AV) (u:AV):Prop:=AC P f args [] fun c _=>c=u
theorem jD.mono {B:Bs} {Post Post':AV→AL→Prop} (h:∀c L',Post c L'→Post' c L') {e:Ending} {w:World} (k:jD B Post e w):jD B Post' e w:=by
 obtain ⟨v,τ,c,L',h1,h2,h3,h4⟩:=k
 exact ⟨v,τ,c,L',h1,h2,h3,h _ _ h4⟩
theorem AC.mono {f:FuncId} {args:List AV} {Post Post':AV→AL→Prop} (h:AC P f args L Post) (k:∀c L',Post c L'→Post' c L'):AC P f args L Post':=fun σ w vs hv hs=>(h σ w vs hv hs).mono fun _ _ hr=>hr.mono k
theorem aN {f:FuncId} {fn:Func} {c:Code} {args:List AV} {Post:AV→AL→Prop} (hf:P.funcs[f]?=some fn) (hb:fn.body=some c) (hn:fn.ntmps=nt) (hs:Nat.ble args.length nt=true)
  (h:∀B,AT P none c (bodyPost P fn (jD B Post)) nt [] (qx 0 args) B L):AC P f args L Post:=by
 intro σ w vs hv hst
 have hs':args.length≤nt:=by simpa [Nat.ble_eq] using hs
 have hl:=hv.1
 refine (callsIn_wide (n:=0)).1 (callsIn_of_wp hf hb trivial (h _ σ _ w ⟨?_,rfl,?_⟩ hst))
 ·simp [hn];omega
 ·intro t v hlk
  obtain ⟨_,h2⟩:=ky args 0 t v hlk
  simp only [Nat.sub_zero] at h2
  have hlt:t < vs.length:=by have:=(Ko h2).1;omega
  simp only [Array.getD_eq_getD_getElem?]
  rw [Array.getElem?_append_left (by simpa using hlt)]
  have:=hv.2 t v vs[t] h2 (Kz hlt)
  simpa [hlt] using this
theorem aA {fn:Func} {Post:AV→AL→Prop} {t:Tmp} {c:AV} (hr:fn.results=#[.tmp t]) (hv:ci fr t=some c) (h:Post c L):AX P .ret (bodyPost P fn (jD B Post)) nt [] fr B L:=
 fun σ a w ha hw=>⟨ha.defers,_,results_tmp hr _ _ _,_,σ,c,L,rfl,ha.look t c hv,hw,h⟩
theorem KP {fn:Func} {Post:AV→AL→Prop} {t:Tmp} {c:AV} (zz:fn.results=#[.tmp t]∧ci fr t=some c) (h:Post c L):AX P .ret (bodyPost P fn (jD B Post)) nt [] fr B L:=aA zz.1 zz.2 h
theorem KQ {fn:Func} {Post:AV→AL→Prop} {t:Tmp} {c:AV} (zz:fn.results=#[.tmp t]∧ci fr t=some c∧Post c L):AX P .ret (bodyPost P fn (jD B Post)) nt [] fr B L:=aA zz.1 zz.2.1 zz.2.2
theorem bf {fn:Func} {Post:AV→AL→Prop} {t u:Tmp} {c d:AV} (hr:fn.results=#[.tmp t,.tmp u]) (hv:ci fr t=some c) (hx:ci fr u=some d) (h:Post (.tup [c,d]) L):AX P .ret (bodyPost P fn (jD B Post)) nt [] fr B L:=
 fun σ a w ha hw=>⟨ha.defers,_,results_tmp2 hr _ _ _,_,σ,.tup [c,d],L,rfl,.tup [c,d] [_,_] rfl (dB.cons (ha.look t c hv) (dB.cons (ha.look u d hx) dB.nil)).2,hw,h⟩
theorem KX {fn:Func} {Post:AV→AL→Prop} {t u:Tmp} {c d:AV} (zz:fn.results=#[.tmp t,.tmp u]∧ci fr t=some c∧ci fr u=some d) (h:Post (.tup [c,d]) L):AX P .ret (bodyPost P fn (jD B Post)) nt [] fr B L:=bf zz.1 zz.2.1 zz.2.2 h
theorem ca {fn:Func} {Post:AV→AL→Prop} (hr:fn.results=#[]) (h:Post (.tup []) L):AX P .normal (bodyPost P fn (jD B Post)) nt [] fr B L:=
 fun σ a w ha hw=>⟨ha.defers,_,results_none hr _ _ _,_,σ,.tup [],L,rfl,.tup [] [] rfl (fun i c u h=>by simp at h),hw,h⟩
theorem jt {fn:Func} {Post:AV→AL→Prop} (hr:fn.results=#[]) (h:Post (.tup []) L):AX P .ret (bodyPost P fn (jD B Post)) nt [] fr B L:=
 fun σ a w ha hw=>⟨ha.defers,_,results_none hr _ _ _,_,σ,.tup [],L,rfl,.tup [] [] rfl (fun i c u h=>by simp at h),hw,h⟩
end Go.Proofs.YtpmdfoaadejmkaaGreatDoor
namespace Go.Proofs.YtpmdfoaadejmkaaGreatDoor
open Go.RowKit
inductive TK where
 | int (k:IntKind) | bool | str | slice (e sz by_:Nat) | struct (offs:List (Nat×Nat×Bool)) | arr (n e sz:Nat) | other
structure TI where
 k:TK
 size:Nat
 zero:List Value
def zq:Value→Value→Bool
 | .int k n,.int k' n'=>decide (k=k') && decide (n=n')
 | .bool b,.bool b'=>b==b'
 | .string s,.string s'=>decide (s.data=#[]∧s'.data=#[])
 | .pointer none,.pointer none=>true
 | .slice none 0 0,.slice none 0 0=>true
 | .map none,.map none=>true
 | .chan none,.chan none=>true
 | .nilFunc,.nilFunc=>true
 | .nilIface,.nilIface=>true
 | _,_=>false
theorem sl {v u:Value} (h:zq v u=true):v=u:=by
 unfold zq at h
 split at h <;> first | rfl | cases h | skip
 ·simp only [Bool.and_eq_true,decide_eq_true_eq] at h;rw [h.1,h.2]
 ·simp only [beq_iff_eq] at h;rw [h]
 ·rename_i s s'
  simp only [decide_eq_true_eq] at h
  cases s;cases s';simp_all
def uH:List Value→List Value→Bool
 | [],[]=>true
 | v::vs,u::us=>zq v u && uH vs us
 | _,_=>false
theorem mc:∀{vs us:List Value},uH vs us=true→vs=us
 | [],[],_=>rfl
 | v::vs,u::us,h=>by
  simp only [uH,Bool.and_eq_true] at h
  rw [sl h.1,mc h.2]
 | [],_::_,h=>by cases h
 | _::_,[],h=>by cases h
def pL (P:Program) (t n:Nat):Bool:=match P.info? t with | some i=>Nat.beq i.size n | none=>false
def EK (P:Program) (t:Nat) (b:Bool):Bool:=match P.underlying t with
 | some (.struct _)=>b | some (.array _ _)=>b | some _=> !b | none=>false
def mg (P:Program):List Field→List (Nat×Nat×Bool)→Bool
 | [],[]=>true
 | f::fs,(o,s,b)::r=>Nat.beq f.offset o && pL P f.type s && !Nat.beq s 0 && EK P f.type b && mg P fs r
 | _,_=>false
def Bu (P:Program) (t:Nat) (ti:TI):Bool:=pL P t ti.size && (match P.info? t with | some i=>(match i.zero with | some z=>uH z.cells.toList ti.zero | none=>false) | none=>false) &&
 match P.underlying t with
 | some (.int k)=>(match ti.k with | .int k'=>decide (k=k') | _=>false) && Nat.beq ti.size 1
 | some .bool=>(match ti.k with | .bool=>true | _=>false) && Nat.beq ti.size 1
 | some .string=>(match ti.k with | .str=>true | _=>false) && Nat.beq ti.size 1
 | some (.slice e)=>(match ti.k with | .slice e' sz by_=>Nat.beq e e' && !Nat.beq sz 0 && (match P.info? e with | some i=>Nat.beq i.size sz && Nat.beq i.bytes by_ && (match i.zero with | some z=>Nat.beq z.cells.size sz | none=>false) | none=>false) | _=>false) && Nat.beq ti.size 1
 | some (.struct fs)=>(match ti.k with | .struct offs=>mg P fs.toList offs | _=>false)
 | some (.array n e)=>(match ti.k with | .arr n' e' sz=>Nat.beq n n' && Nat.beq e e' && pL P e sz | _=>false)
 | some _=>(match ti.k with | .other=>true | _=>false) && Nat.beq ti.size 1
 | none=>false
abbrev TT:=List (Option TI)
def dy:TT→Nat→Option TI
 | [],_=>none
 | x::_,0=>x
 | _::r,n+1=>dy r n
def Je (P:Program):Nat→TT→Bool
 | _,[]=>true
 | t,x::r=>(match x with | some ti=>Bu P t ti | none=>true) && Je P (t+1) r
structure ez (P:Program) (tt:TT):Prop where
 ok:∀t ti,dy tt t=some ti→Bu P t ti=true
theorem HW {P:Program} {tt:TT} (h:Je P 0 tt=true):ez P tt:=by
 refine ⟨?_⟩
 have:∀(tt:TT) (k t:Nat) (ti:TI),Je P k tt=true→dy tt t=some ti→Bu P (k+t) ti=true:=by
  intro tt
  induction tt with
  | nil=>intro k t ti _ h;simp [dy] at h
  | cons x r ih=>
   intro k t ti h hl
   simp only [Je,Bool.and_eq_true] at h
   cases t with
   | zero=>simp only [dy] at hl;subst hl;exact h.1
   | succ t=>rw [show k+(t+1)=(k+1)+t by omega];exact ih (k+1) t ti h.2 hl
 intro t ti hl
 have:=this tt 0 t ti h hl
 rwa [Nat.zero_add] at this
theorem nA {P:Program}:∀(fs:List Field) (r:List (Nat×Nat×Bool)) (f:Nat) (o s:Nat) (b:Bool),mg P fs r=true→r[f]?=some (o,s,b)→∃fl,fs[f]?=some fl∧fl.offset=o∧(P.info? fl.type).map (·.size)=some s∧s≠0∧EK P fl.type b=true
 | [],[],f,o,s,b,_,h=>by simp at h
 | x::fs,(o',s',b')::r,f,o,s,b,h,hr=>by
  simp only [mg,Bool.and_eq_true,Nat.beq_eq,Bool.not_eq_true'] at h
  obtain ⟨⟨⟨⟨h1,h2⟩,h3⟩,h4⟩,h5⟩:=h
  cases f with
  | zero=>
   simp only [List.getElem?_cons_zero,Option.some.injEq,Prod.mk.injEq] at hr
   obtain ⟨rfl,rfl,rfl⟩:=hr
   refine ⟨x,rfl,h1,?_,Nat.ne_of_beq_eq_false h3,h4⟩
   unfold pL at h2
   split at h2
   ·rename_i i hi;rw [Nat.beq_eq] at h2;rw [hi];simp [h2]
   ·cases h2
  | succ f=>exact nA fs r f o s b h5 hr
 | [],_::_,f,o,s,b,h,_=>by cases h
 | _::_,[],f,o,s,b,h,_=>by cases h
section
variable {P:Program} {tt:TT} (ok:ez P tt) {t s:Nat} {ti:TI}
include ok
theorem ez.size (h:dy tt t=some ti):(P.info? t).map (·.size)=some ti.size:=by
 have:=ok.ok t ti h
 simp only [Bu,Bool.and_eq_true,pL] at this
 cases hq:P.info? t with
 | none=>rw [hq] at this;simp at this
 | some i=>rw [hq] at this;simp only [Nat.beq_eq] at this;simp [this.1.1]
theorem ez.isSl {e sz by_:Nat} (h:dy tt t=some ti) (hk:ti.k= .slice e sz by_):kv P t e sz by_∧0 < sz:=by
 have:=ok.ok t ti h
 simp only [Bu,Bool.and_eq_true] at this
 obtain ⟨_,h2⟩:=this
 rw [hk] at h2
 split at h2 <;> simp at h2
 rename_i e' hu
 obtain ⟨⟨⟨rfl,h0⟩,h3⟩,_⟩:=h2
 split at h3
 ·rename_i i hi
  simp at h3
  split at h3
  ·rename_i z hz
   simp at h3
   exact ⟨⟨hu,i,z,hi,h3.1.1,h3.1.2,hz,h3.2⟩,Nat.pos_of_ne_zero fun e=>by rw [e] at h0;simp at h0⟩
  ·simp at h3
 ·simp at h3
def TK.agg:TK→Bool | .struct _=>true | .arr _ _ _=>true | _=>false
theorem ez.sc (h:dy tt t=some ti) (hk:ti.k.agg=false):Gl P t:=by
 have hs:=ok.size h
 have:=ok.ok t ti h
 simp only [Bu,Bool.and_eq_true] at this
 obtain ⟨_,h2⟩:=this
 have h1:ti.size=1∧∃d,P.underlying t=some d∧(match d with | .struct _ | .array _ _=>true | _=>false)=false:=by
  split at h2
  all_goals first
   | (simp only [Bool.and_eq_true,Nat.beq_eq] at h2;rename_i hu;exact ⟨h2.2,_,hu,rfl⟩)
   | (cases hq:ti.k <;> rw [hq] at h2 hk <;> simp_all [TK.agg];done)
   | (simp only [Bool.and_eq_true,Nat.beq_eq] at h2;rename_i d _ _ _ _ _ _ hu;refine ⟨h2.2,d,hu,?_⟩;cases d <;> simp_all)
   | (cases h2)
 obtain ⟨h1,d,hu,hd⟩:=h1
 refine ⟨fun w=>?_,by rw [hs,h1]⟩
 simp only [isAgg,Sem.run_bind,run_underlying hu,Result.andThen]
 cases d <;> first | rfl | (simp at hd)
theorem ez.ag (h:dy tt t=some ti) (hk:ti.k.agg=true):GL P t ti.size:=by
 have hs:=ok.size h
 have:=ok.ok t ti h
 simp only [Bu,Bool.and_eq_true] at this
 obtain ⟨_,h2⟩:=this
 refine ⟨fun w=>?_,hs⟩
 split at h2
 all_goals first
  | (rename_i hu;simp only [isAgg,Sem.run_bind,run_underlying hu,Result.andThen];rfl)
  | (cases hq:ti.k <;> rw [hq] at h2 hk <;> simp_all [TK.agg];done)
  | (cases h2)
theorem ez.str (h:dy tt t=some ti) (hk:ti.k= .str):BD P t:=by
 have:=ok.ok t ti h
 simp only [Bu,Bool.and_eq_true] at this
 obtain ⟨_,h2⟩:=this
 rw [hk] at h2
 split at h2 <;> simp at h2
 rename_i hu
 exact ⟨hu⟩
theorem ez.int {k:IntKind} (h:dy tt t=some ti) (hk:ti.k= .int k):BC P t k:=by
 have:=ok.ok t ti h
 simp only [Bu,Bool.and_eq_true] at this
 obtain ⟨_,h2⟩:=this
 rw [hk] at h2
 split at h2 <;> simp at h2
 rename_i hu
 obtain ⟨rfl,_⟩:=h2
 exact ⟨hu⟩
theorem ez.zero (h:dy tt t=some ti):CZ P t ti.zero:=by
 have:=ok.ok t ti h
 simp only [Bu,Bool.and_eq_true] at this
 obtain ⟨⟨_,h2⟩,_⟩:=this
 split at h2
 ·rename_i i hi
  split at h2
  ·rename_i z hz
   refine ⟨z,?_,fun w=>by simp [zeroValue,typeInfo,hi,hz]⟩
   rw [←mc h2]
  ·cases h2
 ·cases h2
theorem ez.fd {offs:List (Nat×Nat×Bool)} {f o z:Nat} {b:Bool} (h:dy tt s=some ti) (hk:ti.k= .struct offs) (hf:offs[f]?=some (o,z,b)):Jg P s f o∧∃fl fs,P.underlying s=some (.struct fs)∧fs[f]?=some fl∧fl.offset=o∧(P.info? fl.type).map (·.size)=some z∧EK P fl.type b=true:=by
 have:=ok.ok s ti h
 simp only [Bu,Bool.and_eq_true] at this
 obtain ⟨_,h2⟩:=this
 rw [hk] at h2
 split at h2 <;> simp at h2
 rename_i fs hu
 obtain ⟨fl,h3,h4,h5,h6,h7⟩:=nA _ _ f o z b h2 hf
 have h3':fs[f]?=some fl:=by simpa using h3
 refine ⟨⟨fun a w=>?_⟩,fl,fs,hu,h3',h4,h5,h7⟩
 cases hq:P.info? fl.type with
 | none=>rw [hq] at h5;cases h5
 | some i=>
  rw [hq] at h5
  simp only [Option.map_some,Option.some.injEq] at h5
  have hne:¬i.size=0:=by omega
  simp [Instr.fieldAt,run_underlying hu,h3',Instr.sureAddr,fieldPlace,sizeOf,typeInfo,hq,hne,h4]
end
end Go.Proofs.YtpmdfoaadejmkaaGreatDoor
