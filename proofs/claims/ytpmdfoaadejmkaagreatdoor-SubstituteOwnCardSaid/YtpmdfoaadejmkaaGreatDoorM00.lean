/-
  A small logic of triples over the kit's 'wpIn' at the wide fence: a frame is a list of known slots, a world is known by a predicate.
-/
import Derived.RangeFuncNested
import Derived.RangeFuncBound
import Derived.RangeFuncCalls
import Derived.RangeFuncLeaves
import Derived.WalkKit
import Derived.OrdersIn
import Derived.KernelRfl
import Derived.Laws.AppendOwn
import Derived.Laws.IdiomCopy
import Derived.Deep.MidRow
namespace Go.Proofs.YtpmdfoaadejmkaaGreatDoor
structure W00 (B:Prop):Prop where
 g:B
theorem KZ {α0:Sort _} {a:α0} {α1:Sort _} {b:α1}:a=a∧b=b:=⟨rfl,rfl⟩
theorem LA {α0:Sort _} {a:α0} {α1:Sort _} {b:α1} {α2:Sort _} {c:α2}:a=a∧b=b∧c=c:=⟨rfl,rfl,rfl⟩
theorem LB {α0:Sort _} {a:α0} {α1:Sort _} {b:α1} {α2:Sort _} {c:α2} {α3:Sort _} {d:α3}:a=a∧b=b∧c=c∧d=d:=⟨rfl,rfl,rfl,rfl⟩
theorem LC {α0:Sort _} {a:α0} {α1:Sort _} {b:α1} {α2:Sort _} {c:α2} {α3:Sort _} {d:α3} {α4:Sort _} {e:α4}:a=a∧b=b∧c=c∧d=d∧e=e:=⟨rfl,rfl,rfl,rfl,rfl⟩
theorem LD {α0:Sort _} {a:α0} {α1:Sort _} {b:α1} {α2:Sort _} {c:α2} {α3:Sort _} {d:α3} {α4:Sort _} {e:α4} {α5:Sort _} {f:α5}:a=a∧b=b∧c=c∧d=d∧e=e∧f=f:=⟨rfl,rfl,rfl,rfl,rfl,rfl⟩
theorem LE {α0:Sort _} {a:α0} {α1:Sort _} {b:α1} {α2:Sort _} {c:α2} {α3:Sort _} {d:α3} {α4:Sort _} {e:α4} {α5:Sort _} {f:α5} {α6:Sort _} {g:α6}:a=a∧b=b∧c=c∧d=d∧e=e∧f=f∧g=g:=⟨rfl,rfl,rfl,rfl,rfl,rfl,rfl⟩
theorem LF {α0:Sort _} {a:α0} {α1:Sort _} {b:α1} {α2:Sort _} {c:α2} {α3:Sort _} {d:α3} {α4:Sort _} {e:α4} {α5:Sort _} {f:α5} {α6:Sort _} {g:α6} {α7:Sort _} {h:α7}:a=a∧b=b∧c=c∧d=d∧e=e∧f=f∧g=g∧h=h:=⟨rfl,rfl,rfl,rfl,rfl,rfl,rfl,rfl⟩
theorem Iy {α:Type _} {l:List α} {i:Nat} (h:i < l.length):l[i]?=some l[i]:=List.getElem?_eq_getElem h
theorem Lz {p:Prop} [i:Decidable p] (h:decide p=true):p:=_root_.of_decide_eq_true h
theorem Ly {p:Prop} [i:Decidable p] (h:decide p=false):¬p:=_root_.of_decide_eq_false h
theorem Lw {α:Type _} {l:List α} {i:Nat} {a:α} (h:l[i]?=some a):a∈l:=List.mem_of_getElem? h
theorem Lv (n m:Nat):((n+m:Nat):Int)=n+m:=Int.natCast_add n m
theorem Lu {α β:Type _} {l:List α} (f:α→β):(l.map f).length=l.length:=List.length_map f
theorem Ls {α:Type _} (y:α) {a:α} {l:List α} (h:a∈l):a∈y::l:=List.mem_cons_of_mem y h
theorem Lr {α:Type _} {a:α} {as bs:List α}:a::as++bs=a::(as++bs):=rfl
theorem Lq {α:Type _} (as:List α):[]++as=as:=rfl
theorem Lp {α β:Type _} {f:α→β} {a:α} {l:List α}:(a::l).map f=f a::l.map f:=rfl
theorem Ln {α:Type _} {l:List α} {i:Nat} {a:α} (h:l[i]?=some a):∃h:i < l.length,l[i]=a:=List.getElem?_eq_some_iff.1 h
theorem Lm {α:Type _} (l:List α):l.Perm l:=List.Perm.refl l
theorem Ll {α:Type _} {a:α} {s t:List α} (h:a∈s++t):a∈s∨a∈t:=List.mem_append.1 h
theorem Lj {α:Type _} {a b:α} (h:a∈[b]):a=b:=List.mem_singleton.1 h
theorem Li {α β:Type _} {f:α→β}:[].map f=[]:=rfl
open Go.RowKit
abbrev Wd (r:Option Nat):Fence:={ Fence.wide with round:=r }
abbrev Fr:=List (Nat×Value)
def fv:Fr→Nat→Option Value
 | [],_=>none
 | (i,v)::r,t=>bif Nat.beq i t then some v else fv r t
def BY (fr:Fr):Operand→Option Value
 | .tmp t=>fv fr t
 | .const v=>some v
 | .global g=>some (.pointer (some ⟨g,0,none⟩))
 | .func f=>some (.func (.func f) #[] #[])
def JU (fr:Fr):List Operand→Option (List Value)
 | []=>some []
 | x::xs=>match BY fr x with
  | none=>none
  | some v=>match JU fr xs with
   | none=>none
   | some vs=>some (v::vs)
structure Ag (nt:Nat) (D:List Deferred) (fr:Fr) (a:Act):Prop where
 size:a.tmps.size=nt
 defers:a.defers=D
 look:∀t v,fv fr t=some v→a.tmps.getD t undef=v
theorem iY (i:Nat) (v:Value) (fr:Fr) (t:Nat):fv ((i,v)::fr) t=if i=t then some v else fv fr t:=by
 simp only [fv]
 by_cases h:i=t
 ·subst h;simp
 ·have:Nat.beq i t=false:=by
   rw [←Bool.not_eq_true,Nat.beq_eq];exact h
  simp [h,this]
def KO:Fr→Fr→Prop
 | [],_=>True
 | (t,v)::r,fr=>fv fr t=some v∧KO r fr
def gT (P:Program) (o:Oper) (ρ:Operand→Value) (w:World) (K:Value→World→Prop):Prop:=
 match (execOp ρ o).run P w with
 | .ok (.value v) w'=>K v w'
 | .ok .skip w'=>K undef w'
 | .ok (.enter f args) w'=>Calls P f args w' fun e w''=>∃v,e= .returned v∧K v w''
 | .ok (.round l f tmps assign body) w'=>RoundIn Fence.wide 0 P l f tmps assign body w' fun e w''=>∃v,e= .returned v∧K v w''
 | _=>False
def Oper.noDefer (o:Oper):Bool:=match o.op with | .defer _=>false | .select .. =>false | _=>true
theorem ui {o:Oper} (h:Oper.noDefer o=true):∀c,o.op≠ .defer c:=by
 intro c e;simp [Oper.noDefer,e] at h
theorem pf {r:Option Nat} {n:Nat} {P:Program} {f:FuncId} {args:Array Value} {w:World} {R:Ending→World→Prop} (h:Calls P f args w R):CallsIn (Wd r) n P f args w R:=by
 have:=(callsIn_wide (n:=n)).2 h
 exact this
theorem wj {r:Option Nat} {n m:Nat} {P:Program} {l:Nat} {f:FuncId} {tmps:Array Value} {assign body:Code} {w:World} {R:Ending→World→Prop}
  (h:RoundIn Fence.wide m P l f tmps assign body w R):RoundIn (Wd r) n P l f tmps assign body w R:=
 ⟨trivial,fun c cs _=>h.2 c cs (room_wide _)⟩
theorem rz {P:Program} {o:Oper} {a:Act} {w:World} {K:Value→World→Prop} {r:Option Nat} {n:Nat} {next:Act→World→Prop} {Q:Exit→Act→World→Prop}
  (hd:Oper.noDefer o=true) (h:gT P o a.eval w K) (hk:∀v w',K v w'→next (a.put o.dst v) w'):o.wpIn (Wd r) n P a w next Q:=by
 refine ⟨fun _ _=>trivial,?_⟩
 rw [show o.semAt (Wd r).round a.eval=execOp a.eval o from Oper.semAt_eq _ _ _ (ui hd)]
 unfold gT at h
 generalize (execOp a.eval o).run P w=x at h
 cases x with
 | halt _ _=>exact h.elim
 | ok x w'=>
  cases x <;> simp only at h <;> first | exact h.elim | skip
  ·exact hk _ _ h
  ·exact hk _ _ h
  ·rename_i f args
   refine ⟨fun hh=>by simp [Fence.wide] at hh,pf (h.mono ?_)⟩
   rintro e w'' ⟨v,rfl,hv⟩
   exact hk _ _ hv
  ·refine ⟨fun hh=>by simp [Fence.wide] at hh,wj (h.mono ?_)⟩
   rintro e w'' ⟨v,rfl,hv⟩
   exact hk _ _ hv
def O (P:Program) (o:Oper) (fr:Fr) (I:World→Prop) (R:Value→World→Prop):Prop:=
 ∀ρ w,(∀x v,BY fr x=some v→ρ x=v)→I w→gT P o ρ w R
theorem gT.mono {P:Program} {o:Oper} {ρ:Operand→Value} {w:World} {K K':Value→World→Prop} (h:gT P o ρ w K) (hk:∀v w',K v w'→K' v w'):gT P o ρ w K':=by
 unfold gT at *
 generalize (execOp ρ o).run P w=x at *
 cases x with
 | halt _ _=>exact h
 | ok x w'=>
  cases x <;> simp only at h ⊢ <;> first | exact hk _ _ h | exact h | skip
  ·exact h.mono fun e w'' ⟨v,he,hv⟩=>⟨v,he,hk _ _ hv⟩
  ·exact h.mono fun e w'' ⟨v,he,hv⟩=>⟨v,he,hk _ _ hv⟩
variable {P:Program} {r:Option Nat} {ops:Array Oper} {Q:Exit→Act→World→Prop} {nt:Nat} {D:List Deferred} {fr:Fr} {I:World→Prop}
def TL (P:Program) (r:Option Nat) (ops:Array Oper) (Q:Exit→Act→World→Prop) (nt:Nat) (D:List Deferred) (rest:List Oper) (fr:Fr) (I:World→Prop):Prop:=
 ∀a w,Ag nt D fr a→I w→wpListIn (Wd r) 0 P ops Q rest a w
def Xt (_P:Program) (e:Exit) (Q:Exit→Act→World→Prop) (nt:Nat) (D:List Deferred) (fr:Fr) (I:World→Prop):Prop:=
 ∀a w,Ag nt D fr a→I w→Q e a w
def T (P:Program) (r:Option Nat) (c:Code) (Q:Exit→Act→World→Prop) (nt:Nat) (D:List Deferred) (fr:Fr) (I:World→Prop):Prop:=
 ∀a w,Ag nt D fr a→I w→c.wpIn (Wd r) 0 P Q a w
def Kt (P:Program) (r:Option Nat) (y:Code) (Q:Exit→Act→World→Prop):Exit→Act→World→Prop:=Exit.then (fun a w=>y.wpIn (Wd r) 0 P Q a w) Q
def J2:Nat→List Value→Fr
 | _,[]=>[]
 | k,v::vs=>(k,v)::J2 (k+1) vs
end Go.Proofs.YtpmdfoaadejmkaaGreatDoor
namespace Go.Proofs.YtpmdfoaadejmkaaGreatDoor
open Go.RowKit
abbrev HL:=List (Nat×(Obj→Prop))
def bx (cs:List Value) (t:TypeId):Obj→Prop:=fun o=>o= .cells cs.toArray t (0,0)
def ea (e:TypeId) (sz n cap:Nat) (xs:List Value):Obj→Prop:=fun o=>
 ∃cur:Array Value,o= .cells cur e (0,0)∧cur.size=cap * sz∧cur.toList.take (n * sz)=xs∧xs.length=n * sz∧n≤cap∧cap≤maxLen
structure St (w0:World) (X:List Nat) (L:HL) (w:World):Prop where
 os:w.os=w0.os
 tape:w.tape=w0.tape
 output:w.output=w0.output
 size:w0.heap.size≤w.heap.size
 old:∀k,k < w0.heap.size→k∉X→w.heap[k]?=w0.heap[k]?
 here:∀p∈L,∃o,w.heap[p.1]?=some o∧p.2 o
 mine:∀p∈L,w0.heap.size≤p.1∨p.1∈X
 apart:(L.map (·.1)).Nodup
abbrev KW (w w':World):Prop:=Below w.heap.size w w'
theorem pL (w:World) (b k:Nat) (v:Value):w.grownBy (w.setCell ⟨b,k,none⟩ v) (some b):=
 ⟨rfl,rfl,rfl,by simp [World.setCell],fun i _ hi=>Below.heap_setCell w ⟨b,k,none⟩ v i (fun e=>hi (by rw [e]))⟩
theorem nD {w:World} {b k:Nat} {v:Value} {cs:Array Value} {t:TypeId} {f:Nat×Nat} (h:w.heap[b]?=some (.cells cs t f)):(w.setCell ⟨b,k,none⟩ v).heap[b]?=some (.cells (cs.setIfInBounds k v) t f):=by
 simp [World.setCell,Array.getElem?_modify,h]
theorem i7 (b:Nat):∀(vs:List Value) (k:Nat) (w:World) (cs:Array Value) (t:TypeId) (f:Nat×Nat),w.heap[b]?=some (.cells cs t f)→
  w.grownBy (w.setCells b k vs) (some b)∧∃cs':Array Value,(w.setCells b k vs).heap[b]?=some (.cells cs' t f)∧cs'.size=cs.size∧∀j,cs'[j]?=if k≤j∧j < k+vs.length∧j < cs.size then vs[j - k]? else cs[j]?
 | [],k,w,cs,t,f,h=>⟨⟨rfl,rfl,rfl,Nat.le_refl _,fun _ _ _=>rfl⟩,cs,h,rfl,fun j=>by rw [if_neg];simp;omega⟩
 | v::r,k,w,cs,t,f,h=>by
  have h1:=nD (k:=k) (v:=v) h
  obtain ⟨hg,cs',hc,hs,hj⟩:=i7 b r (k+1) _ _ t f h1
  have g1:=pL w b k v
  refine ⟨⟨hg.os.trans g1.os,hg.tape.trans g1.tape,hg.output.trans g1.output,Nat.le_trans g1.size hg.size,fun i hi hne=>(hg.block i (Nat.lt_of_lt_of_le hi g1.size) hne).trans (g1.block i hi hne)⟩,cs',hc,by simpa using hs,?_⟩
  intro j
  rw [hj j]
  simp only [Array.size_setIfInBounds,List.length_cons]
  by_cases e:j=k
  ·subst e
   rw [if_neg (by omega)]
   by_cases hl:j < cs.size
   ·rw [if_pos ⟨Nat.le_refl _,by omega,hl⟩];simp [hl]
   ·rw [if_neg (by omega)]
    rw [Array.getElem?_eq_none (by simpa using hl),Array.getElem?_eq_none (by omega)]
  ·by_cases hc:k+1≤j∧j < k+1+r.length∧j < cs.size
   ·rw [if_pos hc,if_pos (by omega)]
    rw [show j - k=(j - (k+1))+1 by omega,List.getElem?_cons_succ]
   ·rw [if_neg hc,if_neg (by omega),Array.getElem?_setIfInBounds_ne (by omega)]
theorem cX {w:World} {b k:Nat} {cs:Array Value} {t:TypeId} {f:Nat×Nat} (h:w.heap[b]?=some (.cells cs t f)):w.cell? ⟨b,k,none⟩=cs[k]?:=by simp [World.cell?,h]
theorem sU {w:World} {b k:Nat} {cs:Array Value} {t:TypeId} (h:w.heap[b]?=some (.cells cs t (0,0))):w.frozen? ⟨b,k,none⟩=false:=by simp [World.frozen?,h]
def Rd (w:World) (sz:Nat) (v:Value) (xs:List Value):Prop:=
 ∃A n cap,v= .slice A n cap∧xs.length=n * sz∧n≤cap∧cap≤maxLen∧(0 < n→∃b off,A=some ⟨b,off,none⟩∧b < w.heap.size∧∀j u,xs[j]?=some u→w.cell? ⟨b,off+j,none⟩=some u)
variable {P:Program} {fr:Fr} {I:World→Prop} {d:Option Tmp} {ty t t':TypeId} {pos:String} {af:Array Edge} {g:Option (Nat×Bool)} {x y:Operand}
class EV (P:Program) (t:TypeId):Prop where
 agg:∀w,(isAgg t).run P w= .ok false w
 one:(P.info? t).map (·.size)=some 1
class GN (P:Program) (t:TypeId) (k:outParam Nat):Prop where
 agg:∀w,(isAgg t).run P w= .ok true w
 size:(P.info? t).map (·.size)=some k
class JI (P:Program) (s f:Nat) (off:outParam Nat):Prop where
 run:∀a w,(Instr.fieldAt s (.pointer (some a)) f).run P w= .ok (.pointer (some (a.add off))) w
class CZ (P:Program) (t:TypeId) (z:outParam (List Value)):Prop where
 run:∃v:Value,v.cells=z.toArray∧∀w,(zeroValue t).run P w= .ok v w
class ln (P:Program) (t:TypeId) (e sz bytes:outParam Nat):Prop where
 under:P.underlying t=some (.slice e)
 info:∃i z,P.info? e=some i∧i.size=sz∧i.bytes=bytes∧i.zero=some z∧z.cells.size=sz
class C2 (P:Program) (t:TypeId):Prop where
 under:P.underlying t=some .string
class C0 (P:Program) (t:TypeId) (k:outParam IntKind):Prop where
 under:P.underlying t=some (.int k)
class bD (P:Program) (f:FuncId):Prop where
 enters:∀args w,(callFunc f args).run P w= .ok (.enter f args) w
abbrev Pv (P:Program) (o:Oper) (fr:Fr) (I:World→Prop) (u:Value):Prop:=O P o fr I (fun v w=>v=u∧I w)
theorem qW {n:Int} (h: -9223372036854775808≤n∧n≤9223372036854775807):IntKind.i64.wrap n=n:=by
 rw [IntKind.wrap_i64];omega
theorem vj {a b:ByteArray} (h:¬a=b):¬a.toList=b.toList:=by
 intro e;apply h
 rw [ByteArray.toList_eq,ByteArray.toList_eq] at e
 exact ByteArray.ext (Array.toList_inj.1 e)
end Go.Proofs.YtpmdfoaadejmkaaGreatDoor
namespace Go.Proofs.YtpmdfoaadejmkaaGreatDoor
open Go.RowKit
variable {P:Program} {fr:Fr} {I:World→Prop} {d:Option Tmp} {ty t t':TypeId} {pos:String} {af:Array Edge} {g:Option (Nat×Bool)} {x y:Operand}
variable {w0:World} {X:List Nat} {L:HL}
theorem fJ [h:EV P t] {w:World} {a:Addr} {v:Value} (hc:w.cell? a=some v):(loadVar t a).run P w= .ok v w:=by
 simp [loadVar,h.agg w,load,Sem.run,hc,Sem.run_bind]
theorem fI {k:Nat} [h:GN P t k] {w:World} {b o:Nat} {cs:List Value} (hl:cs.length=k) (hc:∀j v,cs[j]?=some v→w.cell? ⟨b,o+j,none⟩=some v):(loadVar t ⟨b,o,none⟩).run P w= .ok (.agg cs.toArray) w:=by
 have hl':(loadCells ⟨b,o,none⟩ cs.length).run P w= .ok cs.toArray w:=
  run_loadCells_list (P:=P) w ⟨b,o,none⟩ cs (fun j v hv=>by rw [Addr.add_mid];exact hc j v hv)
 have hi:=h.size
 cases hq:P.info? t with
 | none=>rw [hq] at hi;cases hi
 | some i=>
  rw [hq] at hi
  simp only [Option.map_some,Option.some.injEq] at hi
  simp only [loadVar,Sem.run_bind,h.agg w,Result.andThen,if_true]
  simp [sizeOf,typeInfo,hq,hi,←hl,hl']
def Kg (w0:World) (X:List Nat) (L:HL) (q:Obj→Prop) (v:Value) (w:World):Prop:=∃b,v= .pointer (some ⟨b,0,none⟩)∧St w0 X ((b,q)::L) w
theorem sl {v:Value} (h:v.oneCell'=true):v.cells=#[v]:=by cases v <;> first | rfl | (simp [Value.oneCell'] at h)
def JX (L:HL) (i:Nat) (q:Obj→Prop):HL:=match L,i with
 | [],_=>[]
 | p::r,0=>(p.1,q)::r
 | p::r,i+1=>p::JX r i q
theorem dJ (b k off:Nat):(⟨b,k,none⟩:Addr).add off=⟨b,k+off,none⟩:=Addr.add_mid b k off
theorem d5 {e sz by_:Nat} [h:ln P t e sz by_] (w:World):(sizeOf e).run P w= .ok sz w:=by
 obtain ⟨i,z,hi,hs,_⟩:=h.info
 simp [sizeOf,typeInfo,hi,hs]
end Go.Proofs.YtpmdfoaadejmkaaGreatDoor
namespace Go.Proofs.YtpmdfoaadejmkaaGreatDoor
open Go.RowKit
inductive AV where
 | sc (v:Value)
 | agg (cs:List AV)
 | imm (sz:Nat) (l:List (List AV))
 | vec (k:Option (Nat×Nat)) (sz:Nat) (l:List (List AV))
 | iptr (cs:List AV)
 | fn (f:FuncId) (caps:List AV)
 | fnB (f:FuncId) (fs caps:List AV)
 | tup (vs:List AV)
 | new (q:Nat→Prop) (sz:Nat) (l:List (List AV))
abbrev Mem:=Nat→Nat→Option Value
def Mem.le (σ τ:Mem):Prop:=∀b o u,σ b o=some u→τ b o=some u
theorem Mem.le_refl (σ:Mem):σ.le σ:=fun _ _ _ h=>h
theorem Mem.le_trans {a b c:Mem} (h:a.le b) (k:b.le c):a.le c:=fun _ _ _ e=>k _ _ _ (h _ _ _ e)
inductive VR (σ:Mem):AV→Value→Prop where
 | sc (v:Value):VR σ (.sc v) v
 | agg (cs:List AV) (vs:List Value) (hl:cs.length=vs.length) (h:∀(i:Nat) (c:AV) (u:Value),cs[i]?=some c→vs[i]?=some u→VR σ c u) (h1:∀u∈vs,u.oneCell'=true):VR σ (.agg cs) (.agg vs.toArray)
 | imm (sz:Nat) (l:List (List AV)) (A:Option Addr) (cap:Nat) (hc:l.length≤cap) (hm:cap≤maxLen) (hs:∀e∈l,e.length=sz) (ha:l≠[]→∃b off,A=some ⟨b,off,none⟩)
   (hx:∀(i b off j:Nat),A=some ⟨b,off,none⟩→i < l.length→j < sz→∃u,σ b (off+i * sz+j)=some u∧u.oneCell'=true)
   (h:∀(i:Nat) (e:List AV) (b off j:Nat) (c:AV) (u:Value),l[i]?=some e→A=some ⟨b,off,none⟩→e[j]?=some c→σ b (off+i * sz+j)=some u→VR σ c u):VR σ (.imm sz l) (.slice A l.length cap)
 | vecN (sz:Nat):VR σ (.vec none sz []) (.slice none 0 0)
 | vec (b cap sz:Nat) (l:List (List AV)) (hc:l.length≤cap) (hm:cap≤maxLen) (hs:∀e∈l,e.length=sz)
   (hx:∀(i j:Nat),i < l.length→j < sz→∃u,σ b (0+i * sz+j)=some u∧u.oneCell'=true)
   (h:∀(i:Nat) (e:List AV) (j:Nat) (c:AV) (u:Value),l[i]?=some e→e[j]?=some c→σ b (0+i * sz+j)=some u→VR σ c u):VR σ (.vec (some (b,cap)) sz l) (.slice (some ⟨b,0,none⟩) l.length cap)
 | iptr (cs:List AV) (b off:Nat) (hx:∀(j:Nat),j < cs.length→∃u,σ b (off+j)=some u∧u.oneCell'=true) (h:∀(j:Nat) (c:AV) (u:Value),cs[j]?=some c→σ b (off+j)=some u→VR σ c u):VR σ (.iptr cs) (.pointer (some ⟨b,off,none⟩))
 | fn (f:FuncId) (cs:List AV) (vs:List Value) (hl:cs.length=vs.length) (h:∀(i:Nat) (c:AV) (u:Value),cs[i]?=some c→vs[i]?=some u→VR σ c u):VR σ (.fn f cs) (.func (.func f) #[] vs.toArray)
 | fnB (f:FuncId) (fs cs:List AV) (ws vs:List Value) (hf:fs.length=ws.length) (h0:∀(i:Nat) (c:AV) (u:Value),fs[i]?=some c→ws[i]?=some u→VR σ c u) (hl:cs.length=vs.length) (h:∀(i:Nat) (c:AV) (u:Value),cs[i]?=some c→vs[i]?=some u→VR σ c u):VR σ (.fnB f fs cs) (.func (.func f) ws.toArray vs.toArray)
 | tup (cs:List AV) (vs:List Value) (hl:cs.length=vs.length) (h:∀(i:Nat) (c:AV) (u:Value),cs[i]?=some c→vs[i]?=some u→VR σ c u):VR σ (.tup cs) (.tuple vs.toArray)
 | new (q:Nat→Prop) (sz:Nat) (l:List (List AV)) (v:Value) (h:VR σ (.imm sz l) v) (hq:∀b off n cap,v= .slice (some ⟨b,off,none⟩) n cap→l≠[]→off=0∧q b):VR σ (.new q sz l) v
theorem VR.mono {σ τ:Mem} (hle:σ.le τ) {c:AV} {v:Value} (h:VR σ c v):VR τ c v:=by
 induction h with
 | sc v=>exact .sc v
 | agg cs vs hl _ h1 ih=>exact .agg cs vs hl ih h1
 | imm sz l A cap hc hm hs ha hx _ ih=>
  refine .imm sz l A cap hc hm hs ha (fun i b off j hA hi hj=>?_) fun i e b off j c u he hA hj hu=>?_
  ·obtain ⟨u,hu,h1⟩:=hx i b off j hA hi hj
   exact ⟨u,hle _ _ _ hu,h1⟩
  ·have hi:=(Ln he).1
   have hj':j < sz:=by rw [←hs e (Lw he)];exact (Ln hj).1
   obtain ⟨u',hu',_⟩:=hx i b off j hA hi hj'
   have:=hle _ _ _ hu'
   rw [hu] at this
   injection this with this
   subst this
   exact ih i e b off j c u he hA hj hu'
 | vecN sz=>exact .vecN sz
 | vec b cap sz l hc hm hs hx _ ih=>
  refine .vec b cap sz l hc hm hs (fun i j hi hj=>?_) fun i e j c u he hj hu=>?_
  ·obtain ⟨u,hu,h1⟩:=hx i j hi hj
   exact ⟨u,hle _ _ _ hu,h1⟩
  ·have hi:=(Ln he).1
   have hj':j < sz:=by rw [←hs e (Lw he)];exact (Ln hj).1
   obtain ⟨u',hu',_⟩:=hx i j hi hj'
   have:=hle _ _ _ hu'
   rw [hu] at this
   injection this with this
   subst this
   exact ih i e j c u he hj hu'
 | iptr cs b off hx _ ih=>
  refine .iptr cs b off (fun j hj=>?_) fun j c u hc hu=>?_
  ·obtain ⟨u,hu,h1⟩:=hx j hj
   exact ⟨u,hle _ _ _ hu,h1⟩
  ·obtain ⟨u',hu',_⟩:=hx j (Ln hc).1
   have:=hle _ _ _ hu'
   rw [hu] at this
   injection this with this
   subst this
   exact ih j c u hc hu'
 | fn f cs vs hl _ ih=>exact .fn f cs vs hl ih
 | fnB f fs cs ws vs hf _ hl _ ih0 ih=>exact .fnB f fs cs ws vs hf ih0 hl ih
 | tup cs vs hl _ ih=>exact .tup cs vs hl ih
 | new q sz l v _ hq ih=>exact .new q sz l v ih hq
def AV.im:AV→AV
 | .vec _ sz l=> .imm sz l
 | c=>c
theorem VR.im {σ:Mem} {c:AV} {v:Value} (h:VR σ c v):VR σ c.im v:=by
 cases h with
 | vecN sz=>exact .imm sz [] none 0 (Nat.le_refl _) (Nat.zero_le _) (by simp) (by simp) (fun i b off j hA=>by cases hA) (fun i e b off j c u he hA=>by cases hA)
 | vec b cap sz l hc hm hs hx h=>
  refine .imm sz l _ cap hc hm hs (fun _=>⟨b,0,rfl⟩) (fun i b' off j hA hi hj=>?_) fun i e b' off j c u he hA hj hu=>?_
  ·cases hA;exact hx i j hi hj
  ·cases hA;exact h i e j c u he hj hu
 | sc v=>exact .sc v
 | agg cs vs hl h h1=>exact .agg cs vs hl h h1
 | imm sz l A cap hc hm hs ha hx h=>exact .imm sz l A cap hc hm hs ha hx h
 | iptr cs b off hx h=>exact .iptr cs b off hx h
 | fn f cs vs hl h=>exact .fn f cs vs hl h
 | fnB f fs cs ws vs hf h0 hl h=>exact .fnB f fs cs ws vs hf h0 hl h
 | tup cs vs hl h=>exact .tup cs vs hl h
 | new q sz l v h hq=>exact .new q sz l v h hq
def cS (σ:Mem) (cs:List AV) (vs:List Value):Prop:=cs.length=vs.length∧∀(i:Nat) (c:AV) (u:Value),cs[i]?=some c→vs[i]?=some u→VR σ c u
theorem cS.mono {σ τ:Mem} (hle:σ.le τ) {cs:List AV} {vs:List Value} (h:cS σ cs vs):cS τ cs vs:=⟨h.1,fun i c u hc hu=>(h.2 i c u hc hu).mono hle⟩
theorem cS.nil {σ:Mem}:cS σ [] []:=⟨rfl,fun i c u h=>by simp at h⟩
theorem cS.cons {σ:Mem} {c:AV} {v:Value} {cs:List AV} {vs:List Value} (h:VR σ c v) (hs:cS σ cs vs):cS σ (c::cs) (v::vs):=by
 refine ⟨by simp [hs.1],fun i x u hx hu=>?_⟩
 cases i with
 | zero=>simp at hx hu;subst hx;subst hu;exact h
 | succ i=>exact hs.2 i x u (by simpa using hx) (by simpa using hu)
theorem cS.inv {σ:Mem} {c:AV} {cs:List AV} {vs:List Value} (h:cS σ (c::cs) vs):∃v ws,vs=v::ws∧VR σ c v∧cS σ cs ws:=by
 cases vs with
 | nil=>have:=h.1;simp at this
 | cons v ws=>exact ⟨v,ws,rfl,h.2 0 c v rfl rfl,by have:=h.1;simpa using this,fun i x u hx hu=>h.2 (i+1) x u (by simpa using hx) (by simpa using hu)⟩
theorem cS.nil_inv {σ:Mem} {vs:List Value} (h:cS σ [] vs):vs=[]:=by
 have:=h.1;cases vs with
 | nil=>rfl
 | cons _ _=>simp at this
theorem VR.sc_inv {σ:Mem} {v u:Value} (h:VR σ (.sc v) u):u=v:=by cases h;rfl
inductive AB where
 | box (cs:List AV) (t:TypeId)
 | vec (t sz n cap:Nat)
 | raw (q:Obj→Prop)
 | dep (q:Mem→Obj→Prop) (h:∀σ τ o,σ.le τ→q σ o→q τ o)
def AB.holds (σ:Mem):AB→Obj→Prop
 | .box cs t,o=>∃vs,o= .cells vs.toArray t (0,0)∧cS σ cs vs∧∀u∈vs,u.oneCell'=true
 | .vec t sz n cap,o=>∃cur:Array Value,o= .cells cur t (0,0)∧cur.size=cap * sz∧n≤cap∧cap≤maxLen
 | .raw q,o=>q o
 | .dep q _,o=>q σ o
def AB.mut:AB→Nat→Prop
 | .vec _ sz n _,off=>n * sz≤off
 | _,_=>True
theorem AB.mono {σ τ:Mem} (hle:σ.le τ) {a:AB} {o:Obj} (h:a.holds σ o):a.holds τ o:=by
 cases a with
 | box cs t=>obtain ⟨vs,ho,hv,h1⟩:=h;exact ⟨vs,ho,hv.mono hle,h1⟩
 | vec t sz n cap=>exact h
 | raw q=>exact h
 | dep q hq=>exact hq _ _ _ hle h
theorem iW {w:World} {b k:Nat} {v:Value} (h:w.cell? ⟨b,k,none⟩=some v):b < w.heap.size:=by
 unfold World.cell? at h
 refine Nat.lt_of_not_le fun hge=>?_
 rw [Array.getElem?_eq_none hge] at h
 cases h
abbrev AL:=List (Nat×AB)
structure Bs where
 w:World
 σ:Mem
 X:List Nat
structure cL (B:Bs) (σ:Mem) (L:AL) (w:World):Prop where
 os:w.os=B.w.os
 tape:w.tape=B.w.tape
 output:w.output=B.w.output
 size:B.w.heap.size≤w.heap.size
 old:∀k,k < B.w.heap.size→k∉B.X→w.heap[k]?=B.w.heap[k]?
 here:∀p∈L,∃o,w.heap[p.1]?=some o∧p.2.holds σ o
 mine:∀p∈L,B.w.heap.size≤p.1∨p.1∈B.X
 apart:(L.map (·.1)).Nodup
 froz:∀b off u,σ b off=some u→w.cell? ⟨b,off,none⟩=some u
 free:∀p∈L,∀off,p.2.mut off→σ p.1 off=none
 grow:B.σ.le σ
 same:∀b,b < B.w.heap.size→b∉B.X→∀off,σ b off=B.σ b off
 cold:∀b off u,(B.w.heap.size≤b∨b∈B.X)→σ b off=some u→∃(cur:Array Value) (t:TypeId),w.heap[b]?=some (.cells cur t (0,0)):=by (intro b off u hb hu;rcases hb with hb | hb;exact absurd (iW hu) (Nat.not_lt.2 hb);cases hb)
theorem cL.lt {B:Bs} {σ:Mem} {L:AL} {w:World} (h:cL B σ L w) {p:Nat×AB} (hp:p∈L):p.1 < w.heap.size:=by
 obtain ⟨o,ho,_⟩:=h.here p hp
 exact (Array.getElem?_eq_some_iff.1 ho).1
theorem cL.drew {B:Bs} {σ:Mem} {L:AL} {w:World} (h:cL B σ L w) (n:Nat):cL B σ L { w with drawn:=n }:=⟨h.os,h.tape,h.output,h.size,h.old,h.here,h.mine,h.apart,h.froz,h.free,h.grow,h.same,h.cold⟩
theorem cL.sub {B:Bs} {σ:Mem} {L L':AL} {w:World} (h:cL B σ L w) (hs:∀p∈L',p∈L) (hn:(L'.map (·.1)).Nodup):cL B σ L' w:=
 ⟨h.os,h.tape,h.output,h.size,h.old,fun p hp=>h.here p (hs p hp),fun p hp=>h.mine p (hs p hp),hn,h.froz,fun p hp=>h.free p (hs p hp),h.grow,h.same,h.cold⟩
theorem cL.sublist {B:Bs} {σ:Mem} {L L':AL} {w:World} (h:cL B σ L w) (hs:L'.Sublist L):cL B σ L' w:=h.sub (fun _ hp=>hs.subset hp) (h.apart.sublist (hs.map _))
theorem cL.perm {B:Bs} {σ:Mem} {L L':AL} {w:World} (h:cL B σ L w) (hs:L.Perm L'):cL B σ L' w:=h.sub (fun _ hp=>hs.mem_iff.2 hp) ((hs.map _).nodup_iff.1 h.apart)
theorem cL.enter {B:Bs} {σ:Mem} {Lc Lf:AL} {w:World} (h:cL B σ (Lc++Lf) w):cL ⟨w,σ,Lc.map (·.1)⟩ σ Lc w:=by
 refine ⟨rfl,rfl,rfl,Nat.le_refl _,fun _ _ _=>rfl,fun p hp=>h.here p (List.mem_append_left _ hp),fun p hp=> .inr (List.mem_map_of_mem hp),?_,h.froz,fun p hp=>h.free p (List.mem_append_left _ hp),Mem.le_refl _,fun _ _ _ _=>rfl,fun b off u hb hu=>?_⟩
 rotate_left
 ·rcases hb with hb | hb
  ·have h1:=iW (h.froz _ _ _ hu)
   dsimp only at hb
   omega
  ·obtain ⟨p,hp,rfl⟩:=List.mem_map.1 hb
   exact h.cold _ _ _ (h.mine p (List.mem_append_left _ hp)) hu
 have:=h.apart
 rw [List.map_append] at this
 exact (List.nodup_append.1 this).1
theorem cL.leave {B:Bs} {σ τ:Mem} {Lc Lf L':AL} {w w':World} (h:cL B σ (Lc++Lf) w) (k:cL ⟨w,σ,Lc.map (·.1)⟩ τ L' w'):cL B τ (L'++Lf) w':=by
 have hap:=h.apart
 rw [List.map_append,List.nodup_append] at hap
 obtain ⟨_,hnf,hdis⟩:=hap
 have hmc:∀b,b∈Lc.map (·.1)→B.w.heap.size≤b∨b∈B.X:=by
  intro b hb
  obtain ⟨p,hp,rfl⟩:=List.mem_map.1 hb
  exact h.mine p (List.mem_append_left _ hp)
 have hf:∀p∈Lf,p.1 < w.heap.size∧p.1∉Lc.map (·.1):=fun p hp=>⟨h.lt (List.mem_append_right _ hp),fun hm=>hdis _ hm _ (List.mem_map_of_mem hp) rfl⟩
 have hk:∀b,b < B.w.heap.size→b∉B.X→b < w.heap.size∧b∉Lc.map (·.1):=fun b hb hx=>⟨Nat.lt_of_lt_of_le hb h.size,fun hm=>by
  rcases hmc b hm with h1 | h1
  ·omega
  ·exact hx h1⟩
 refine ⟨k.os.trans h.os,k.tape.trans h.tape,k.output.trans h.output,Nat.le_trans h.size k.size,fun b hb hx=>?_,fun p hp=>?_,fun p hp=>?_,?_,k.froz,fun p hp off hm=>?_,Mem.le_trans h.grow k.grow,fun b hb hx off=>?_,fun b off u hb hu=>?_⟩
 rotate_right
 ·by_cases hc:w.heap.size≤b∨b∈Lc.map (·.1)
  ·exact k.cold b off u hc hu
  ·have h1:b < w.heap.size:=Nat.lt_of_not_le fun e=>hc (.inl e)
   have h2:b∉Lc.map (·.1):=fun e=>hc (.inr e)
   have h3:=k.same b h1 h2 off
   obtain ⟨cur,t,ho⟩:=h.cold b off u hb (h3.symm.trans hu)
   exact ⟨cur,t,(k.old b h1 h2).trans ho⟩
 ·obtain ⟨h1,h2⟩:=hk b hb hx
  exact (k.old b h1 h2).trans (h.old b hb hx)
 ·rcases Ll hp with hp | hp
  ·exact k.here p hp
  ·obtain ⟨o,ho,hh⟩:=h.here p (List.mem_append_right _ hp)
   obtain ⟨h1,h2⟩:=hf p hp
   exact ⟨o,(k.old p.1 h1 h2).trans ho,AB.mono k.grow hh⟩
 ·rcases Ll hp with hp | hp
  ·rcases k.mine p hp with h1 | h1
   ·exact .inl (Nat.le_trans h.size h1)
   ·exact hmc _ h1
  ·exact h.mine p (List.mem_append_right _ hp)
 ·rw [List.map_append,List.nodup_append]
  refine ⟨k.apart,hnf,fun a ha b hb hab=>?_⟩
  subst hab
  obtain ⟨p,hp,hpa⟩:=List.mem_map.1 ha
  obtain ⟨q,hq,hqa⟩:=List.mem_map.1 hb
  obtain ⟨h1,h2⟩:=hf q hq
  rw [hqa] at h1 h2
  rcases k.mine p hp with h3 | h3
  ·rw [hpa] at h3;exact absurd h1 (Nat.not_lt.2 h3)
  ·rw [hpa] at h3;exact h2 h3
 ·rcases Ll hp with hp | hp
  ·exact k.free p hp off hm
  ·obtain ⟨h1,h2⟩:=hf p hp
   rw [k.same p.1 h1 h2 off]
   exact h.free p (List.mem_append_right _ hp) off hm
 ·obtain ⟨h1,h2⟩:=hk b hb hx
  rw [k.same b h1 h2 off]
  exact h.same b hb hx off
abbrev bT:=List (Nat×AV)
def ca:bT→Nat→Option AV
 | [],_=>none
 | (i,v)::r,t=>bif Nat.beq i t then some v else ca r t
def bh (fr:bT):Operand→Option AV
 | .tmp t=>ca fr t
 | .const v=>some (.sc v)
 | .global g=>some (.sc (.pointer (some ⟨g,0,none⟩)))
 | .func f=>some (.sc (.func (.func f) #[] #[]))
def dy (fr:bT):List Operand→Option (List AV)
 | []=>some []
 | x::xs=>match bh fr x with
  | none=>none
  | some v=>match dy fr xs with
   | none=>none
   | some vs=>some (v::vs)
theorem bY (i:Nat) (v:AV) (fr:bT) (t:Nat):ca ((i,v)::fr) t=if i=t then some v else ca fr t:=by
 simp only [ca]
 by_cases h:i=t
 ·subst h;simp
 ·have:Nat.beq i t=false:=by
   rw [←Bool.not_eq_true,Nat.beq_eq];exact h
  simp [h,this]
structure jz (σ:Mem) (nt:Nat) (D:List Deferred) (fr:bT) (a:Act):Prop where
 size:a.tmps.size=nt
 defers:a.defers=D
 look:∀t c,ca fr t=some c→VR σ c (a.tmps.getD t undef)
theorem jz.mono {σ τ:Mem} (hle:σ.le τ) {nt:Nat} {D:List Deferred} {fr:bT} {a:Act} (h:jz σ nt D fr a):jz τ nt D fr a:=⟨h.size,h.defers,fun t c hc=>(h.look t c hc).mono hle⟩
theorem jz.put {σ:Mem} {nt:Nat} {D:List Deferred} {fr:bT} {a:Act} {d:Nat} {c:AV} {v:Value} (h:jz σ nt D fr a) (hd:d < nt) (hv:VR σ c v):jz σ nt D ((d,c)::fr) (a.put (some d) v):=by
 refine ⟨by simp [Act.put,h.size],by simp [Act.put,h.defers],fun t u hu=>?_⟩
 rw [bY] at hu
 have hs:=h.size
 by_cases e:d=t
 ·subst e
  simp only [if_true,Option.some.injEq] at hu
  subst hu
  simpa [Act.put,hs,hd] using hv
 ·rw [if_neg e] at hu
  have:=h.look t u hu
  simp only [Act.put]
  simpa [Array.getElem?_setIfInBounds_ne,e] using this
theorem jz.eval {σ:Mem} {nt:Nat} {D:List Deferred} {fr:bT} {a:Act} (h:jz σ nt D fr a) {x:Operand} {c:AV} (hx:bh fr x=some c):VR σ c (a.eval x):=by
 cases x with
 | tmp t=>exact h.look t c hx
 | const u=>simp only [bh,Option.some.injEq] at hx;subst hx;simp only [Act.eval];exact .sc _
 | global g=>simp only [bh,Option.some.injEq] at hx;subst hx;simp only [Act.eval];exact .sc _
 | func f=>simp only [bh,Option.some.injEq] at hx;subst hx;simp only [Act.eval];exact .sc _
def KX (σ:Mem) (c c':AV):Prop:=∀v,VR σ c v→VR σ c' v
def mL:bT→bT→Prop
 | [],_=>True
 | (t,v)::r,fr=>ca fr t=some v∧mL r fr
theorem zM {fr' fr:bT} (h:mL fr' fr) {t:Nat} {v:AV} (hl:ca fr' t=some v):ca fr t=some v:=by
 induction fr' with
 | nil=>simp [ca] at hl
 | cons p r ih=>
  obtain ⟨i,u⟩:=p
  rw [bY] at hl
  by_cases e:i=t
  ·subst e;simp only [if_true,Option.some.injEq] at hl;subst hl;exact h.1
  ·rw [if_neg e] at hl;exact ih h.2 hl
theorem jz.weak {σ:Mem} {nt:Nat} {D:List Deferred} {fr fr':bT} {a:Act} (h:jz σ nt D fr a) (hf:mL fr' fr):jz σ nt D fr' a:=⟨h.size,h.defers,fun t v hl=>h.look t v (zM hf hl)⟩
def AO (P:Program) (o:Oper) (fr:bT) (B:Bs) (L:AL) (R:AV→AL→Prop):Prop:=
 ∀σ ρ w,(∀x c,bh fr x=some c→VR σ c (ρ x))→cL B σ L w→gT P o ρ w fun v w'=>∃τ c L',σ.le τ∧VR τ c v∧cL B τ L' w'∧R c L'
def Av (P:Program) (o:Oper) (fr:bT) (u:AV):Prop:=∀σ ρ w,(∀x c,bh fr x=some c→VR σ c (ρ x))→(∀b off u,σ b off=some u→w.cell? ⟨b,off,none⟩=some u)→∃v,(execOp ρ o).run P w= .ok (.value v) w∧VR σ u v
theorem Av.ao {P:Program} {o:Oper} {fr:bT} {u:AV} {B:Bs} {L:AL} (h:Av P o fr u):AO P o fr B L (fun c L'=>c=u∧L'=L):=by
 intro σ ρ w hρ hw
 obtain ⟨v,hr,hv⟩:=h σ ρ w hρ hw.froz
 unfold gT
 rw [hr]
 exact ⟨σ,u,L,Mem.le_refl _,hv,hw,rfl,rfl⟩
variable {P:Program} {r:Option Nat} {ops:Array Oper} {Q:Exit→Act→World→Prop} {nt:Nat} {D:List Deferred} {fr:bT} {B:Bs} {L:AL}
def br (P:Program) (r:Option Nat) (ops:Array Oper) (Q:Exit→Act→World→Prop) (nt:Nat) (D:List Deferred) (rest:List Oper) (fr:bT) (B:Bs) (L:AL):Prop:=
 ∀σ a w,jz σ nt D fr a→cL B σ L w→wpListIn (Wd r) 0 P ops Q rest a w
def AX (_P:Program) (e:Exit) (Q:Exit→Act→World→Prop) (nt:Nat) (D:List Deferred) (fr:bT) (B:Bs) (L:AL):Prop:=
 ∀σ a w,jz σ nt D fr a→cL B σ L w→Q e a w
def AT (P:Program) (r:Option Nat) (c:Code) (Q:Exit→Act→World→Prop) (nt:Nat) (D:List Deferred) (fr:bT) (B:Bs) (L:AL):Prop:=
 ∀σ a w,jz σ nt D fr a→cL B σ L w→c.wpIn (Wd r) 0 P Q a w
theorem a7 (h:AX P .normal Q nt D fr B L):br P r ops Q nt D [] fr B L:=fun σ a w ha hw=>h σ a w ha hw
theorem ml {nt d:Nat} (hd:Nat.ble nt d=false):d < nt:=by
 rw [←Nat.not_le];intro hle;rw [←Nat.ble_eq] at hle;rw [hd] at hle;cases hle
theorem cw {d:Nat} {op:Op} {ty:TypeId} {pos:String} {af:Array Edge} {rest:List Oper} {R:AV→AL→Prop} (hd:Nat.ble nt d=false) (hn:Oper.noDefer ⟨some d,op,ty,pos,af,none⟩=true)
  (ho:AO P ⟨some d,op,ty,pos,af,none⟩ fr B L R) (h:∀c L',R c L'→br P r ops Q nt D rest ((d,c)::fr) B L'):br P r ops Q nt D (⟨some d,op,ty,pos,af,none⟩::rest) fr B L:=by
 intro σ a w ha hw
 unfold wpListIn
 rw [if_pos (by simp [Region.wanted])]
 exact rz hn (ho σ a.eval w (fun x c hx=>ha.eval hx) hw) fun v w' ⟨τ,c,L',h1,h2,h3,h4⟩=>h c L' h4 τ _ _ ((ha.mono h1).put (ml hd) h2) h3
theorem ci {d:Nat} {op:Op} {ty:TypeId} {pos:String} {af:Array Edge} {rest:List Oper} {u:AV} (ho:Av P ⟨some d,op,ty,pos,af,none⟩ fr u) (hd:Nat.ble nt d=false) (hn:Oper.noDefer ⟨some d,op,ty,pos,af,none⟩=true)
  (h:br P r ops Q nt D rest ((d,u)::fr) B L):br P r ops Q nt D (⟨some d,op,ty,pos,af,none⟩::rest) fr B L:=
 cw hd hn ho.ao fun c L' ⟨h1,h2⟩=>by subst h1;subst h2;exact h
theorem iV {op:Op} {ty:TypeId} {pos:String} {af:Array Edge} {rest:List Oper} {R:AV→AL→Prop} (hn:Oper.noDefer ⟨none,op,ty,pos,af,none⟩=true) (ho:AO P ⟨none,op,ty,pos,af,none⟩ fr B L R)
  (h:∀c L',R c L'→br P r ops Q nt D rest fr B L'):br P r ops Q nt D (⟨none,op,ty,pos,af,none⟩::rest) fr B L:=by
 intro σ a w ha hw
 unfold wpListIn
 rw [if_pos (by simp [Region.wanted])]
 exact rz hn (ho σ a.eval w (fun x c hx=>ha.eval hx) hw) fun v w' ⟨τ,c,L',h1,h2,h3,h4⟩=>h c L' h4 τ _ _ (ha.mono h1) h3
theorem qB {σ:Mem} {a:Act} {j dj:Nat} {b:Bool} (ha:jz σ nt D fr a) (hj:(ops[j]?).bind (·.dst)=some dj) (hb:ca fr dj=some (.sc (.bool b))):yielded ops a.tmps j=some b:=by
 have:=(ha.look dj _ hb).sc_inv
 unfold yielded
 rw [hj]
 simp only [Option.bind_some]
 rw [Array.getD_eq_getD_getElem?] at this
 cases h:a.tmps[dj]? with
 | none=>rw [h] at this;simp [undef] at this
 | some x=>rw [h] at this;simp at this;subst this;rfl
theorem qC {σ:Mem} {a:Act} {j dj:Nat} (ha:jz σ nt D fr a) (hj:(ops[j]?).bind (·.dst)=some dj) (hb:ca fr dj=some (.sc undef)):yielded ops a.tmps j=none:=by
 have:=(ha.look dj _ hb).sc_inv
 unfold yielded
 rw [hj]
 simp only [Option.bind_some]
 rw [Array.getD_eq_getD_getElem?] at this
 cases h:a.tmps[dj]? with
 | none=>rfl
 | some x=>rw [h] at this;simp at this;subst this;rfl
theorem jz.shadow {σ:Mem} {a:Act} {t:Nat} {v:AV} (h:jz σ nt D fr a) (hl:ca fr t=some v):jz σ nt D ((t,v)::fr) a:=
 ⟨h.size,h.defers,fun t' v' hl'=>by
  rw [bY] at hl'
  by_cases e:t=t'
  ·subst e;simp only [if_true,Option.some.injEq] at hl';subst hl';exact h.look t v hl
  ·rw [if_neg e] at hl';exact h.look t' v' hl'⟩
theorem aW {d j dj:Nat} {want b:Bool} {op:Op} {ty:TypeId} {pos:String} {af:Array Edge} {rest:List Oper} (hj:(ops[j]?).bind (·.dst)=some dj) (hb:ca fr dj=some (.sc (.bool b))) (hd:Nat.ble nt d=false)
  (yes:b=want→br P r ops Q nt D (⟨some d,op,ty,pos,af,none⟩::rest) ((dj,.sc (.bool want))::fr) B L) (no:b= !want→br P r ops Q nt D rest ((d,.sc undef)::(dj,.sc (.bool (!want)))::fr) B L):
  br P r ops Q nt D (⟨some d,op,ty,pos,af,some (j,want)⟩::rest) fr B L:=by
 intro σ a w ha hw
 have hy:=qB (ops:=ops) ha hj hb
 unfold wpListIn
 by_cases e:b=want
 ·have h1:=yes e σ a w (by subst e;exact ha.shadow hb) hw
  unfold wpListIn at h1
  rw [if_pos (by simp [Region.wanted])] at h1
  rw [if_pos (by simp [Region.wanted,hy,e])]
  exact h1
 ·rw [if_neg (by simp [Region.wanted,hy,e])]
  have e':b= !want:=by cases b <;> cases want <;> simp_all
  exact ⟨fun _ _=>trivial,no e' σ _ _ ((by subst e';exact ha.shadow hb:jz σ nt D ((dj,.sc (.bool (!want)))::fr) a).put (ml hd) (.sc undef)) hw⟩
theorem LR {d j dj:Nat} {want b:Bool} {op:Op} {ty:TypeId} {pos:String} {af:Array Edge} {rest:List Oper} (zz:(ops[j]?).bind (·.dst)=some dj∧ca fr dj=some (.sc (.bool b))∧Nat.ble nt d=false) (yes:b=want→br P r ops Q nt D (⟨some d,op,ty,pos,af,none⟩::rest) ((dj,.sc (.bool want))::fr) B L) (no:b= !want→br P r ops Q nt D rest ((d,.sc undef)::(dj,.sc (.bool (!want)))::fr) B L):br P r ops Q nt D (⟨some d,op,ty,pos,af,some (j,want)⟩::rest) fr B L:=aW zz.1 zz.2.1 zz.2.2 yes no
theorem aw {j dj:Nat} {d:Option Nat} {want:Bool} {op:Op} {ty:TypeId} {pos:String} {af:Array Edge} {rest:List Oper} (hj:(ops[j]?).bind (·.dst)=some dj) (hb:ca fr dj=some (.sc (.bool want)))
  (yes:br P r ops Q nt D (⟨d,op,ty,pos,af,none⟩::rest) fr B L):br P r ops Q nt D (⟨d,op,ty,pos,af,some (j,want)⟩::rest) fr B L:=by
 intro σ a w ha hw
 have hy:=qB (ops:=ops) ha hj hb
 have h1:=yes σ a w ha hw
 unfold wpListIn at h1 ⊢
 rw [if_pos (by simp [Region.wanted])] at h1
 rw [if_pos (by simp [Region.wanted,hy])]
 exact h1
theorem LO {j dj:Nat} {d:Option Nat} {want:Bool} {op:Op} {ty:TypeId} {pos:String} {af:Array Edge} {rest:List Oper} (zz:(ops[j]?).bind (·.dst)=some dj∧ca fr dj=some (.sc (.bool want))) (yes:br P r ops Q nt D (⟨d,op,ty,pos,af,none⟩::rest) fr B L):br P r ops Q nt D (⟨d,op,ty,pos,af,some (j,want)⟩::rest) fr B L:=aw zz.1 zz.2 yes
theorem aG {d j dj:Nat} {want b:Bool} {op:Op} {ty:TypeId} {pos:String} {af:Array Edge} {rest:List Oper} (hj:(ops[j]?).bind (·.dst)=some dj) (hb:ca fr dj=some (.sc (.bool b))) (hw:(b==want)=false) (hd:Nat.ble nt d=false)
  (no:br P r ops Q nt D rest ((d,.sc undef)::fr) B L):br P r ops Q nt D (⟨some d,op,ty,pos,af,some (j,want)⟩::rest) fr B L:=by
 intro σ a w ha hw'
 have hy:=qB (ops:=ops) ha hj hb
 unfold wpListIn
 rw [if_neg (by simp only [Region.wanted,hy];intro h;cases b <;> cases want <;> simp_all)]
 exact ⟨fun _ _=>trivial,no σ _ _ (ha.put (ml hd) (.sc undef)) hw'⟩
theorem LP {d j dj:Nat} {want b:Bool} {op:Op} {ty:TypeId} {pos:String} {af:Array Edge} {rest:List Oper} (zz:(ops[j]?).bind (·.dst)=some dj∧ca fr dj=some (.sc (.bool b))∧(b==want)=false∧Nat.ble nt d=false) (no:br P r ops Q nt D rest ((d,.sc undef)::fr) B L):br P r ops Q nt D (⟨some d,op,ty,pos,af,some (j,want)⟩::rest) fr B L:=aG zz.1 zz.2.1 zz.2.2.1 zz.2.2.2 no
theorem dK {d j dj:Nat} {want:Bool} {op:Op} {ty:TypeId} {pos:String} {af:Array Edge} {rest:List Oper} (hj:(ops[j]?).bind (·.dst)=some dj) (hb:ca fr dj=some (.sc undef)) (hd:Nat.ble nt d=false)
  (no:br P r ops Q nt D rest ((d,.sc undef)::fr) B L):br P r ops Q nt D (⟨some d,op,ty,pos,af,some (j,want)⟩::rest) fr B L:=by
 intro σ a w ha hw
 have hy:=qC (ops:=ops) ha hj hb
 unfold wpListIn
 rw [if_neg (by simp [Region.wanted,hy])]
 exact ⟨fun _ _=>trivial,no σ _ _ (ha.put (ml hd) (.sc undef)) hw⟩
theorem ve {rest:List Oper} {fr':bT} {L':AL} (hf:mL fr' fr) (hL:∀σ w,cL B σ L w→cL B σ L' w) (h:br P r ops Q nt D rest fr' B L'):br P r ops Q nt D rest fr B L:=fun σ a w ha hw=>h σ a w (ha.weak hf) (hL σ w hw)
theorem pV {c:Code} {fr':bT} {L':AL} (hf:mL fr' fr) (hL:∀σ w,cL B σ L w→cL B σ L' w) (h:AT P r c Q nt D fr' B L'):AT P r c Q nt D fr B L:=fun σ a w ha hw=>h σ a w (ha.weak hf) (hL σ w hw)
theorem a4 {id:Nat} {l:List Oper} (h:br P r l.toArray Q nt D l fr B L):AT P r (.region id l.toArray false) Q nt D fr B L:=fun σ a w ha hw=>wpIn_region_lit (h σ a w ha hw)
theorem a9 {x y:Code} (h:AT P r x (Kt P r y Q) nt D fr B L):AT P r (.seq x y) Q nt D fr B L:=fun σ a w ha hw=>wpIn_seq (h σ a w ha hw)
theorem a6 {y:Code} (h:AT P r y Q nt D fr B L):AX P .normal (Kt P r y Q) nt D fr B L:=fun σ a w ha hw=>h σ a w ha hw
theorem aB {y:Code} (h:AX P .ret Q nt D fr B L):AX P .ret (Kt P r y Q) nt D fr B L:=fun σ a w ha hw=>h σ a w ha hw
theorem aq {y:Code} {id:Nat} (h:AX P (.exit id) Q nt D fr B L):AX P (.exit id) (Kt P r y Q) nt D fr B L:=fun σ a w ha hw=>h σ a w ha hw
theorem aK {id:Nat} (h:AX P .normal Q nt D fr B L):AX P .normal (Exit.inBlock id Q) nt D fr B L:=fun σ a w ha hw=>h σ a w ha hw
theorem aV {id:Nat} (h:AX P .ret Q nt D fr B L):AX P .ret (Exit.inBlock id Q) nt D fr B L:=fun σ a w ha hw=>h σ a w ha hw
theorem ay {id:Nat} (h:AX P .normal Q nt D fr B L):AX P (.exit id) (Exit.inBlock id Q) nt D fr B L:=fun σ a w ha hw=>by
 have:=h σ a w ha hw
 simpa [Exit.inBlock] using this
theorem ez {id id':Nat} (hne:Nat.beq id' id=false) (h:AX P (.exit id') Q nt D fr B L):AX P (.exit id') (Exit.inBlock id Q) nt D fr B L:=fun σ a w ha hw=>by
 have:=h σ a w ha hw
 have hne':id'≠id:=by intro e;subst e;simp at hne
 simpa [Exit.inBlock,hne'] using this
theorem ai {id:Nat} {c:Code} (h:AT P r c (Exit.inBlock id Q) nt D fr B L):AT P r (.block id c) Q nt D fr B L:=fun σ a w ha hw=>wpIn_block (h σ a w ha hw)
theorem aj (h:AX P .normal Q nt D fr B L):AT P r .skip Q nt D fr B L:=fun σ a w ha hw=>wpIn_skip (h σ a w ha hw)
theorem am (h:AX P .ret Q nt D fr B L):AT P r .ret Q nt D fr B L:=fun σ a w ha hw=>wpIn_ret (h σ a w ha hw)
theorem aP {id:Nat} (h:AX P (.exit id) Q nt D fr B L):AT P r (.exit id) Q nt D fr B L:=fun σ a w ha hw=>wpIn_exit (h σ a w ha hw)
theorem Cw {l:Nat} (h:AX P .normal Q nt D fr B L):AT P r (.label l) Q nt D fr B L:=fun σ a w ha hw=>wpIn_label (h σ a w ha hw)
theorem ar {c:Operand} {x y:Code} {b:Bool} (hc:bh fr c=some (.sc (.bool b))) (ht:b=true→AT P r x Q nt D fr B L) (hf:b=false→AT P r y Q nt D fr B L):AT P r (.cond c x y) Q nt D fr B L:=
 fun σ a w ha hw=>wpIn_cond_split (ha.eval hc).sc_inv (fun e=>ht e σ a w ha hw) (fun e=>hf e σ a w ha hw)
theorem Fe {α:Type} {c:Code} (Inv:α→bT) (J:α→AL→Prop) (μ:α→Nat) (x0:α) (L0:AL) (hf:mL (Inv x0) fr) (hJ:J x0 L0) (hL:∀σ w,cL B σ L w→cL B σ L0 w)
  (hb:∀x L,J x L→AT P r c (Exit.then (fun a w=>∃σ x' L',jz σ nt D (Inv x') a∧J x' L'∧cL B σ L' w∧μ x' < μ x) Q) nt D (Inv x) B L):AT P r (.loop c) Q nt D fr B L:=by
 intro σ a w ha hw
 classical
 let G:Nat→Act→World→Prop:=fun m a w=>∃σ x L,jz σ nt D (Inv x) a∧J x L∧cL B σ L w∧μ x=m
 let M:Act→World→Nat:=fun a w=>if h:∃m,G m a w∧∀m',G m' a w→m≤m' then h.choose else 0
 have least:∀a w,(∃m,G m a w)→G (M a w) a w∧∀m',G m' a w→M a w≤m':=by
  rintro a w ⟨m0,hg0⟩
  have hex:∃m,G m a w∧∀m',G m' a w→m≤m':=by
   have:∀k,∀m,m≤k→G m a w→∃m,G m a w∧∀m',G m' a w→m≤m':=by
    intro k
    induction k with
    | zero=>intro m hm hg;exact ⟨m,hg,fun m' _=>by omega⟩
    | succ k ih=>
     intro m hm hg
     by_cases h:∃m',m' < m∧G m' a w
     ·obtain ⟨m',hlt,hg'⟩:=h
      exact ih m' (by omega) hg'
     ·exact ⟨m,hg,fun m' hg'=>by
       rcases Nat.lt_or_ge m' m with hlt | hge
       ·exact absurd ⟨m',hlt,hg'⟩ h
       ·exact hge⟩
   exact this m0 m0 (Nat.le_refl _) hg0
  have hM:M a w=hex.choose:=dif_pos hex
  rw [hM];exact hex.choose_spec
 refine wpIn_loop (fun a w=>∃m,G m a w) M ⟨_,σ,x0,L0,ha.weak hf,hJ,hL σ w hw,rfl⟩ ?_
 intro a w hI
 obtain ⟨⟨σ',x,L',hx,hj,hst,hm⟩,_⟩:=least a w hI
 refine wpIn_mono (hb x L' hj σ' a w hx hst) ?_
 intro e a' w' hq
 cases e with
 | normal=>
  obtain ⟨τ,x',L2,hx',hj',hst',hlt⟩:=hq
  have hg:G (μ x') a' w':=⟨τ,x',L2,hx',hj',hst',rfl⟩
  refine ⟨⟨_,hg⟩,?_⟩
  have:=(least a' w' ⟨_,hg⟩).2 (μ x') hg
  omega
 | _=>exact hq
theorem CB {α:Type} {Inv:α→bT} {J:α→AL→Prop} {μ:α→Nat} {x:α} (x':α) (L':AL) (hf:mL (Inv x') fr) (hJ:J x' L') (hL:∀σ w,cL B σ L w→cL B σ L' w) (hm:μ x' < μ x):
  AX P .normal (Exit.then (fun a w=>∃σ x' L',jz σ nt D (Inv x') a∧J x' L'∧cL B σ L' w∧μ x' < μ x) Q) nt D fr B L:=
 fun σ _ _ ha hw=>⟨σ,x',L',ha.weak hf,hJ,hL _ _ hw,hm⟩
def my:Nat→List AV→bT
 | _,[]=>[]
 | k,v::vs=>(k,v)::my (k+1) vs
theorem gV:∀(vs:List AV) (k t:Nat) (v:AV),ca (my k vs) t=some v→k≤t∧vs[t - k]?=some v
 | [],_,_,_,h=>by simp [my,ca] at h
 | u::vs,k,t,v,h=>by
  simp only [my,bY] at h
  by_cases e:k=t
  ·subst e;simp at h;subst h;simp
  ·rw [if_neg e] at h
   obtain ⟨h1,h2⟩:=gV vs (k+1) t v h
   exact ⟨by omega,by rw [show t - k=(t - (k+1))+1 by omega,List.getElem?_cons_succ];exact h2⟩
def i8 (B:Bs) (Post:AV→AL→Prop):Ending→World→Prop:=fun e w'=>∃v τ c L',e= .returned v∧VR τ c v∧cL B τ L' w'∧Post c L'
def AC (P:Program) (f:FuncId) (args:List AV) (L:AL) (Post:AV→AL→Prop):Prop:=∀σ w vs,cS σ args vs→cL ⟨w,σ,L.map (·.1)⟩ σ L w→Calls P f vs.toArray w (i8 ⟨w,σ,L.map (·.1)⟩ Post)
def c5 (P:Program) (f:FuncId) (args:List AV) (u:AV):Prop:=AC P f args [] fun c _=>c=u
theorem i8.mono {B:Bs} {Post Post':AV→AL→Prop} (h:∀c L',Post c L'→Post' c L') {e:Ending} {w:World} (k:i8 B Post e w):i8 B Post' e w:=by
 obtain ⟨v,τ,c,L',h1,h2,h3,h4⟩:=k
 exact ⟨v,τ,c,L',h1,h2,h3,h _ _ h4⟩
theorem AC.mono {f:FuncId} {args:List AV} {Post Post':AV→AL→Prop} (h:AC P f args L Post) (k:∀c L',Post c L'→Post' c L'):AC P f args L Post':=fun σ w vs hv hs=>(h σ w vs hv hs).mono fun _ _ hr=>hr.mono k
theorem aS {f:FuncId} {fn:Func} {c:Code} {args:List AV} {Post:AV→AL→Prop} (hf:P.funcs[f]?=some fn) (hb:fn.body=some c) (hn:fn.ntmps=nt) (hs:Nat.ble args.length nt=true)
  (h:∀B,AT P none c (bodyPost P fn (i8 B Post)) nt [] (my 0 args) B L):AC P f args L Post:=by
 intro σ w vs hv hst
 have hs':args.length≤nt:=by simpa [Nat.ble_eq] using hs
 have hl:=hv.1
 refine (callsIn_wide (n:=0)).1 (callsIn_of_wp hf hb trivial (h _ σ _ w ⟨?_,rfl,?_⟩ hst))
 ·simp [hn];omega
 ·intro t v hlk
  obtain ⟨_,h2⟩:=gV args 0 t v hlk
  simp only [Nat.sub_zero] at h2
  have hlt:t < vs.length:=by have:=(Ln h2).1;omega
  simp only [Array.getD_eq_getD_getElem?]
  rw [Array.getElem?_append_left (by simpa using hlt)]
  have:=hv.2 t v vs[t] h2 (Iy hlt)
  simpa [hlt] using this
theorem aA {fn:Func} {Post:AV→AL→Prop} {t:Tmp} {c:AV} (hr:fn.results=#[.tmp t]) (hv:ca fr t=some c) (h:Post c L):AX P .ret (bodyPost P fn (i8 B Post)) nt [] fr B L:=
 fun σ a w ha hw=>⟨ha.defers,_,results_tmp hr _ _ _,_,σ,c,L,rfl,ha.look t c hv,hw,h⟩
theorem LM {fn:Func} {Post:AV→AL→Prop} {t:Tmp} {c:AV} (zz:fn.results=#[.tmp t]∧ca fr t=some c) (h:Post c L):AX P .ret (bodyPost P fn (i8 B Post)) nt [] fr B L:=aA zz.1 zz.2 h
theorem LN {fn:Func} {Post:AV→AL→Prop} {t:Tmp} {c:AV} (zz:fn.results=#[.tmp t]∧ca fr t=some c∧Post c L):AX P .ret (bodyPost P fn (i8 B Post)) nt [] fr B L:=aA zz.1 zz.2.1 zz.2.2
theorem aZ {fn:Func} {Post:AV→AL→Prop} {t u:Tmp} {c d:AV} (hr:fn.results=#[.tmp t,.tmp u]) (hv:ca fr t=some c) (hx:ca fr u=some d) (h:Post (.tup [c,d]) L):AX P .ret (bodyPost P fn (i8 B Post)) nt [] fr B L:=
 fun σ a w ha hw=>⟨ha.defers,_,results_tmp2 hr _ _ _,_,σ,.tup [c,d],L,rfl,.tup [c,d] [_,_] rfl (cS.cons (ha.look t c hv) (cS.cons (ha.look u d hx) cS.nil)).2,hw,h⟩
theorem LT {fn:Func} {Post:AV→AL→Prop} {t u:Tmp} {c d:AV} (zz:fn.results=#[.tmp t,.tmp u]∧ca fr t=some c∧ca fr u=some d) (h:Post (.tup [c,d]) L):AX P .ret (bodyPost P fn (i8 B Post)) nt [] fr B L:=aZ zz.1 zz.2.1 zz.2.2 h
theorem cJ {fn:Func} {Post:AV→AL→Prop} (hr:fn.results=#[]) (h:Post (.tup []) L):AX P .normal (bodyPost P fn (i8 B Post)) nt [] fr B L:=
 fun σ a w ha hw=>⟨ha.defers,_,results_none hr _ _ _,_,σ,.tup [],L,rfl,.tup [] [] rfl (fun i c u h=>by simp at h),hw,h⟩
theorem pW {fn:Func} {Post:AV→AL→Prop} (hr:fn.results=#[]) (h:Post (.tup []) L):AX P .ret (bodyPost P fn (i8 B Post)) nt [] fr B L:=
 fun σ a w ha hw=>⟨ha.defers,_,results_none hr _ _ _,_,σ,.tup [],L,rfl,.tup [] [] rfl (fun i c u h=>by simp at h),hw,h⟩
end Go.Proofs.YtpmdfoaadejmkaaGreatDoor
namespace Go.Proofs.YtpmdfoaadejmkaaGreatDoor
open Go.RowKit
inductive TK where
 | int (k:IntKind) | bool | str | slice (e sz by_:Nat) | struct (offs:List (Nat×Nat×Bool)) | arr (n e sz:Nat) | other
structure TI where
 k:TK
 size:Nat
 zero:List Value
def zE:Value→Value→Bool
 | .int k n,.int k' n'=>decide (k=k') && decide (n=n')
 | .bool b,.bool b'=>b==b'
 | .string s,.string s'=>decide (s.data=#[]∧s'.data=#[])
 | .pointer none,.pointer none=>true
 | .slice none 0 0,.slice none 0 0=>true
 | .map none,.map none=>true
 | .chan none,.chan none=>true
 | .nilFunc,.nilFunc=>true
 | .nilIface,.nilIface=>true
 | _,_=>false
theorem s5 {v u:Value} (h:zE v u=true):v=u:=by
 unfold zE at h
 split at h <;> first | rfl | cases h | skip
 ·simp only [Bool.and_eq_true,decide_eq_true_eq] at h;rw [h.1,h.2]
 ·simp only [beq_iff_eq] at h;rw [h]
 ·rename_i s s'
  simp only [decide_eq_true_eq] at h
  cases s;cases s';simp_all
def uG:List Value→List Value→Bool
 | [],[]=>true
 | v::vs,u::us=>zE v u && uG vs us
 | _,_=>false
theorem m5:∀{vs us:List Value},uG vs us=true→vs=us
 | [],[],_=>rfl
 | v::vs,u::us,h=>by
  simp only [uG,Bool.and_eq_true] at h
  rw [s5 h.1,m5 h.2]
 | [],_::_,h=>by cases h
 | _::_,[],h=>by cases h
def pG (P:Program) (t n:Nat):Bool:=match P.info? t with | some i=>Nat.beq i.size n | none=>false
def Fa (P:Program) (t:Nat) (b:Bool):Bool:=match P.underlying t with
 | some (.struct _)=>b | some (.array _ _)=>b | some _=> !b | none=>false
def mc (P:Program):List Field→List (Nat×Nat×Bool)→Bool
 | [],[]=>true
 | f::fs,(o,s,b)::r=>Nat.beq f.offset o && pG P f.type s && !Nat.beq s 0 && Fa P f.type b && mc P fs r
 | _,_=>false
def BL (P:Program) (t:Nat) (ti:TI):Bool:=pG P t ti.size && (match P.info? t with | some i=>(match i.zero with | some z=>uG z.cells.toList ti.zero | none=>false) | none=>false) &&
 match P.underlying t with
 | some (.int k)=>(match ti.k with | .int k'=>decide (k=k') | _=>false) && Nat.beq ti.size 1
 | some .bool=>(match ti.k with | .bool=>true | _=>false) && Nat.beq ti.size 1
 | some .string=>(match ti.k with | .str=>true | _=>false) && Nat.beq ti.size 1
 | some (.slice e)=>(match ti.k with | .slice e' sz by_=>Nat.beq e e' && !Nat.beq sz 0 && (match P.info? e with | some i=>Nat.beq i.size sz && Nat.beq i.bytes by_ && (match i.zero with | some z=>Nat.beq z.cells.size sz | none=>false) | none=>false) | _=>false) && Nat.beq ti.size 1
 | some (.struct fs)=>(match ti.k with | .struct offs=>mc P fs.toList offs | _=>false)
 | some (.array n e)=>(match ti.k with | .arr n' e' sz=>Nat.beq n n' && Nat.beq e e' && pG P e sz | _=>false)
 | some _=>(match ti.k with | .other=>true | _=>false) && Nat.beq ti.size 1
 | none=>false
abbrev TT:=List (Option TI)
def dw:TT→Nat→Option TI
 | [],_=>none
 | x::_,0=>x
 | _::r,n+1=>dw r n
def JF (P:Program):Nat→TT→Bool
 | _,[]=>true
 | t,x::r=>(match x with | some ti=>BL P t ti | none=>true) && JF P (t+1) r
structure eu (P:Program) (tt:TT):Prop where
 ok:∀t ti,dw tt t=some ti→BL P t ti=true
theorem Iw {P:Program} {tt:TT} (h:JF P 0 tt=true):eu P tt:=by
 refine ⟨?_⟩
 have:∀(tt:TT) (k t:Nat) (ti:TI),JF P k tt=true→dw tt t=some ti→BL P (k+t) ti=true:=by
  intro tt
  induction tt with
  | nil=>intro k t ti _ h;simp [dw] at h
  | cons x r ih=>
   intro k t ti h hl
   simp only [JF,Bool.and_eq_true] at h
   cases t with
   | zero=>simp only [dw] at hl;subst hl;exact h.1
   | succ t=>rw [show k+(t+1)=(k+1)+t by omega];exact ih (k+1) t ti h.2 hl
 intro t ti hl
 have:=this tt 0 t ti h hl
 rwa [Nat.zero_add] at this
theorem nq {P:Program}:∀(fs:List Field) (r:List (Nat×Nat×Bool)) (f:Nat) (o s:Nat) (b:Bool),mc P fs r=true→r[f]?=some (o,s,b)→∃fl,fs[f]?=some fl∧fl.offset=o∧(P.info? fl.type).map (·.size)=some s∧s≠0∧Fa P fl.type b=true
 | [],[],f,o,s,b,_,h=>by simp at h
 | x::fs,(o',s',b')::r,f,o,s,b,h,hr=>by
  simp only [mc,Bool.and_eq_true,Nat.beq_eq,Bool.not_eq_true'] at h
  obtain ⟨⟨⟨⟨h1,h2⟩,h3⟩,h4⟩,h5⟩:=h
  cases f with
  | zero=>
   simp only [List.getElem?_cons_zero,Option.some.injEq,Prod.mk.injEq] at hr
   obtain ⟨rfl,rfl,rfl⟩:=hr
   refine ⟨x,rfl,h1,?_,Nat.ne_of_beq_eq_false h3,h4⟩
   unfold pG at h2
   split at h2
   ·rename_i i hi;rw [Nat.beq_eq] at h2;rw [hi];simp [h2]
   ·cases h2
  | succ f=>exact nq fs r f o s b h5 hr
 | [],_::_,f,o,s,b,h,_=>by cases h
 | _::_,[],f,o,s,b,h,_=>by cases h
section
variable {P:Program} {tt:TT} (ok:eu P tt) {t s:Nat} {ti:TI}
include ok
theorem eu.size (h:dw tt t=some ti):(P.info? t).map (·.size)=some ti.size:=by
 have:=ok.ok t ti h
 simp only [BL,Bool.and_eq_true,pG] at this
 cases hq:P.info? t with
 | none=>rw [hq] at this;simp at this
 | some i=>rw [hq] at this;simp only [Nat.beq_eq] at this;simp [this.1.1]
theorem eu.isSl {e sz by_:Nat} (h:dw tt t=some ti) (hk:ti.k= .slice e sz by_):ln P t e sz by_∧0 < sz:=by
 have:=ok.ok t ti h
 simp only [BL,Bool.and_eq_true] at this
 obtain ⟨_,h2⟩:=this
 rw [hk] at h2
 split at h2 <;> simp at h2
 rename_i e' hu
 obtain ⟨⟨⟨rfl,h0⟩,h3⟩,_⟩:=h2
 split at h3
 ·rename_i i hi
  simp at h3
  split at h3
  ·rename_i z hz
   simp at h3
   exact ⟨⟨hu,i,z,hi,h3.1.1,h3.1.2,hz,h3.2⟩,Nat.pos_of_ne_zero fun e=>by rw [e] at h0;simp at h0⟩
  ·simp at h3
 ·simp at h3
def TK.agg:TK→Bool | .struct _=>true | .arr _ _ _=>true | _=>false
theorem eu.sc (h:dw tt t=some ti) (hk:ti.k.agg=false):EV P t:=by
 have hs:=ok.size h
 have:=ok.ok t ti h
 simp only [BL,Bool.and_eq_true] at this
 obtain ⟨_,h2⟩:=this
 have h1:ti.size=1∧∃d,P.underlying t=some d∧(match d with | .struct _ | .array _ _=>true | _=>false)=false:=by
  split at h2
  all_goals first
   | (simp only [Bool.and_eq_true,Nat.beq_eq] at h2;rename_i hu;exact ⟨h2.2,_,hu,rfl⟩)
   | (cases hq:ti.k <;> rw [hq] at h2 hk <;> simp_all [TK.agg];done)
   | (simp only [Bool.and_eq_true,Nat.beq_eq] at h2;rename_i d _ _ _ _ _ _ hu;refine ⟨h2.2,d,hu,?_⟩;cases d <;> simp_all)
   | (cases h2)
 obtain ⟨h1,d,hu,hd⟩:=h1
 refine ⟨fun w=>?_,by rw [hs,h1]⟩
 simp only [isAgg,Sem.run_bind,run_underlying hu,Result.andThen]
 cases d <;> first | rfl | (simp at hd)
theorem eu.ag (h:dw tt t=some ti) (hk:ti.k.agg=true):GN P t ti.size:=by
 have hs:=ok.size h
 have:=ok.ok t ti h
 simp only [BL,Bool.and_eq_true] at this
 obtain ⟨_,h2⟩:=this
 refine ⟨fun w=>?_,hs⟩
 split at h2
 all_goals first
  | (rename_i hu;simp only [isAgg,Sem.run_bind,run_underlying hu,Result.andThen];rfl)
  | (cases hq:ti.k <;> rw [hq] at h2 hk <;> simp_all [TK.agg];done)
  | (cases h2)
theorem eu.str (h:dw tt t=some ti) (hk:ti.k= .str):C2 P t:=by
 have:=ok.ok t ti h
 simp only [BL,Bool.and_eq_true] at this
 obtain ⟨_,h2⟩:=this
 rw [hk] at h2
 split at h2 <;> simp at h2
 rename_i hu
 exact ⟨hu⟩
theorem eu.int {k:IntKind} (h:dw tt t=some ti) (hk:ti.k= .int k):C0 P t k:=by
 have:=ok.ok t ti h
 simp only [BL,Bool.and_eq_true] at this
 obtain ⟨_,h2⟩:=this
 rw [hk] at h2
 split at h2 <;> simp at h2
 rename_i hu
 obtain ⟨rfl,_⟩:=h2
 exact ⟨hu⟩
theorem eu.zero (h:dw tt t=some ti):CZ P t ti.zero:=by
 have:=ok.ok t ti h
 simp only [BL,Bool.and_eq_true] at this
 obtain ⟨⟨_,h2⟩,_⟩:=this
 split at h2
 ·rename_i i hi
  split at h2
  ·rename_i z hz
   refine ⟨z,?_,fun w=>by simp [zeroValue,typeInfo,hi,hz]⟩
   rw [←m5 h2]
  ·cases h2
 ·cases h2
theorem eu.fd {offs:List (Nat×Nat×Bool)} {f o z:Nat} {b:Bool} (h:dw tt s=some ti) (hk:ti.k= .struct offs) (hf:offs[f]?=some (o,z,b)):JI P s f o∧∃fl fs,P.underlying s=some (.struct fs)∧fs[f]?=some fl∧fl.offset=o∧(P.info? fl.type).map (·.size)=some z∧Fa P fl.type b=true:=by
 have:=ok.ok s ti h
 simp only [BL,Bool.and_eq_true] at this
 obtain ⟨_,h2⟩:=this
 rw [hk] at h2
 split at h2 <;> simp at h2
 rename_i fs hu
 obtain ⟨fl,h3,h4,h5,h6,h7⟩:=nq _ _ f o z b h2 hf
 have h3':fs[f]?=some fl:=by simpa using h3
 refine ⟨⟨fun a w=>?_⟩,fl,fs,hu,h3',h4,h5,h7⟩
 cases hq:P.info? fl.type with
 | none=>rw [hq] at h5;cases h5
 | some i=>
  rw [hq] at h5
  simp only [Option.map_some,Option.some.injEq] at h5
  have hne:¬i.size=0:=by omega
  simp [Instr.fieldAt,run_underlying hu,h3',Instr.sureAddr,fieldPlace,sizeOf,typeInfo,hq,hne,h4]
end
theorem W0K {A B:Prop} (k:B) (h:W00 B→A:=by intro k;(repeat' (first|refine a9 ?_|refine ai ?_|refine aj ?_|refine a6 ?_));exact k.g):A:=h ⟨k⟩
theorem W1y {A B:Prop} (k:B) (h:W00 B→A:=by intro k;(repeat' (first|refine a6 ?_|refine a7 ?_));exact k.g):A:=h ⟨k⟩
theorem W1S {A B:Prop} (k:B) (h:W00 B→A:=by intro k;(repeat' (first|refine aK ?_|refine a7 ?_));exact k.g):A:=h ⟨k⟩
theorem W27 {A B:Prop} (k:B) (h:W00 B→A:=by intro k;(repeat' (first|refine a9 ?_|refine aj ?_|refine a6 ?_));exact k.g):A:=h ⟨k⟩
theorem W28 {A B:Prop} (k:B) (h:W00 B→A:=by intro k;(repeat' (first|refine am ?_|refine a6 ?_));exact k.g):A:=h ⟨k⟩
theorem W2m {A B:Prop} (k:B) (h:W00 B→A:=by intro k;(repeat' (first|refine am ?_|refine aB ?_));exact k.g):A:=h ⟨k⟩
theorem W2n {A B:Prop} (k:B) (h:W00 B→A:=by intro k;(repeat' (first|refine aj ?_|refine aK ?_));exact k.g):A:=h ⟨k⟩
end Go.Proofs.YtpmdfoaadejmkaaGreatDoor
