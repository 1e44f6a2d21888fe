/-
  A small logic of triples over the kit's 'wpIn' at the wide fence: a frame is a list of known slots, a world is known by a predicate.
-/
import Derived.RangeFuncNested
import Derived.RangeFuncBound
import Derived.RangeFuncCalls
import Derived.RangeFuncLeaves
import Derived.WalkKit
import Derived.OrdersIn
import Derived.KernelRfl
import Derived.Laws.AppendOwn
import Derived.Laws.IdiomCopy
import Derived.Deep.MidRow
namespace Go.Proofs.YtjjpkibjffmceaaGreat
class ac (g:Prop) (h:outParam Prop):Prop where
  z:h→g
theorem go {g h:Prop} [ac g h] (k:h):g:=ac.z k
theorem FS {α0:Sort _} {a:α0} {α1:Sort _} {b:α1}:a=a∧b=b:=⟨rfl,rfl⟩
theorem HE {α0:Sort _} {a:α0} {α1:Sort _} {b:α1} {α2:Sort _} {c:α2}:a=a∧b=b∧c=c:=⟨rfl,rfl,rfl⟩
theorem HF {α0:Sort _} {a:α0} {α1:Sort _} {b:α1} {α2:Sort _} {c:α2} {α3:Sort _} {d:α3}:a=a∧b=b∧c=c∧d=d:=⟨rfl,rfl,rfl,rfl⟩
theorem HG {α0:Sort _} {a:α0} {α1:Sort _} {b:α1} {α2:Sort _} {c:α2} {α3:Sort _} {d:α3} {α4:Sort _} {e:α4}:a=a∧b=b∧c=c∧d=d∧e=e:=⟨rfl,rfl,rfl,rfl,rfl⟩
theorem HH {α0:Sort _} {a:α0} {α1:Sort _} {b:α1} {α2:Sort _} {c:α2} {α3:Sort _} {d:α3} {α4:Sort _} {e:α4} {α5:Sort _} {f:α5} {α6:Sort _} {g:α6}:a=a∧b=b∧c=c∧d=d∧e=e∧f=f∧g=g:=⟨rfl,rfl,rfl,rfl,rfl,rfl,rfl⟩
theorem HJ {α0:Sort _} {a:α0} {α1:Sort _} {b:α1} {α2:Sort _} {c:α2} {α3:Sort _} {d:α3} {α4:Sort _} {e:α4} {α5:Sort _} {f:α5} {α6:Sort _} {g:α6} {α7:Sort _} {h:α7}:a=a∧b=b∧c=c∧d=d∧e=e∧f=f∧g=g∧h=h:=⟨rfl,rfl,rfl,rfl,rfl,rfl,rfl,rfl⟩
theorem Iz {α:Type _} {l:List α} {i:Nat} (h:i < l.length):l[i]?=some l[i]:=List.getElem?_eq_getElem h
theorem Iy {p:Prop} [i:Decidable p] (h:decide p=true):p:=_root_.of_decide_eq_true h
theorem Ix {p:Prop} [i:Decidable p] (h:decide p=false):¬p:=_root_.of_decide_eq_false h
theorem Iw {α:Type _} {l:List α} {i:Nat} {a:α} (h:l[i]?=some a):a∈l:=List.mem_of_getElem? h
theorem Iv (n m:Nat):((n+m:Nat):Int)=n+m:=Int.natCast_add n m
theorem Iu {a b:ByteArray}:(a++b).size=a.size+b.size:=ByteArray.size_append
theorem It {α β:Type _} {l:List α} (f:α→β):(l.map f).length=l.length:=List.length_map f
theorem Is {α:Type _} (y:α) {a:α} {l:List α} (h:a∈l):a∈y::l:=List.mem_cons_of_mem y h
theorem Ir {α:Type _} {a:α} {as bs:List α}:a::as++bs=a::(as++bs):=rfl
theorem Iq {α:Type _} (as:List α):[]++as=as:=rfl
theorem Ip {α β:Type _} {f:α→β} {a:α} {l:List α}:(a::l).map f=f a::l.map f:=rfl
theorem Io {α:Type _} {l:List α} {i:Nat} {a:α} (h:l[i]?=some a):∃h:i < l.length,l[i]=a:=List.getElem?_eq_some_iff.1 h
theorem Im {α:Type _} (l:List α):l.Perm l:=List.Perm.refl l
theorem Il {α:Type _} {a:α} {s t:List α} (h:a∈s++t):a∈s∨a∈t:=List.mem_append.1 h
theorem Ik {α:Type _} {a b:α} (h:a∈[b]):a=b:=List.mem_singleton.1 h
theorem Ij {α β:Type _} {f:α→β}:[].map f=[]:=rfl
open Go.RowKit
abbrev Wd (r:Option Nat):Fence:={ Fence.wide with round:=r }
abbrev Fr:=List (Nat×Value)
def fz:Fr→Nat→Option Value
 | [],_=>none
 | (i,v)::r,t=>bif Nat.beq i t then some v else fz r t
def zJ (fr:Fr):Operand→Option Value
 | .tmp t=>fz fr t
 | .const v=>some v
 | .global g=>some (.pointer (some ⟨g,0,none⟩))
 | .func f=>some (.func (.func f) #[] #[])
def Ha (fr:Fr):List Operand→Option (List Value)
 | []=>some []
 | x::xs=>match zJ fr x with
  | none=>none
  | some v=>match Ha fr xs with
   | none=>none
   | some vs=>some (v::vs)
structure Ag (nt:Nat) (D:List Deferred) (fr:Fr) (a:Act):Prop where
 size:a.tmps.size=nt
 defers:a.defers=D
 look:∀t v,fz fr t=some v→a.tmps.getD t undef=v
theorem iR (i:Nat) (v:Value) (fr:Fr) (t:Nat):fz ((i,v)::fr) t=if i=t then some v else fz fr t:=by
 simp only [fz]
 by_cases h:i=t
 ·subst h;simp
 ·have:Nat.beq i t=false:=by
   rw [←Bool.not_eq_true,Nat.beq_eq];exact h
  simp [h,this]
def Hy:Fr→Fr→Prop
 | [],_=>True
 | (t,v)::r,fr=>fz fr t=some v∧Hy r fr
def iN (P:Program) (o:Oper) (ρ:Operand→Value) (w:World) (K:Value→World→Prop):Prop:=
 match (execOp ρ o).run P w with
 | .ok (.value v) w'=>K v w'
 | .ok .skip w'=>K undef w'
 | .ok (.enter f args) w'=>Calls P f args w' fun e w''=>∃v,e= .returned v∧K v w''
 | .ok (.round l f tmps assign body) w'=>RoundIn Fence.wide 0 P l f tmps assign body w' fun e w''=>∃v,e= .returned v∧K v w''
 | _=>False
def Oper.noDefer (o:Oper):Bool:=match o.op with | .defer _=>false | .select .. =>false | _=>true
theorem tc {o:Oper} (h:Oper.noDefer o=true):∀c,o.op≠ .defer c:=by
 intro c e;simp [Oper.noDefer,e] at h
theorem oK {r:Option Nat} {n:Nat} {P:Program} {f:FuncId} {args:Array Value} {w:World} {R:Ending→World→Prop} (h:Calls P f args w R):CallsIn (Wd r) n P f args w R:=by
 have:=(callsIn_wide (n:=n)).2 h
 exact this
theorem uV {r:Option Nat} {n m:Nat} {P:Program} {l:Nat} {f:FuncId} {tmps:Array Value} {assign body:Code} {w:World} {R:Ending→World→Prop}
  (h:RoundIn Fence.wide m P l f tmps assign body w R):RoundIn (Wd r) n P l f tmps assign body w R:=
 ⟨trivial,fun c cs _=>h.2 c cs (room_wide _)⟩
theorem qA {P:Program} {o:Oper} {a:Act} {w:World} {K:Value→World→Prop} {r:Option Nat} {n:Nat} {next:Act→World→Prop} {Q:Exit→Act→World→Prop}
  (hd:Oper.noDefer o=true) (h:iN P o a.eval w K) (hk:∀v w',K v w'→next (a.put o.dst v) w'):o.wpIn (Wd r) n P a w next Q:=by
 refine ⟨fun _ _=>trivial,?_⟩
 rw [show o.semAt (Wd r).round a.eval=execOp a.eval o from Oper.semAt_eq _ _ _ (tc hd)]
 unfold iN at h
 generalize (execOp a.eval o).run P w=x at h
 cases x with
 | halt _ _=>exact h.elim
 | ok x w'=>
  cases x <;> simp only at h <;> first | exact h.elim | skip
  ·exact hk _ _ h
  ·exact hk _ _ h
  ·rename_i f args
   refine ⟨fun hh=>by simp [Fence.wide] at hh,oK (h.mono ?_)⟩
   rintro e w'' ⟨v,rfl,hv⟩
   exact hk _ _ hv
  ·refine ⟨fun hh=>by simp [Fence.wide] at hh,uV (h.mono ?_)⟩
   rintro e w'' ⟨v,rfl,hv⟩
   exact hk _ _ hv
def O (P:Program) (o:Oper) (fr:Fr) (I:World→Prop) (R:Value→World→Prop):Prop:=
 ∀ρ w,(∀x v,zJ fr x=some v→ρ x=v)→I w→iN P o ρ w R
theorem iN.mono {P:Program} {o:Oper} {ρ:Operand→Value} {w:World} {K K':Value→World→Prop} (h:iN P o ρ w K) (hk:∀v w',K v w'→K' v w'):iN P o ρ w K':=by
 unfold iN at *
 generalize (execOp ρ o).run P w=x at *
 cases x with
 | halt _ _=>exact h
 | ok x w'=>
  cases x <;> simp only at h ⊢ <;> first | exact hk _ _ h | exact h | skip
  ·exact h.mono fun e w'' ⟨v,he,hv⟩=>⟨v,he,hk _ _ hv⟩
  ·exact h.mono fun e w'' ⟨v,he,hv⟩=>⟨v,he,hk _ _ hv⟩
variable {P:Program} {r:Option Nat} {ops:Array Oper} {Q:Exit→Act→World→Prop} {nt:Nat} {D:List Deferred} {fr:Fr} {I:World→Prop}
def TL (P:Program) (r:Option Nat) (ops:Array Oper) (Q:Exit→Act→World→Prop) (nt:Nat) (D:List Deferred) (rest:List Oper) (fr:Fr) (I:World→Prop):Prop:=
 ∀a w,Ag nt D fr a→I w→wpListIn (Wd r) 0 P ops Q rest a w
def Xt (_P:Program) (e:Exit) (Q:Exit→Act→World→Prop) (nt:Nat) (D:List Deferred) (fr:Fr) (I:World→Prop):Prop:=
 ∀a w,Ag nt D fr a→I w→Q e a w
def T (P:Program) (r:Option Nat) (c:Code) (Q:Exit→Act→World→Prop) (nt:Nat) (D:List Deferred) (fr:Fr) (I:World→Prop):Prop:=
 ∀a w,Ag nt D fr a→I w→c.wpIn (Wd r) 0 P Q a w
def Kt (P:Program) (r:Option Nat) (y:Code) (Q:Exit→Act→World→Prop):Exit→Act→World→Prop:=Exit.then (fun a w=>y.wpIn (Wd r) 0 P Q a w) Q
def Gm:Nat→List Value→Fr
 | _,[]=>[]
 | k,v::vs=>(k,v)::Gm (k+1) vs
end Go.Proofs.YtjjpkibjffmceaaGreat
namespace Go.Proofs.YtjjpkibjffmceaaGreat
open Go.RowKit
abbrev HL:=List (Nat×(Obj→Prop))
def bx (cs:List Value) (t:TypeId):Obj→Prop:=fun o=>o= .cells cs.toArray t (0,0)
def HC (e:TypeId) (sz n cap:Nat) (xs:List Value):Obj→Prop:=fun o=>
 ∃cur:Array Value,o= .cells cur e (0,0)∧cur.size=cap * sz∧cur.toList.take (n * sz)=xs∧xs.length=n * sz∧n≤cap∧cap≤maxLen
structure St (w0:World) (X:List Nat) (L:HL) (w:World):Prop where
 os:w.os=w0.os
 tape:w.tape=w0.tape
 output:w.output=w0.output
 size:w0.heap.size≤w.heap.size
 old:∀k,k < w0.heap.size→k∉X→w.heap[k]?=w0.heap[k]?
 here:∀p∈L,∃o,w.heap[p.1]?=some o∧p.2 o
 mine:∀p∈L,w0.heap.size≤p.1∨p.1∈X
 apart:(L.map (·.1)).Nodup
abbrev HA (w w':World):Prop:=Below w.heap.size w w'
theorem pd (w:World) (b k:Nat) (v:Value):w.grownBy (w.setCell ⟨b,k,none⟩ v) (some b):=
 ⟨rfl,rfl,rfl,by simp [World.setCell],fun i _ hi=>Below.heap_setCell w ⟨b,k,none⟩ v i (fun e=>hi (by rw [e]))⟩
theorem na {w:World} {b k:Nat} {v:Value} {cs:Array Value} {t:TypeId} {f:Nat×Nat} (h:w.heap[b]?=some (.cells cs t f)):(w.setCell ⟨b,k,none⟩ v).heap[b]?=some (.cells (cs.setIfInBounds k v) t f):=by
 simp [World.setCell,Array.getElem?_modify,h]
theorem i3 (b:Nat):∀(vs:List Value) (k:Nat) (w:World) (cs:Array Value) (t:TypeId) (f:Nat×Nat),w.heap[b]?=some (.cells cs t f)→
  w.grownBy (w.setCells b k vs) (some b)∧∃cs':Array Value,(w.setCells b k vs).heap[b]?=some (.cells cs' t f)∧cs'.size=cs.size∧∀j,cs'[j]?=if k≤j∧j < k+vs.length∧j < cs.size then vs[j - k]? else cs[j]?
 | [],k,w,cs,t,f,h=>⟨⟨rfl,rfl,rfl,Nat.le_refl _,fun _ _ _=>rfl⟩,cs,h,rfl,fun j=>by rw [if_neg];simp;omega⟩
 | v::r,k,w,cs,t,f,h=>by
  have h1:=na (k:=k) (v:=v) h
  obtain ⟨hg,cs',hc,hs,hj⟩:=i3 b r (k+1) _ _ t f h1
  have g1:=pd w b k v
  refine ⟨⟨hg.os.trans g1.os,hg.tape.trans g1.tape,hg.output.trans g1.output,Nat.le_trans g1.size hg.size,fun i hi hne=>(hg.block i (Nat.lt_of_lt_of_le hi g1.size) hne).trans (g1.block i hi hne)⟩,cs',hc,by simpa using hs,?_⟩
  intro j
  rw [hj j]
  simp only [Array.size_setIfInBounds,List.length_cons]
  by_cases e:j=k
  ·subst e
   rw [if_neg (by omega)]
   by_cases hl:j < cs.size
   ·rw [if_pos ⟨Nat.le_refl _,by omega,hl⟩];simp [hl]
   ·rw [if_neg (by omega)]
    rw [Array.getElem?_eq_none (by simpa using hl),Array.getElem?_eq_none (by omega)]
  ·by_cases hc:k+1≤j∧j < k+1+r.length∧j < cs.size
   ·rw [if_pos hc,if_pos (by omega)]
    rw [show j - k=(j - (k+1))+1 by omega,List.getElem?_cons_succ]
   ·rw [if_neg hc,if_neg (by omega),Array.getElem?_setIfInBounds_ne (by omega)]
theorem ep {w:World} {b k:Nat} {cs:Array Value} {t:TypeId} {f:Nat×Nat} (h:w.heap[b]?=some (.cells cs t f)):w.cell? ⟨b,k,none⟩=cs[k]?:=by simp [World.cell?,h]
theorem rT {w:World} {b k:Nat} {cs:Array Value} {t:TypeId} (h:w.heap[b]?=some (.cells cs t (0,0))):w.frozen? ⟨b,k,none⟩=false:=by simp [World.frozen?,h]
def Rd (w:World) (sz:Nat) (v:Value) (xs:List Value):Prop:=
 ∃A n cap,v= .slice A n cap∧xs.length=n * sz∧n≤cap∧cap≤maxLen∧(0 < n→∃b off,A=some ⟨b,off,none⟩∧b < w.heap.size∧∀j u,xs[j]?=some u→w.cell? ⟨b,off+j,none⟩=some u)
variable {P:Program} {fr:Fr} {I:World→Prop} {d:Option Tmp} {ty t t':TypeId} {pos:String} {af:Array Edge} {g:Option (Nat×Bool)} {x y:Operand}
class CA (P:Program) (t:TypeId):Prop where
 agg:∀w,(isAgg t).run P w= .ok false w
 one:(P.info? t).map (·.size)=some 1
class Ek (P:Program) (t:TypeId) (k:outParam Nat):Prop where
 agg:∀w,(isAgg t).run P w= .ok true w
 size:(P.info? t).map (·.size)=some k
class H3 (P:Program) (s f:Nat) (off:outParam Nat):Prop where
 run:∀a w,(Instr.fieldAt s (.pointer (some a)) f).run P w= .ok (.pointer (some (a.add off))) w
class CZ (P:Program) (t:TypeId) (z:outParam (List Value)):Prop where
 run:∃v:Value,v.cells=z.toArray∧∀w,(zeroValue t).run P w= .ok v w
class oC (P:Program) (t:TypeId) (e sz bytes:outParam Nat):Prop where
 under:P.underlying t=some (.slice e)
 info:∃i z,P.info? e=some i∧i.size=sz∧i.bytes=bytes∧i.zero=some z∧z.cells.size=sz
class CB (P:Program) (t:TypeId):Prop where
 under:P.underlying t=some .string
class Cz (P:Program) (t:TypeId) (k:outParam IntKind):Prop where
 under:P.underlying t=some (.int k)
class bN (P:Program) (f:FuncId):Prop where
 enters:∀args w,(callFunc f args).run P w= .ok (.enter f args) w
abbrev Pv (P:Program) (o:Oper) (fr:Fr) (I:World→Prop) (u:Value):Prop:=O P o fr I (fun v w=>v=u∧I w)
theorem nY {n:Int} (h: -9223372036854775808≤n∧n≤9223372036854775807):IntKind.i64.wrap n=n:=by
 rw [IntKind.wrap_i64];omega
theorem tV {a b:ByteArray} (h:¬a=b):¬a.toList=b.toList:=by
 intro e;apply h
 rw [ByteArray.toList_eq,ByteArray.toList_eq] at e
 exact ByteArray.ext (Array.toList_inj.1 e)
end Go.Proofs.YtjjpkibjffmceaaGreat
namespace Go.Proofs.YtjjpkibjffmceaaGreat
open Go.RowKit
variable {P:Program} {fr:Fr} {I:World→Prop} {d:Option Tmp} {ty t t':TypeId} {pos:String} {af:Array Edge} {g:Option (Nat×Bool)} {x y:Operand}
variable {w0:World} {X:List Nat} {L:HL}
theorem fL [h:CA P t] {w:World} {a:Addr} {v:Value} (hc:w.cell? a=some v):(loadVar t a).run P w= .ok v w:=by
 simp [loadVar,h.agg w,load,Sem.run,hc,Sem.run_bind]
theorem fK {k:Nat} [h:Ek P t k] {w:World} {b o:Nat} {cs:List Value} (hl:cs.length=k) (hc:∀j v,cs[j]?=some v→w.cell? ⟨b,o+j,none⟩=some v):(loadVar t ⟨b,o,none⟩).run P w= .ok (.agg cs.toArray) w:=by
 have hl':(loadCells ⟨b,o,none⟩ cs.length).run P w= .ok cs.toArray w:=
  run_loadCells_list (P:=P) w ⟨b,o,none⟩ cs (fun j v hv=>by rw [Addr.add_mid];exact hc j v hv)
 have hi:=h.size
 cases hq:P.info? t with
 | none=>rw [hq] at hi;cases hi
 | some i=>
  rw [hq] at hi
  simp only [Option.map_some,Option.some.injEq] at hi
  simp only [loadVar,Sem.run_bind,h.agg w,Result.andThen,if_true]
  simp [sizeOf,typeInfo,hq,hi,←hl,hl']
def Hn (w0:World) (X:List Nat) (L:HL) (q:Obj→Prop) (v:Value) (w:World):Prop:=∃b,v= .pointer (some ⟨b,0,none⟩)∧St w0 X ((b,q)::L) w
theorem lP {v:Value} (h:v.oneCell'=true):v.cells=#[v]:=by cases v <;> first | rfl | (simp [Value.oneCell'] at h)
def Hc (L:HL) (i:Nat) (q:Obj→Prop):HL:=match L,i with
 | [],_=>[]
 | p::r,0=>(p.1,q)::r
 | p::r,i+1=>p::Hc r i q
theorem gz (b k off:Nat):(⟨b,k,none⟩:Addr).add off=⟨b,k+off,none⟩:=Addr.add_mid b k off
theorem gm {e sz by_:Nat} [h:oC P t e sz by_] (w:World):(sizeOf e).run P w= .ok sz w:=by
 obtain ⟨i,z,hi,hs,_⟩:=h.info
 simp [sizeOf,typeInfo,hi,hs]
end Go.Proofs.YtjjpkibjffmceaaGreat
namespace Go.Proofs.YtjjpkibjffmceaaGreat
open Go.RowKit
inductive AV where
 | sc (v:Value)
 | agg (cs:List AV)
 | imm (sz:Nat) (l:List (List AV))
 | vec (k:Option (Nat×Nat)) (sz:Nat) (l:List (List AV))
 | iptr (cs:List AV)
 | fn (f:FuncId) (caps:List AV)
 | fnB (f:FuncId) (fs caps:List AV)
 | tup (vs:List AV)
 | new (q:Nat→Prop) (sz:Nat) (l:List (List AV))
abbrev ce:=Nat→Nat→Option Value
def ce.le (σ τ:ce):Prop:=∀b o u,σ b o=some u→τ b o=some u
theorem ce.le_refl (σ:ce):σ.le σ:=fun _ _ _ h=>h
theorem ce.le_trans {a b c:ce} (h:a.le b) (k:b.le c):a.le c:=fun _ _ _ e=>k _ _ _ (h _ _ _ e)
inductive VR (σ:ce):AV→Value→Prop where
 | sc (v:Value):VR σ (.sc v) v
 | agg (cs:List AV) (vs:List Value) (hl:cs.length=vs.length) (h:∀(i:Nat) (c:AV) (u:Value),cs[i]?=some c→vs[i]?=some u→VR σ c u) (h1:∀u∈vs,u.oneCell'=true):VR σ (.agg cs) (.agg vs.toArray)
 | imm (sz:Nat) (l:List (List AV)) (A:Option Addr) (cap:Nat) (hc:l.length≤cap) (hm:cap≤maxLen) (hs:∀e∈l,e.length=sz) (ha:l≠[]→∃b off,A=some ⟨b,off,none⟩)
   (hx:∀(i b off j:Nat),A=some ⟨b,off,none⟩→i < l.length→j < sz→∃u,σ b (off+i * sz+j)=some u∧u.oneCell'=true)
   (h:∀(i:Nat) (e:List AV) (b off j:Nat) (c:AV) (u:Value),l[i]?=some e→A=some ⟨b,off,none⟩→e[j]?=some c→σ b (off+i * sz+j)=some u→VR σ c u):VR σ (.imm sz l) (.slice A l.length cap)
 | vecN (sz:Nat):VR σ (.vec none sz []) (.slice none 0 0)
 | vec (b cap sz:Nat) (l:List (List AV)) (hc:l.length≤cap) (hm:cap≤maxLen) (hs:∀e∈l,e.length=sz)
   (hx:∀(i j:Nat),i < l.length→j < sz→∃u,σ b (0+i * sz+j)=some u∧u.oneCell'=true)
   (h:∀(i:Nat) (e:List AV) (j:Nat) (c:AV) (u:Value),l[i]?=some e→e[j]?=some c→σ b (0+i * sz+j)=some u→VR σ c u):VR σ (.vec (some (b,cap)) sz l) (.slice (some ⟨b,0,none⟩) l.length cap)
 | iptr (cs:List AV) (b off:Nat) (hx:∀(j:Nat),j < cs.length→∃u,σ b (off+j)=some u∧u.oneCell'=true) (h:∀(j:Nat) (c:AV) (u:Value),cs[j]?=some c→σ b (off+j)=some u→VR σ c u):VR σ (.iptr cs) (.pointer (some ⟨b,off,none⟩))
 | fn (f:FuncId) (cs:List AV) (vs:List Value) (hl:cs.length=vs.length) (h:∀(i:Nat) (c:AV) (u:Value),cs[i]?=some c→vs[i]?=some u→VR σ c u):VR σ (.fn f cs) (.func (.func f) #[] vs.toArray)
 | fnB (f:FuncId) (fs cs:List AV) (ws vs:List Value) (hf:fs.length=ws.length) (h0:∀(i:Nat) (c:AV) (u:Value),fs[i]?=some c→ws[i]?=some u→VR σ c u) (hl:cs.length=vs.length) (h:∀(i:Nat) (c:AV) (u:Value),cs[i]?=some c→vs[i]?=some u→VR σ c u):VR σ (.fnB f fs cs) (.func (.func f) ws.toArray vs.toArray)
 | tup (cs:List AV) (vs:List Value) (hl:cs.length=vs.length) (h:∀(i:Nat) (c:AV) (u:Value),cs[i]?=some c→vs[i]?=some u→VR σ c u):VR σ (.tup cs) (.tuple vs.toArray)
 | new (q:Nat→Prop) (sz:Nat) (l:List (List AV)) (v:Value) (h:VR σ (.imm sz l) v) (hq:∀b off n cap,v= .slice (some ⟨b,off,none⟩) n cap→l≠[]→q b):VR σ (.new q sz l) v
theorem VR.mono {σ τ:ce} (hle:σ.le τ) {c:AV} {v:Value} (h:VR σ c v):VR τ c v:=by
 induction h with
 | sc v=>exact .sc v
 | agg cs vs hl _ h1 ih=>exact .agg cs vs hl ih h1
 | imm sz l A cap hc hm hs ha hx _ ih=>
  refine .imm sz l A cap hc hm hs ha (fun i b off j hA hi hj=>?_) fun i e b off j c u he hA hj hu=>?_
  ·obtain ⟨u,hu,h1⟩:=hx i b off j hA hi hj
   exact ⟨u,hle _ _ _ hu,h1⟩
  ·have hi:=(Io he).1
   have hj':j < sz:=by rw [←hs e (Iw he)];exact (Io hj).1
   obtain ⟨u',hu',_⟩:=hx i b off j hA hi hj'
   have:=hle _ _ _ hu'
   rw [hu] at this
   injection this with this
   subst this
   exact ih i e b off j c u he hA hj hu'
 | vecN sz=>exact .vecN sz
 | vec b cap sz l hc hm hs hx _ ih=>
  refine .vec b cap sz l hc hm hs (fun i j hi hj=>?_) fun i e j c u he hj hu=>?_
  ·obtain ⟨u,hu,h1⟩:=hx i j hi hj
   exact ⟨u,hle _ _ _ hu,h1⟩
  ·have hi:=(Io he).1
   have hj':j < sz:=by rw [←hs e (Iw he)];exact (Io hj).1
   obtain ⟨u',hu',_⟩:=hx i j hi hj'
   have:=hle _ _ _ hu'
   rw [hu] at this
   injection this with this
   subst this
   exact ih i e j c u he hj hu'
 | iptr cs b off hx _ ih=>
  refine .iptr cs b off (fun j hj=>?_) fun j c u hc hu=>?_
  ·obtain ⟨u,hu,h1⟩:=hx j hj
   exact ⟨u,hle _ _ _ hu,h1⟩
  ·obtain ⟨u',hu',_⟩:=hx j (Io hc).1
   have:=hle _ _ _ hu'
   rw [hu] at this
   injection this with this
   subst this
   exact ih j c u hc hu'
 | fn f cs vs hl _ ih=>exact .fn f cs vs hl ih
 | fnB f fs cs ws vs hf _ hl _ ih0 ih=>exact .fnB f fs cs ws vs hf ih0 hl ih
 | tup cs vs hl _ ih=>exact .tup cs vs hl ih
 | new q sz l v _ hq ih=>exact .new q sz l v ih hq
def AV.im:AV→AV
 | .vec _ sz l=> .imm sz l
 | c=>c
theorem VR.im {σ:ce} {c:AV} {v:Value} (h:VR σ c v):VR σ c.im v:=by
 cases h with
 | vecN sz=>exact .imm sz [] none 0 (Nat.le_refl _) (Nat.zero_le _) (by simp) (by simp) (fun i b off j hA=>by cases hA) (fun i e b off j c u he hA=>by cases hA)
 | vec b cap sz l hc hm hs hx h=>
  refine .imm sz l _ cap hc hm hs (fun _=>⟨b,0,rfl⟩) (fun i b' off j hA hi hj=>?_) fun i e b' off j c u he hA hj hu=>?_
  ·cases hA;exact hx i j hi hj
  ·cases hA;exact h i e j c u he hj hu
 | sc v=>exact .sc v
 | agg cs vs hl h h1=>exact .agg cs vs hl h h1
 | imm sz l A cap hc hm hs ha hx h=>exact .imm sz l A cap hc hm hs ha hx h
 | iptr cs b off hx h=>exact .iptr cs b off hx h
 | fn f cs vs hl h=>exact .fn f cs vs hl h
 | fnB f fs cs ws vs hf h0 hl h=>exact .fnB f fs cs ws vs hf h0 hl h
 | tup cs vs hl h=>exact .tup cs vs hl h
 | new q sz l v h hq=>exact .new q sz l v h hq
def dx (σ:ce) (cs:List AV) (vs:List Value):Prop:=cs.length=vs.length∧∀(i:Nat) (c:AV) (u:Value),cs[i]?=some c→vs[i]?=some u→VR σ c u
theorem dx.mono {σ τ:ce} (hle:σ.le τ) {cs:List AV} {vs:List Value} (h:dx σ cs vs):dx τ cs vs:=⟨h.1,fun i c u hc hu=>(h.2 i c u hc hu).mono hle⟩
theorem dx.nil {σ:ce}:dx σ [] []:=⟨rfl,fun i c u h=>by simp at h⟩
theorem dx.cons {σ:ce} {c:AV} {v:Value} {cs:List AV} {vs:List Value} (h:VR σ c v) (hs:dx σ cs vs):dx σ (c::cs) (v::vs):=by
 refine ⟨by simp [hs.1],fun i x u hx hu=>?_⟩
 cases i with
 | zero=>simp at hx hu;subst hx;subst hu;exact h
 | succ i=>exact hs.2 i x u (by simpa using hx) (by simpa using hu)
theorem dx.inv {σ:ce} {c:AV} {cs:List AV} {vs:List Value} (h:dx σ (c::cs) vs):∃v ws,vs=v::ws∧VR σ c v∧dx σ cs ws:=by
 cases vs with
 | nil=>have:=h.1;simp at this
 | cons v ws=>exact ⟨v,ws,rfl,h.2 0 c v rfl rfl,by have:=h.1;simpa using this,fun i x u hx hu=>h.2 (i+1) x u (by simpa using hx) (by simpa using hu)⟩
theorem dx.nil_inv {σ:ce} {vs:List Value} (h:dx σ [] vs):vs=[]:=by
 have:=h.1;cases vs with
 | nil=>rfl
 | cons _ _=>simp at this
theorem VR.sc_inv {σ:ce} {v u:Value} (h:VR σ (.sc v) u):u=v:=by cases h;rfl
inductive AB where
 | box (cs:List AV) (t:TypeId)
 | vec (t sz n cap:Nat)
 | raw (q:Obj→Prop)
 | dep (q:ce→Obj→Prop) (h:∀σ τ o,σ.le τ→q σ o→q τ o)
def AB.holds (σ:ce):AB→Obj→Prop
 | .box cs t,o=>∃vs,o= .cells vs.toArray t (0,0)∧dx σ cs vs∧∀u∈vs,u.oneCell'=true
 | .vec t sz n cap,o=>∃cur:Array Value,o= .cells cur t (0,0)∧cur.size=cap * sz∧n≤cap∧cap≤maxLen
 | .raw q,o=>q o
 | .dep q _,o=>q σ o
def AB.mut:AB→Nat→Prop
 | .vec _ sz n _,off=>n * sz≤off
 | _,_=>True
theorem AB.mono {σ τ:ce} (hle:σ.le τ) {a:AB} {o:Obj} (h:a.holds σ o):a.holds τ o:=by
 cases a with
 | box cs t=>obtain ⟨vs,ho,hv,h1⟩:=h;exact ⟨vs,ho,hv.mono hle,h1⟩
 | vec t sz n cap=>exact h
 | raw q=>exact h
 | dep q hq=>exact hq _ _ _ hle h
theorem mQ {w:World} {b k:Nat} {v:Value} (h:w.cell? ⟨b,k,none⟩=some v):b < w.heap.size:=by
 unfold World.cell? at h
 refine Nat.lt_of_not_le fun hge=>?_
 rw [Array.getElem?_eq_none hge] at h
 cases h
abbrev AL:=List (Nat×AB)
structure Bs where
 w:World
 σ:ce
 X:List Nat
structure dC (B:Bs) (σ:ce) (L:AL) (w:World):Prop where
 os:w.os=B.w.os
 tape:w.tape=B.w.tape
 output:w.output=B.w.output
 size:B.w.heap.size≤w.heap.size
 old:∀k,k < B.w.heap.size→k∉B.X→w.heap[k]?=B.w.heap[k]?
 here:∀p∈L,∃o,w.heap[p.1]?=some o∧p.2.holds σ o
 mine:∀p∈L,B.w.heap.size≤p.1∨p.1∈B.X
 apart:(L.map (·.1)).Nodup
 froz:∀b off u,σ b off=some u→w.cell? ⟨b,off,none⟩=some u
 free:∀p∈L,∀off,p.2.mut off→σ p.1 off=none
 grow:B.σ.le σ
 same:∀b,b < B.w.heap.size→b∉B.X→∀off,σ b off=B.σ b off
 cold:∀b off u,(B.w.heap.size≤b∨b∈B.X)→σ b off=some u→∃(cur:Array Value) (t:TypeId),w.heap[b]?=some (.cells cur t (0,0)):=by (intro b off u hb hu;rcases hb with hb | hb;exact absurd (mQ hu) (Nat.not_lt.2 hb);cases hb)
theorem dC.lt {B:Bs} {σ:ce} {L:AL} {w:World} (h:dC B σ L w) {p:Nat×AB} (hp:p∈L):p.1 < w.heap.size:=by
 obtain ⟨o,ho,_⟩:=h.here p hp
 exact (Array.getElem?_eq_some_iff.1 ho).1
theorem dC.drew {B:Bs} {σ:ce} {L:AL} {w:World} (h:dC B σ L w) (n:Nat):dC B σ L { w with drawn:=n }:=⟨h.os,h.tape,h.output,h.size,h.old,h.here,h.mine,h.apart,h.froz,h.free,h.grow,h.same,h.cold⟩
theorem dC.sub {B:Bs} {σ:ce} {L L':AL} {w:World} (h:dC B σ L w) (hs:∀p∈L',p∈L) (hn:(L'.map (·.1)).Nodup):dC B σ L' w:=
 ⟨h.os,h.tape,h.output,h.size,h.old,fun p hp=>h.here p (hs p hp),fun p hp=>h.mine p (hs p hp),hn,h.froz,fun p hp=>h.free p (hs p hp),h.grow,h.same,h.cold⟩
theorem dC.sublist {B:Bs} {σ:ce} {L L':AL} {w:World} (h:dC B σ L w) (hs:L'.Sublist L):dC B σ L' w:=h.sub (fun _ hp=>hs.subset hp) (h.apart.sublist (hs.map _))
theorem dC.perm {B:Bs} {σ:ce} {L L':AL} {w:World} (h:dC B σ L w) (hs:L.Perm L'):dC B σ L' w:=h.sub (fun _ hp=>hs.mem_iff.2 hp) ((hs.map _).nodup_iff.1 h.apart)
theorem dC.enter {B:Bs} {σ:ce} {Lc Lf:AL} {w:World} (h:dC B σ (Lc++Lf) w):dC ⟨w,σ,Lc.map (·.1)⟩ σ Lc w:=by
 refine ⟨rfl,rfl,rfl,Nat.le_refl _,fun _ _ _=>rfl,fun p hp=>h.here p (List.mem_append_left _ hp),fun p hp=> .inr (List.mem_map_of_mem hp),?_,h.froz,fun p hp=>h.free p (List.mem_append_left _ hp),ce.le_refl _,fun _ _ _ _=>rfl,fun b off u hb hu=>?_⟩
 rotate_left
 ·rcases hb with hb | hb
  ·have h1:=mQ (h.froz _ _ _ hu)
   dsimp only at hb
   omega
  ·obtain ⟨p,hp,rfl⟩:=List.mem_map.1 hb
   exact h.cold _ _ _ (h.mine p (List.mem_append_left _ hp)) hu
 have:=h.apart
 rw [List.map_append] at this
 exact (List.nodup_append.1 this).1
theorem dC.leave {B:Bs} {σ τ:ce} {Lc Lf L':AL} {w w':World} (h:dC B σ (Lc++Lf) w) (k:dC ⟨w,σ,Lc.map (·.1)⟩ τ L' w'):dC B τ (L'++Lf) w':=by
 have hap:=h.apart
 rw [List.map_append,List.nodup_append] at hap
 obtain ⟨_,hnf,hdis⟩:=hap
 have hmc:∀b,b∈Lc.map (·.1)→B.w.heap.size≤b∨b∈B.X:=by
  intro b hb
  obtain ⟨p,hp,rfl⟩:=List.mem_map.1 hb
  exact h.mine p (List.mem_append_left _ hp)
 have hf:∀p∈Lf,p.1 < w.heap.size∧p.1∉Lc.map (·.1):=fun p hp=>⟨h.lt (List.mem_append_right _ hp),fun hm=>hdis _ hm _ (List.mem_map_of_mem hp) rfl⟩
 have hk:∀b,b < B.w.heap.size→b∉B.X→b < w.heap.size∧b∉Lc.map (·.1):=fun b hb hx=>⟨Nat.lt_of_lt_of_le hb h.size,fun hm=>by
  rcases hmc b hm with h1 | h1
  ·omega
  ·exact hx h1⟩
 refine ⟨k.os.trans h.os,k.tape.trans h.tape,k.output.trans h.output,Nat.le_trans h.size k.size,fun b hb hx=>?_,fun p hp=>?_,fun p hp=>?_,?_,k.froz,fun p hp off hm=>?_,ce.le_trans h.grow k.grow,fun b hb hx off=>?_,fun b off u hb hu=>?_⟩
 rotate_right
 ·by_cases hc:w.heap.size≤b∨b∈Lc.map (·.1)
  ·exact k.cold b off u hc hu
  ·have h1:b < w.heap.size:=Nat.lt_of_not_le fun e=>hc (.inl e)
   have h2:b∉Lc.map (·.1):=fun e=>hc (.inr e)
   have h3:=k.same b h1 h2 off
   obtain ⟨cur,t,ho⟩:=h.cold b off u hb (h3.symm.trans hu)
   exact ⟨cur,t,(k.old b h1 h2).trans ho⟩
 ·obtain ⟨h1,h2⟩:=hk b hb hx
  exact (k.old b h1 h2).trans (h.old b hb hx)
 ·rcases Il hp with hp | hp
  ·exact k.here p hp
  ·obtain ⟨o,ho,hh⟩:=h.here p (List.mem_append_right _ hp)
   obtain ⟨h1,h2⟩:=hf p hp
   exact ⟨o,(k.old p.1 h1 h2).trans ho,AB.mono k.grow hh⟩
 ·rcases Il hp with hp | hp
  ·rcases k.mine p hp with h1 | h1
   ·exact .inl (Nat.le_trans h.size h1)
   ·exact hmc _ h1
  ·exact h.mine p (List.mem_append_right _ hp)
 ·rw [List.map_append,List.nodup_append]
  refine ⟨k.apart,hnf,fun a ha b hb hab=>?_⟩
  subst hab
  obtain ⟨p,hp,hpa⟩:=List.mem_map.1 ha
  obtain ⟨q,hq,hqa⟩:=List.mem_map.1 hb
  obtain ⟨h1,h2⟩:=hf q hq
  rw [hqa] at h1 h2
  rcases k.mine p hp with h3 | h3
  ·rw [hpa] at h3;exact absurd h1 (Nat.not_lt.2 h3)
  ·rw [hpa] at h3;exact h2 h3
 ·rcases Il hp with hp | hp
  ·exact k.free p hp off hm
  ·obtain ⟨h1,h2⟩:=hf p hp
   rw [k.same p.1 h1 h2 off]
   exact h.free p (List.mem_append_right _ hp) off hm
 ·obtain ⟨h1,h2⟩:=hk b hb hx
  rw [k.same b h1 h2 off]
  exact h.same b hb hx off
abbrev cu:=List (Nat×AV)
def cw:cu→Nat→Option AV
 | [],_=>none
 | (i,v)::r,t=>bif Nat.beq i t then some v else cw r t
def bO (fr:cu):Operand→Option AV
 | .tmp t=>cw fr t
 | .const v=>some (.sc v)
 | .global g=>some (.sc (.pointer (some ⟨g,0,none⟩)))
 | .func f=>some (.sc (.func (.func f) #[] #[]))
def eB (fr:cu):List Operand→Option (List AV)
 | []=>some []
 | x::xs=>match bO fr x with
  | none=>none
  | some v=>match eB fr xs with
   | none=>none
   | some vs=>some (v::vs)
theorem cG (i:Nat) (v:AV) (fr:cu) (t:Nat):cw ((i,v)::fr) t=if i=t then some v else cw fr t:=by
 simp only [cw]
 by_cases h:i=t
 ·subst h;simp
 ·have:Nat.beq i t=false:=by
   rw [←Bool.not_eq_true,Nat.beq_eq];exact h
  simp [h,this]
structure jm (σ:ce) (nt:Nat) (D:List Deferred) (fr:cu) (a:Act):Prop where
 size:a.tmps.size=nt
 defers:a.defers=D
 look:∀t c,cw fr t=some c→VR σ c (a.tmps.getD t undef)
theorem jm.mono {σ τ:ce} (hle:σ.le τ) {nt:Nat} {D:List Deferred} {fr:cu} {a:Act} (h:jm σ nt D fr a):jm τ nt D fr a:=⟨h.size,h.defers,fun t c hc=>(h.look t c hc).mono hle⟩
theorem jm.put {σ:ce} {nt:Nat} {D:List Deferred} {fr:cu} {a:Act} {d:Nat} {c:AV} {v:Value} (h:jm σ nt D fr a) (hd:d < nt) (hv:VR σ c v):jm σ nt D ((d,c)::fr) (a.put (some d) v):=by
 refine ⟨by simp [Act.put,h.size],by simp [Act.put,h.defers],fun t u hu=>?_⟩
 rw [cG] at hu
 have hs:=h.size
 by_cases e:d=t
 ·subst e
  simp only [if_true,Option.some.injEq] at hu
  subst hu
  simpa [Act.put,hs,hd] using hv
 ·rw [if_neg e] at hu
  have:=h.look t u hu
  simp only [Act.put]
  simpa [Array.getElem?_setIfInBounds_ne,e] using this
theorem jm.eval {σ:ce} {nt:Nat} {D:List Deferred} {fr:cu} {a:Act} (h:jm σ nt D fr a) {x:Operand} {c:AV} (hx:bO fr x=some c):VR σ c (a.eval x):=by
 cases x with
 | tmp t=>exact h.look t c hx
 | const u=>simp only [bO,Option.some.injEq] at hx;subst hx;simp only [Act.eval];exact .sc _
 | global g=>simp only [bO,Option.some.injEq] at hx;subst hx;simp only [Act.eval];exact .sc _
 | func f=>simp only [bO,Option.some.injEq] at hx;subst hx;simp only [Act.eval];exact .sc _
def HB (σ:ce) (c c':AV):Prop:=∀v,VR σ c v→VR σ c' v
def lY:cu→cu→Prop
 | [],_=>True
 | (t,v)::r,fr=>cw fr t=some v∧lY r fr
theorem xL {fr' fr:cu} (h:lY fr' fr) {t:Nat} {v:AV} (hl:cw fr' t=some v):cw fr t=some v:=by
 induction fr' with
 | nil=>simp [cw] at hl
 | cons p r ih=>
  obtain ⟨i,u⟩:=p
  rw [cG] at hl
  by_cases e:i=t
  ·subst e;simp only [if_true,Option.some.injEq] at hl;subst hl;exact h.1
  ·rw [if_neg e] at hl;exact ih h.2 hl
theorem jm.weak {σ:ce} {nt:Nat} {D:List Deferred} {fr fr':cu} {a:Act} (h:jm σ nt D fr a) (hf:lY fr' fr):jm σ nt D fr' a:=⟨h.size,h.defers,fun t v hl=>h.look t v (xL hf hl)⟩
def AO (P:Program) (o:Oper) (fr:cu) (B:Bs) (L:AL) (R:AV→AL→Prop):Prop:=
 ∀σ ρ w,(∀x c,bO fr x=some c→VR σ c (ρ x))→dC B σ L w→iN P o ρ w fun v w'=>∃τ c L',σ.le τ∧VR τ c v∧dC B τ L' w'∧R c L'
def Av (P:Program) (o:Oper) (fr:cu) (u:AV):Prop:=∀σ ρ w,(∀x c,bO fr x=some c→VR σ c (ρ x))→(∀b off u,σ b off=some u→w.cell? ⟨b,off,none⟩=some u)→∃v,(execOp ρ o).run P w= .ok (.value v) w∧VR σ u v
theorem Av.ao {P:Program} {o:Oper} {fr:cu} {u:AV} {B:Bs} {L:AL} (h:Av P o fr u):AO P o fr B L (fun c L'=>c=u∧L'=L):=by
 intro σ ρ w hρ hw
 obtain ⟨v,hr,hv⟩:=h σ ρ w hρ hw.froz
 unfold iN
 rw [hr]
 exact ⟨σ,u,L,ce.le_refl _,hv,hw,rfl,rfl⟩
variable {P:Program} {r:Option Nat} {ops:Array Oper} {Q:Exit→Act→World→Prop} {nt:Nat} {D:List Deferred} {fr:cu} {B:Bs} {L:AL}
def bW (P:Program) (r:Option Nat) (ops:Array Oper) (Q:Exit→Act→World→Prop) (nt:Nat) (D:List Deferred) (rest:List Oper) (fr:cu) (B:Bs) (L:AL):Prop:=
 ∀σ a w,jm σ nt D fr a→dC B σ L w→wpListIn (Wd r) 0 P ops Q rest a w
def AX (_P:Program) (e:Exit) (Q:Exit→Act→World→Prop) (nt:Nat) (D:List Deferred) (fr:cu) (B:Bs) (L:AL):Prop:=
 ∀σ a w,jm σ nt D fr a→dC B σ L w→Q e a w
def AT (P:Program) (r:Option Nat) (c:Code) (Q:Exit→Act→World→Prop) (nt:Nat) (D:List Deferred) (fr:cu) (B:Bs) (L:AL):Prop:=
 ∀σ a w,jm σ nt D fr a→dC B σ L w→c.wpIn (Wd r) 0 P Q a w
theorem aa (h:AX P .normal Q nt D fr B L):bW P r ops Q nt D [] fr B L:=fun σ a w ha hw=>h σ a w ha hw
instance aA0:ac (bW P r ops Q nt D [] fr B L) (AX P .normal Q nt D fr B L):=⟨aa⟩
theorem lD {nt d:Nat} (hd:Nat.ble nt d=false):d < nt:=by
 rw [←Nat.not_le];intro hle;rw [←Nat.ble_eq] at hle;rw [hd] at hle;cases hle
theorem dk {d:Nat} {op:Op} {ty:TypeId} {pos:String} {af:Array Edge} {rest:List Oper} {R:AV→AL→Prop} (hd:Nat.ble nt d=false) (hn:Oper.noDefer ⟨some d,op,ty,pos,af,none⟩=true)
  (ho:AO P ⟨some d,op,ty,pos,af,none⟩ fr B L R) (h:∀c L',R c L'→bW P r ops Q nt D rest ((d,c)::fr) B L'):bW P r ops Q nt D (⟨some d,op,ty,pos,af,none⟩::rest) fr B L:=by
 intro σ a w ha hw
 unfold wpListIn
 rw [if_pos (by simp [Region.wanted])]
 exact qA hn (ho σ a.eval w (fun x c hx=>ha.eval hx) hw) fun v w' ⟨τ,c,L',h1,h2,h3,h4⟩=>h c L' h4 τ _ _ ((ha.mono h1).put (lD hd) h2) h3
theorem dX {d:Nat} {op:Op} {ty:TypeId} {pos:String} {af:Array Edge} {rest:List Oper} {u:AV} (ho:Av P ⟨some d,op,ty,pos,af,none⟩ fr u) (hd:Nat.ble nt d=false) (hn:Oper.noDefer ⟨some d,op,ty,pos,af,none⟩=true)
  (h:bW P r ops Q nt D rest ((d,u)::fr) B L):bW P r ops Q nt D (⟨some d,op,ty,pos,af,none⟩::rest) fr B L:=
 dk hd hn ho.ao fun c L' ⟨h1,h2⟩=>by subst h1;subst h2;exact h
theorem kJ {op:Op} {ty:TypeId} {pos:String} {af:Array Edge} {rest:List Oper} {R:AV→AL→Prop} (hn:Oper.noDefer ⟨none,op,ty,pos,af,none⟩=true) (ho:AO P ⟨none,op,ty,pos,af,none⟩ fr B L R)
  (h:∀c L',R c L'→bW P r ops Q nt D rest fr B L'):bW P r ops Q nt D (⟨none,op,ty,pos,af,none⟩::rest) fr B L:=by
 intro σ a w ha hw
 unfold wpListIn
 rw [if_pos (by simp [Region.wanted])]
 exact qA hn (ho σ a.eval w (fun x c hx=>ha.eval hx) hw) fun v w' ⟨τ,c,L',h1,h2,h3,h4⟩=>h c L' h4 τ _ _ (ha.mono h1) h3
theorem pO {σ:ce} {a:Act} {j dj:Nat} {b:Bool} (ha:jm σ nt D fr a) (hj:(ops[j]?).bind (·.dst)=some dj) (hb:cw fr dj=some (.sc (.bool b))):yielded ops a.tmps j=some b:=by
 have:=(ha.look dj _ hb).sc_inv
 unfold yielded
 rw [hj]
 simp only [Option.bind_some]
 rw [Array.getD_eq_getD_getElem?] at this
 cases h:a.tmps[dj]? with
 | none=>rw [h] at this;simp [undef] at this
 | some x=>rw [h] at this;simp at this;subst this;rfl
theorem pP {σ:ce} {a:Act} {j dj:Nat} (ha:jm σ nt D fr a) (hj:(ops[j]?).bind (·.dst)=some dj) (hb:cw fr dj=some (.sc undef)):yielded ops a.tmps j=none:=by
 have:=(ha.look dj _ hb).sc_inv
 unfold yielded
 rw [hj]
 simp only [Option.bind_some]
 rw [Array.getD_eq_getD_getElem?] at this
 cases h:a.tmps[dj]? with
 | none=>rfl
 | some x=>rw [h] at this;simp at this;subst this;rfl
theorem jm.shadow {σ:ce} {a:Act} {t:Nat} {v:AV} (h:jm σ nt D fr a) (hl:cw fr t=some v):jm σ nt D ((t,v)::fr) a:=
 ⟨h.size,h.defers,fun t' v' hl'=>by
  rw [cG] at hl'
  by_cases e:t=t'
  ·subst e;simp only [if_true,Option.some.injEq] at hl';subst hl';exact h.look t v hl
  ·rw [if_neg e] at hl';exact h.look t' v' hl'⟩
theorem bk {d j dj:Nat} {want b:Bool} {op:Op} {ty:TypeId} {pos:String} {af:Array Edge} {rest:List Oper} (hj:(ops[j]?).bind (·.dst)=some dj) (hb:cw fr dj=some (.sc (.bool b))) (hd:Nat.ble nt d=false)
  (yes:b=want→bW P r ops Q nt D (⟨some d,op,ty,pos,af,none⟩::rest) ((dj,.sc (.bool want))::fr) B L) (no:b= !want→bW P r ops Q nt D rest ((d,.sc undef)::(dj,.sc (.bool (!want)))::fr) B L):
  bW P r ops Q nt D (⟨some d,op,ty,pos,af,some (j,want)⟩::rest) fr B L:=by
 intro σ a w ha hw
 have hy:=pO (ops:=ops) ha hj hb
 unfold wpListIn
 by_cases e:b=want
 ·have h1:=yes e σ a w (by subst e;exact ha.shadow hb) hw
  unfold wpListIn at h1
  rw [if_pos (by simp [Region.wanted])] at h1
  rw [if_pos (by simp [Region.wanted,hy,e])]
  exact h1
 ·rw [if_neg (by simp [Region.wanted,hy,e])]
  have e':b= !want:=by cases b <;> cases want <;> simp_all
  exact ⟨fun _ _=>trivial,no e' σ _ _ ((by subst e';exact ha.shadow hb:jm σ nt D ((dj,.sc (.bool (!want)))::fr) a).put (lD hd) (.sc undef)) hw⟩
theorem aI {j dj:Nat} {d:Option Nat} {want:Bool} {op:Op} {ty:TypeId} {pos:String} {af:Array Edge} {rest:List Oper} (hj:(ops[j]?).bind (·.dst)=some dj) (hb:cw fr dj=some (.sc (.bool want)))
  (yes:bW P r ops Q nt D (⟨d,op,ty,pos,af,none⟩::rest) fr B L):bW P r ops Q nt D (⟨d,op,ty,pos,af,some (j,want)⟩::rest) fr B L:=by
 intro σ a w ha hw
 have hy:=pO (ops:=ops) ha hj hb
 have h1:=yes σ a w ha hw
 unfold wpListIn at h1 ⊢
 rw [if_pos (by simp [Region.wanted])] at h1
 rw [if_pos (by simp [Region.wanted,hy])]
 exact h1
theorem HV {j dj:Nat} {d:Option Nat} {want:Bool} {op:Op} {ty:TypeId} {pos:String} {af:Array Edge} {rest:List Oper} (zz:(ops[j]?).bind (·.dst)=some dj∧cw fr dj=some (.sc (.bool want))) (yes:bW P r ops Q nt D (⟨d,op,ty,pos,af,none⟩::rest) fr B L):bW P r ops Q nt D (⟨d,op,ty,pos,af,some (j,want)⟩::rest) fr B L:=aI zz.1 zz.2 yes
theorem aR {d j dj:Nat} {want b:Bool} {op:Op} {ty:TypeId} {pos:String} {af:Array Edge} {rest:List Oper} (hj:(ops[j]?).bind (·.dst)=some dj) (hb:cw fr dj=some (.sc (.bool b))) (hw:(b==want)=false) (hd:Nat.ble nt d=false)
  (no:bW P r ops Q nt D rest ((d,.sc undef)::fr) B L):bW P r ops Q nt D (⟨some d,op,ty,pos,af,some (j,want)⟩::rest) fr B L:=by
 intro σ a w ha hw'
 have hy:=pO (ops:=ops) ha hj hb
 unfold wpListIn
 rw [if_neg (by simp only [Region.wanted,hy];intro h;cases b <;> cases want <;> simp_all)]
 exact ⟨fun _ _=>trivial,no σ _ _ (ha.put (lD hd) (.sc undef)) hw'⟩
theorem HW {d j dj:Nat} {want b:Bool} {op:Op} {ty:TypeId} {pos:String} {af:Array Edge} {rest:List Oper} (zz:(ops[j]?).bind (·.dst)=some dj∧cw fr dj=some (.sc (.bool b))∧(b==want)=false∧Nat.ble nt d=false) (no:bW P r ops Q nt D rest ((d,.sc undef)::fr) B L):bW P r ops Q nt D (⟨some d,op,ty,pos,af,some (j,want)⟩::rest) fr B L:=aR zz.1 zz.2.1 zz.2.2.1 zz.2.2.2 no
theorem dN {d j dj:Nat} {want:Bool} {op:Op} {ty:TypeId} {pos:String} {af:Array Edge} {rest:List Oper} (hj:(ops[j]?).bind (·.dst)=some dj) (hb:cw fr dj=some (.sc undef)) (hd:Nat.ble nt d=false)
  (no:bW P r ops Q nt D rest ((d,.sc undef)::fr) B L):bW P r ops Q nt D (⟨some d,op,ty,pos,af,some (j,want)⟩::rest) fr B L:=by
 intro σ a w ha hw
 have hy:=pP (ops:=ops) ha hj hb
 unfold wpListIn
 rw [if_neg (by simp [Region.wanted,hy])]
 exact ⟨fun _ _=>trivial,no σ _ _ (ha.put (lD hd) (.sc undef)) hw⟩
theorem tR {rest:List Oper} {fr':cu} {L':AL} (hf:lY fr' fr) (hL:∀σ w,dC B σ L w→dC B σ L' w) (h:bW P r ops Q nt D rest fr' B L'):bW P r ops Q nt D rest fr B L:=fun σ a w ha hw=>h σ a w (ha.weak hf) (hL σ w hw)
theorem jT {c:Code} {fr':cu} {L':AL} (hf:lY fr' fr) (hL:∀σ w,dC B σ L w→dC B σ L' w) (h:AT P r c Q nt D fr' B L'):AT P r c Q nt D fr B L:=fun σ a w ha hw=>h σ a w (ha.weak hf) (hL σ w hw)
theorem a7 {id:Nat} {l:List Oper} (h:bW P r l.toArray Q nt D l fr B L):AT P r (.region id l.toArray false) Q nt D fr B L:=fun σ a w ha hw=>wpIn_region_lit (h σ a w ha hw)
instance aA1 {id:Nat} {l:List Oper}:ac (AT P r (.region id l.toArray false) Q nt D fr B L) (bW P r l.toArray Q nt D l fr B L):=⟨a7⟩
theorem ah {x y:Code} (h:AT P r x (Kt P r y Q) nt D fr B L):AT P r (.seq x y) Q nt D fr B L:=fun σ a w ha hw=>wpIn_seq (h σ a w ha hw)
instance aA2 {x y:Code}:ac (AT P r (.seq x y) Q nt D fr B L) (AT P r x (Kt P r y Q) nt D fr B L):=⟨ah⟩
theorem a8 {y:Code} (h:AT P r y Q nt D fr B L):AX P .normal (Kt P r y Q) nt D fr B L:=fun σ a w ha hw=>h σ a w ha hw
instance aA3 {y:Code}:ac (AX P .normal (Kt P r y Q) nt D fr B L) (AT P r y Q nt D fr B L):=⟨a8⟩
theorem aF {y:Code} (h:AX P .ret Q nt D fr B L):AX P .ret (Kt P r y Q) nt D fr B L:=fun σ a w ha hw=>h σ a w ha hw
instance aA4 {y:Code}:ac (AX P .ret (Kt P r y Q) nt D fr B L) (AX P .ret Q nt D fr B L):=⟨aF⟩
theorem av {y:Code} {id:Nat} (h:AX P (.exit id) Q nt D fr B L):AX P (.exit id) (Kt P r y Q) nt D fr B L:=fun σ a w ha hw=>h σ a w ha hw
instance aA5 {y:Code} {id:Nat}:ac (AX P (.exit id) (Kt P r y Q) nt D fr B L) (AX P (.exit id) Q nt D fr B L):=⟨av⟩
theorem aH {id:Nat} (h:AX P .normal Q nt D fr B L):AX P .normal (Exit.inBlock id Q) nt D fr B L:=fun σ a w ha hw=>h σ a w ha hw
instance aA6 {id:Nat}:ac (AX P .normal (Exit.inBlock id Q) nt D fr B L) (AX P .normal Q nt D fr B L):=⟨aH⟩
theorem aY {id:Nat} (h:AX P .ret Q nt D fr B L):AX P .ret (Exit.inBlock id Q) nt D fr B L:=fun σ a w ha hw=>h σ a w ha hw
instance aA7 {id:Nat}:ac (AX P .ret (Exit.inBlock id Q) nt D fr B L) (AX P .ret Q nt D fr B L):=⟨aY⟩
theorem aA {id:Nat} (h:AX P .normal Q nt D fr B L):AX P (.exit id) (Exit.inBlock id Q) nt D fr B L:=fun σ a w ha hw=>by
 have:=h σ a w ha hw
 simpa [Exit.inBlock] using this
instance aA8 {id:Nat}:ac (AX P (.exit id) (Exit.inBlock id Q) nt D fr B L) (AX P .normal Q nt D fr B L):=⟨aA⟩
theorem fQ {id id':Nat} (hne:Nat.beq id' id=false) (h:AX P (.exit id') Q nt D fr B L):AX P (.exit id') (Exit.inBlock id Q) nt D fr B L:=fun σ a w ha hw=>by
 have:=h σ a w ha hw
 have hne':id'≠id:=by intro e;subst e;simp at hne
 simpa [Exit.inBlock,hne'] using this
theorem ak {id:Nat} {c:Code} (h:AT P r c (Exit.inBlock id Q) nt D fr B L):AT P r (.block id c) Q nt D fr B L:=fun σ a w ha hw=>wpIn_block (h σ a w ha hw)
theorem aq (h:AX P .normal Q nt D fr B L):AT P r .skip Q nt D fr B L:=fun σ a w ha hw=>wpIn_skip (h σ a w ha hw)
instance aA9:ac (AT P r .skip Q nt D fr B L) (AX P .normal Q nt D fr B L):=⟨aq⟩
theorem au (h:AX P .ret Q nt D fr B L):AT P r .ret Q nt D fr B L:=fun σ a w ha hw=>wpIn_ret (h σ a w ha hw)
instance aB0:ac (AT P r .ret Q nt D fr B L) (AX P .ret Q nt D fr B L):=⟨au⟩
theorem aN {id:Nat} (h:AX P (.exit id) Q nt D fr B L):AT P r (.exit id) Q nt D fr B L:=fun σ a w ha hw=>wpIn_exit (h σ a w ha hw)
instance aB1 {id:Nat}:ac (AT P r (.exit id) Q nt D fr B L) (AX P (.exit id) Q nt D fr B L):=⟨aN⟩
theorem ay {c:Operand} {x y:Code} {b:Bool} (hc:bO fr c=some (.sc (.bool b))) (ht:b=true→AT P r x Q nt D fr B L) (hf:b=false→AT P r y Q nt D fr B L):AT P r (.cond c x y) Q nt D fr B L:=
 fun σ a w ha hw=>wpIn_cond_split (ha.eval hc).sc_inv (fun e=>ht e σ a w ha hw) (fun e=>hf e σ a w ha hw)
theorem CT {α:Type} {c:Code} (Inv:α→cu) (J:α→AL→Prop) (μ:α→Nat) (x0:α) (L0:AL) (hf:lY (Inv x0) fr) (hJ:J x0 L0) (hL:∀σ w,dC B σ L w→dC B σ L0 w)
  (hb:∀x L,J x L→AT P r c (Exit.then (fun a w=>∃σ x' L',jm σ nt D (Inv x') a∧J x' L'∧dC B σ L' w∧μ x' < μ x) Q) nt D (Inv x) B L):AT P r (.loop c) Q nt D fr B L:=by
 intro σ a w ha hw
 classical
 let G:Nat→Act→World→Prop:=fun m a w=>∃σ x L,jm σ nt D (Inv x) a∧J x L∧dC B σ L w∧μ x=m
 let M:Act→World→Nat:=fun a w=>if h:∃m,G m a w∧∀m',G m' a w→m≤m' then h.choose else 0
 have least:∀a w,(∃m,G m a w)→G (M a w) a w∧∀m',G m' a w→M a w≤m':=by
  rintro a w ⟨m0,hg0⟩
  have hex:∃m,G m a w∧∀m',G m' a w→m≤m':=by
   have:∀k,∀m,m≤k→G m a w→∃m,G m a w∧∀m',G m' a w→m≤m':=by
    intro k
    induction k with
    | zero=>intro m hm hg;exact ⟨m,hg,fun m' _=>by omega⟩
    | succ k ih=>
     intro m hm hg
     by_cases h:∃m',m' < m∧G m' a w
     ·obtain ⟨m',hlt,hg'⟩:=h
      exact ih m' (by omega) hg'
     ·exact ⟨m,hg,fun m' hg'=>by
       rcases Nat.lt_or_ge m' m with hlt | hge
       ·exact absurd ⟨m',hlt,hg'⟩ h
       ·exact hge⟩
   exact this m0 m0 (Nat.le_refl _) hg0
  have hM:M a w=hex.choose:=dif_pos hex
  rw [hM];exact hex.choose_spec
 refine wpIn_loop (fun a w=>∃m,G m a w) M ⟨_,σ,x0,L0,ha.weak hf,hJ,hL σ w hw,rfl⟩ ?_
 intro a w hI
 obtain ⟨⟨σ',x,L',hx,hj,hst,hm⟩,_⟩:=least a w hI
 refine wpIn_mono (hb x L' hj σ' a w hx hst) ?_
 intro e a' w' hq
 cases e with
 | normal=>
  obtain ⟨τ,x',L2,hx',hj',hst',hlt⟩:=hq
  have hg:G (μ x') a' w':=⟨τ,x',L2,hx',hj',hst',rfl⟩
  refine ⟨⟨_,hg⟩,?_⟩
  have:=(least a' w' ⟨_,hg⟩).2 (μ x') hg
  omega
 | _=>exact hq
theorem An {α:Type} {Inv:α→cu} {J:α→AL→Prop} {μ:α→Nat} {x:α} (x':α) (L':AL) (hf:lY (Inv x') fr) (hJ:J x' L') (hL:∀σ w,dC B σ L w→dC B σ L' w) (hm:μ x' < μ x):
  AX P .normal (Exit.then (fun a w=>∃σ x' L',jm σ nt D (Inv x') a∧J x' L'∧dC B σ L' w∧μ x' < μ x) Q) nt D fr B L:=
 fun σ _ _ ha hw=>⟨σ,x',L',ha.weak hf,hJ,hL _ _ hw,hm⟩
def mL:Nat→List AV→cu
 | _,[]=>[]
 | k,v::vs=>(k,v)::mL (k+1) vs
theorem gP:∀(vs:List AV) (k t:Nat) (v:AV),cw (mL k vs) t=some v→k≤t∧vs[t - k]?=some v
 | [],_,_,_,h=>by simp [mL,cw] at h
 | u::vs,k,t,v,h=>by
  simp only [mL,cG] at h
  by_cases e:k=t
  ·subst e;simp at h;subst h;simp
  ·rw [if_neg e] at h
   obtain ⟨h1,h2⟩:=gP vs (k+1) t v h
   exact ⟨by omega,by rw [show t - k=(t - (k+1))+1 by omega,List.getElem?_cons_succ];exact h2⟩
def j8 (B:Bs) (Post:AV→AL→Prop):Ending→World→Prop:=fun e w'=>∃v τ c L',e= .returned v∧VR τ c v∧dC B τ L' w'∧Post c L'
def AC (P:Program) (f:FuncId) (args:List AV) (L:AL) (Post:AV→AL→Prop):Prop:=∀σ w vs,dx σ args vs→dC ⟨w,σ,L.map (·.1)⟩ σ L w→Calls P f vs.toArray w (j8 ⟨w,σ,L.map (·.1)⟩ Post)
def bV (P:Program) (f:FuncId) (args:List AV) (u:AV):Prop:=AC P f args [] fun c _=>c=u
theorem j8.mono {B:Bs} {Post Post':AV→AL→Prop} (h:∀c L',Post c L'→Post' c L') {e:Ending} {w:World} (k:j8 B Post e w):j8 B Post' e w:=by
 obtain ⟨v,τ,c,L',h1,h2,h3,h4⟩:=k
 exact ⟨v,τ,c,L',h1,h2,h3,h _ _ h4⟩
theorem AC.mono {f:FuncId} {args:List AV} {Post Post':AV→AL→Prop} (h:AC P f args L Post) (k:∀c L',Post c L'→Post' c L'):AC P f args L Post':=fun σ w vs hv hs=>(h σ w vs hv hs).mono fun _ _ hr=>hr.mono k
theorem aS {f:FuncId} {fn:Func} {c:Code} {args:List AV} {Post:AV→AL→Prop} (hf:P.funcs[f]?=some fn) (hb:fn.body=some c) (hn:fn.ntmps=nt) (hs:Nat.ble args.length nt=true)
  (h:∀B,AT P none c (bodyPost P fn (j8 B Post)) nt [] (mL 0 args) B L):AC P f args L Post:=by
 intro σ w vs hv hst
 have hs':args.length≤nt:=by simpa [Nat.ble_eq] using hs
 have hl:=hv.1
 refine (callsIn_wide (n:=0)).1 (callsIn_of_wp hf hb trivial (h _ σ _ w ⟨?_,rfl,?_⟩ hst))
 ·simp [hn];omega
 ·intro t v hlk
  obtain ⟨_,h2⟩:=gP args 0 t v hlk
  simp only [Nat.sub_zero] at h2
  have hlt:t < vs.length:=by have:=(Io h2).1;omega
  simp only [Array.getD_eq_getD_getElem?]
  rw [Array.getElem?_append_left (by simpa using hlt)]
  have:=hv.2 t v vs[t] h2 (Iz hlt)
  simpa [hlt] using this
theorem aD {fn:Func} {Post:AV→AL→Prop} {t:Tmp} {c:AV} (hr:fn.results=#[.tmp t]) (hv:cw fr t=some c) (h:Post c L):AX P .ret (bodyPost P fn (j8 B Post)) nt [] fr B L:=
 fun σ a w ha hw=>⟨ha.defers,_,results_tmp hr _ _ _,_,σ,c,L,rfl,ha.look t c hv,hw,h⟩
theorem HS {fn:Func} {Post:AV→AL→Prop} {t:Tmp} {c:AV} (zz:fn.results=#[.tmp t]∧cw fr t=some c) (h:Post c L):AX P .ret (bodyPost P fn (j8 B Post)) nt [] fr B L:=aD zz.1 zz.2 h
theorem HT {fn:Func} {Post:AV→AL→Prop} {t:Tmp} {c:AV} (zz:fn.results=#[.tmp t]∧cw fr t=some c∧Post c L):AX P .ret (bodyPost P fn (j8 B Post)) nt [] fr B L:=aD zz.1 zz.2.1 zz.2.2
theorem be {fn:Func} {Post:AV→AL→Prop} {t u:Tmp} {c d:AV} (hr:fn.results=#[.tmp t,.tmp u]) (hv:cw fr t=some c) (hx:cw fr u=some d) (h:Post (.tup [c,d]) L):AX P .ret (bodyPost P fn (j8 B Post)) nt [] fr B L:=
 fun σ a w ha hw=>⟨ha.defers,_,results_tmp2 hr _ _ _,_,σ,.tup [c,d],L,rfl,.tup [c,d] [_,_] rfl (dx.cons (ha.look t c hv) (dx.cons (ha.look u d hx) dx.nil)).2,hw,h⟩
theorem HX {fn:Func} {Post:AV→AL→Prop} {t u:Tmp} {c d:AV} (zz:fn.results=#[.tmp t,.tmp u]∧cw fr t=some c∧cw fr u=some d) (h:Post (.tup [c,d]) L):AX P .ret (bodyPost P fn (j8 B Post)) nt [] fr B L:=be zz.1 zz.2.1 zz.2.2 h
theorem dY {fn:Func} {Post:AV→AL→Prop} (hr:fn.results=#[]) (h:Post (.tup []) L):AX P .normal (bodyPost P fn (j8 B Post)) nt [] fr B L:=
 fun σ a w ha hw=>⟨ha.defers,_,results_none hr _ _ _,_,σ,.tup [],L,rfl,.tup [] [] rfl (fun i c u h=>by simp at h),hw,h⟩
theorem CW {fn:Func} {Post:AV→AL→Prop} (hr:fn.results=#[]) (h:Post (.tup []) L):AX P .ret (bodyPost P fn (j8 B Post)) nt [] fr B L:=
 fun σ a w ha hw=>⟨ha.defers,_,results_none hr _ _ _,_,σ,.tup [],L,rfl,.tup [] [] rfl (fun i c u h=>by simp at h),hw,h⟩
end Go.Proofs.YtjjpkibjffmceaaGreat
namespace Go.Proofs.YtjjpkibjffmceaaGreat
open Go.RowKit
inductive TK where
 | int (k:IntKind) | bool | str | slice (e sz by_:Nat) | struct (offs:List (Nat×Nat×Bool)) | arr (n e sz:Nat) | other
structure TI where
 k:TK
 size:Nat
 zero:List Value
def xF:Value→Value→Bool
 | .int k n,.int k' n'=>decide (k=k') && decide (n=n')
 | .bool b,.bool b'=>b==b'
 | .string s,.string s'=>decide (s.data=#[]∧s'.data=#[])
 | .pointer none,.pointer none=>true
 | .slice none 0 0,.slice none 0 0=>true
 | .map none,.map none=>true
 | .chan none,.chan none=>true
 | .nilFunc,.nilFunc=>true
 | .nilIface,.nilIface=>true
 | _,_=>false
theorem r6 {v u:Value} (h:xF v u=true):v=u:=by
 unfold xF at h
 split at h <;> first | rfl | cases h | skip
 ·simp only [Bool.and_eq_true,decide_eq_true_eq] at h;rw [h.1,h.2]
 ·simp only [beq_iff_eq] at h;rw [h]
 ·rename_i s s'
  simp only [decide_eq_true_eq] at h
  cases s;cases s';simp_all
def tw:List Value→List Value→Bool
 | [],[]=>true
 | v::vs,u::us=>xF v u && tw vs us
 | _,_=>false
theorem lq:∀{vs us:List Value},tw vs us=true→vs=us
 | [],[],_=>rfl
 | v::vs,u::us,h=>by
  simp only [tw,Bool.and_eq_true] at h
  rw [r6 h.1,lq h.2]
 | [],_::_,h=>by cases h
 | _::_,[],h=>by cases h
def oZ (P:Program) (t n:Nat):Bool:=match P.info? t with | some i=>Nat.beq i.size n | none=>false
def CO (P:Program) (t:Nat) (b:Bool):Bool:=match P.underlying t with
 | some (.struct _)=>b | some (.array _ _)=>b | some _=> !b | none=>false
def lz (P:Program):List Field→List (Nat×Nat×Bool)→Bool
 | [],[]=>true
 | f::fs,(o,s,b)::r=>Nat.beq f.offset o && oZ P f.type s && !Nat.beq s 0 && CO P f.type b && lz P fs r
 | _,_=>false
def zD (P:Program) (t:Nat) (ti:TI):Bool:=oZ P t ti.size && (match P.info? t with | some i=>(match i.zero with | some z=>tw z.cells.toList ti.zero | none=>false) | none=>false) &&
 match P.underlying t with
 | some (.int k)=>(match ti.k with | .int k'=>decide (k=k') | _=>false) && Nat.beq ti.size 1
 | some .bool=>(match ti.k with | .bool=>true | _=>false) && Nat.beq ti.size 1
 | some .string=>(match ti.k with | .str=>true | _=>false) && Nat.beq ti.size 1
 | some (.slice e)=>(match ti.k with | .slice e' sz by_=>Nat.beq e e' && !Nat.beq sz 0 && (match P.info? e with | some i=>Nat.beq i.size sz && Nat.beq i.bytes by_ && (match i.zero with | some z=>Nat.beq z.cells.size sz | none=>false) | none=>false) | _=>false) && Nat.beq ti.size 1
 | some (.struct fs)=>(match ti.k with | .struct offs=>lz P fs.toList offs | _=>false)
 | some (.array n e)=>(match ti.k with | .arr n' e' sz=>Nat.beq n n' && Nat.beq e e' && oZ P e sz | _=>false)
 | some _=>(match ti.k with | .other=>true | _=>false) && Nat.beq ti.size 1
 | none=>false
abbrev TT:=List (Option TI)
def dP:TT→Nat→Option TI
 | [],_=>none
 | x::_,0=>x
 | _::r,n+1=>dP r n
def H2 (P:Program):Nat→TT→Bool
 | _,[]=>true
 | t,x::r=>(match x with | some ti=>zD P t ti | none=>true) && H2 P (t+1) r
structure fp (P:Program) (tt:TT):Prop where
 ok:∀t ti,dP tt t=some ti→zD P t ti=true
theorem FP {P:Program} {tt:TT} (h:H2 P 0 tt=true):fp P tt:=by
 refine ⟨?_⟩
 have:∀(tt:TT) (k t:Nat) (ti:TI),H2 P k tt=true→dP tt t=some ti→zD P (k+t) ti=true:=by
  intro tt
  induction tt with
  | nil=>intro k t ti _ h;simp [dP] at h
  | cons x r ih=>
   intro k t ti h hl
   simp only [H2,Bool.and_eq_true] at h
   cases t with
   | zero=>simp only [dP] at hl;subst hl;exact h.1
   | succ t=>rw [show k+(t+1)=(k+1)+t by omega];exact ih (k+1) t ti h.2 hl
 intro t ti hl
 have:=this tt 0 t ti h hl
 rwa [Nat.zero_add] at this
theorem mW {P:Program}:∀(fs:List Field) (r:List (Nat×Nat×Bool)) (f:Nat) (o s:Nat) (b:Bool),lz P fs r=true→r[f]?=some (o,s,b)→∃fl,fs[f]?=some fl∧fl.offset=o∧(P.info? fl.type).map (·.size)=some s∧s≠0∧CO P fl.type b=true
 | [],[],f,o,s,b,_,h=>by simp at h
 | x::fs,(o',s',b')::r,f,o,s,b,h,hr=>by
  simp only [lz,Bool.and_eq_true,Nat.beq_eq,Bool.not_eq_true'] at h
  obtain ⟨⟨⟨⟨h1,h2⟩,h3⟩,h4⟩,h5⟩:=h
  cases f with
  | zero=>
   simp only [List.getElem?_cons_zero,Option.some.injEq,Prod.mk.injEq] at hr
   obtain ⟨rfl,rfl,rfl⟩:=hr
   refine ⟨x,rfl,h1,?_,Nat.ne_of_beq_eq_false h3,h4⟩
   unfold oZ at h2
   split at h2
   ·rename_i i hi;rw [Nat.beq_eq] at h2;rw [hi];simp [h2]
   ·cases h2
  | succ f=>exact mW fs r f o s b h5 hr
 | [],_::_,f,o,s,b,h,_=>by cases h
 | _::_,[],f,o,s,b,h,_=>by cases h
section
variable {P:Program} {tt:TT} (ok:fp P tt) {t s:Nat} {ti:TI}
include ok
theorem fp.size (h:dP tt t=some ti):(P.info? t).map (·.size)=some ti.size:=by
 have:=ok.ok t ti h
 simp only [zD,Bool.and_eq_true,oZ] at this
 cases hq:P.info? t with
 | none=>rw [hq] at this;simp at this
 | some i=>rw [hq] at this;simp only [Nat.beq_eq] at this;simp [this.1.1]
theorem fp.isSl {e sz by_:Nat} (h:dP tt t=some ti) (hk:ti.k= .slice e sz by_):oC P t e sz by_∧0 < sz:=by
 have:=ok.ok t ti h
 simp only [zD,Bool.and_eq_true] at this
 obtain ⟨_,h2⟩:=this
 rw [hk] at h2
 split at h2 <;> simp at h2
 rename_i e' hu
 obtain ⟨⟨⟨rfl,h0⟩,h3⟩,_⟩:=h2
 split at h3
 ·rename_i i hi
  simp at h3
  split at h3
  ·rename_i z hz
   simp at h3
   exact ⟨⟨hu,i,z,hi,h3.1.1,h3.1.2,hz,h3.2⟩,Nat.pos_of_ne_zero fun e=>by rw [e] at h0;simp at h0⟩
  ·simp at h3
 ·simp at h3
def TK.agg:TK→Bool | .struct _=>true | .arr _ _ _=>true | _=>false
theorem fp.sc (h:dP tt t=some ti) (hk:ti.k.agg=false):CA P t:=by
 have hs:=ok.size h
 have:=ok.ok t ti h
 simp only [zD,Bool.and_eq_true] at this
 obtain ⟨_,h2⟩:=this
 have h1:ti.size=1∧∃d,P.underlying t=some d∧(match d with | .struct _ | .array _ _=>true | _=>false)=false:=by
  split at h2
  all_goals first
   | (simp only [Bool.and_eq_true,Nat.beq_eq] at h2;rename_i hu;exact ⟨h2.2,_,hu,rfl⟩)
   | (cases hq:ti.k <;> rw [hq] at h2 hk <;> simp_all [TK.agg];done)
   | (simp only [Bool.and_eq_true,Nat.beq_eq] at h2;rename_i d _ _ _ _ _ _ hu;refine ⟨h2.2,d,hu,?_⟩;cases d <;> simp_all)
   | (cases h2)
 obtain ⟨h1,d,hu,hd⟩:=h1
 refine ⟨fun w=>?_,by rw [hs,h1]⟩
 simp only [isAgg,Sem.run_bind,run_underlying hu,Result.andThen]
 cases d <;> first | rfl | (simp at hd)
theorem fp.ag (h:dP tt t=some ti) (hk:ti.k.agg=true):Ek P t ti.size:=by
 have hs:=ok.size h
 have:=ok.ok t ti h
 simp only [zD,Bool.and_eq_true] at this
 obtain ⟨_,h2⟩:=this
 refine ⟨fun w=>?_,hs⟩
 split at h2
 all_goals first
  | (rename_i hu;simp only [isAgg,Sem.run_bind,run_underlying hu,Result.andThen];rfl)
  | (cases hq:ti.k <;> rw [hq] at h2 hk <;> simp_all [TK.agg];done)
  | (cases h2)
theorem fp.str (h:dP tt t=some ti) (hk:ti.k= .str):CB P t:=by
 have:=ok.ok t ti h
 simp only [zD,Bool.and_eq_true] at this
 obtain ⟨_,h2⟩:=this
 rw [hk] at h2
 split at h2 <;> simp at h2
 rename_i hu
 exact ⟨hu⟩
theorem fp.int {k:IntKind} (h:dP tt t=some ti) (hk:ti.k= .int k):Cz P t k:=by
 have:=ok.ok t ti h
 simp only [zD,Bool.and_eq_true] at this
 obtain ⟨_,h2⟩:=this
 rw [hk] at h2
 split at h2 <;> simp at h2
 rename_i hu
 obtain ⟨rfl,_⟩:=h2
 exact ⟨hu⟩
theorem fp.zero (h:dP tt t=some ti):CZ P t ti.zero:=by
 have:=ok.ok t ti h
 simp only [zD,Bool.and_eq_true] at this
 obtain ⟨⟨_,h2⟩,_⟩:=this
 split at h2
 ·rename_i i hi
  split at h2
  ·rename_i z hz
   refine ⟨z,?_,fun w=>by simp [zeroValue,typeInfo,hi,hz]⟩
   rw [←lq h2]
  ·cases h2
 ·cases h2
theorem fp.fd {offs:List (Nat×Nat×Bool)} {f o z:Nat} {b:Bool} (h:dP tt s=some ti) (hk:ti.k= .struct offs) (hf:offs[f]?=some (o,z,b)):H3 P s f o∧∃fl fs,P.underlying s=some (.struct fs)∧fs[f]?=some fl∧fl.offset=o∧(P.info? fl.type).map (·.size)=some z∧CO P fl.type b=true:=by
 have:=ok.ok s ti h
 simp only [zD,Bool.and_eq_true] at this
 obtain ⟨_,h2⟩:=this
 rw [hk] at h2
 split at h2 <;> simp at h2
 rename_i fs hu
 obtain ⟨fl,h3,h4,h5,h6,h7⟩:=mW _ _ f o z b h2 hf
 have h3':fs[f]?=some fl:=by simpa using h3
 refine ⟨⟨fun a w=>?_⟩,fl,fs,hu,h3',h4,h5,h7⟩
 cases hq:P.info? fl.type with
 | none=>rw [hq] at h5;cases h5
 | some i=>
  rw [hq] at h5
  simp only [Option.map_some,Option.some.injEq] at h5
  have hne:¬i.size=0:=by omega
  simp [Instr.fieldAt,run_underlying hu,h3',Instr.sureAddr,fieldPlace,sizeOf,typeInfo,hq,hne,h4]
end
end Go.Proofs.YtjjpkibjffmceaaGreat
