/-
  Steps that find their own facts.
-/
import Derived.Test.YtpmdfoaadejmkaaGreatDoorM04
namespace Go.Proofs.YtpmdfoaadejmkaaGreatDoor
open Go.RowKit
section
variable {P:Program} {r:Option Nat} {ops:Array Oper} {Q:Exit→Act→World→Prop} {nt:Nat} {D:List Deferred} {fr:bT} {B:Bs} {L:AL} {rest:List Oper}
def Gl (tt:TT) (nt:Nat):List Oper→bT→List Oper×bT
 | [],fr=>([],fr)
 | o::rest,fr=>match o.guard with
  | some _=>(o::rest,fr)
  | none=>match o.dst with
   | none=>(o::rest,fr)
   | some d=>match rU tt fr o.op with
    | none=>(o::rest,fr)
    | some u=>bif Nat.ble nt d then (o::rest,fr) else Gl tt nt rest ((d,u)::fr)
theorem tf {tt:TT} (ok:eu P tt):∀(l:List Oper) (fr:bT) {rest':List Oper} {fr':bT},Gl tt nt l fr=(rest',fr')→br P r ops Q nt D rest' fr' B L→br P r ops Q nt D l fr B L
 | [],fr,_,_,h,hn=>by cases h;exact hn
 | o::rest,fr,rest',fr',h,hn=>by
  obtain ⟨dst,op,ty,pos,af,g⟩:=o
  simp only [Gl] at h
  cases g with
  | some _=>cases h;exact hn
  | none=>
   cases dst with
   | none=>cases h;exact hn
   | some d=>
    simp only at h
    cases hs:rU tt fr op with
    | none=>rw [hs] at h;cases h;exact hn
    | some u=>
     rw [hs] at h
     cases hb:Nat.ble nt d with
     | true=>rw [hb] at h;cases h;exact hn
     | false=>
      rw [hb] at h
      have hnd:Oper.noDefer ⟨some d,op,ty,pos,af,none⟩=true:=by
       cases op <;> first | rfl | (simp [rU,zq] at hs)
      exact ci (kZ ok hs) hb hnd (tf ok rest _ h hn)
end
section
variable {P:Program} {tt:TT} {r:Option Nat} {ops:Array Oper} {Q:Exit→Act→World→Prop} {nt:Nat} {D:List Deferred} {fr fr':bT} {B:Bs} {L:AL} {rest rest':List Oper}
variable {d:Nat} {ty t t':TypeId} {pos:String} {af:Array Edge} {g:Option (Nat×Bool)} {x y z c:Operand} {u:AV}
theorem a8 (ok:eu P tt) {op:Op} (_h1:rU tt fr op=some u) (h:Gl tt nt (⟨some d,op,ty,pos,af,none⟩::rest) fr=(rest',fr')) (hn:br P r ops Q nt D rest' fr' B L):br P r ops Q nt D (⟨some d,op,ty,pos,af,none⟩::rest) fr B L:=tf ok _ _ h hn
theorem LG (ok:eu P tt) {op:Op} (zz:rU tt fr op=some u∧Gl tt nt (⟨some d,op,ty,pos,af,none⟩::rest) fr=(rest',fr')) (hn:br P r ops Q nt D rest' fr' B L):br P r ops Q nt D (⟨some d,op,ty,pos,af,none⟩::rest) fr B L:=a8 ok zz.1 zz.2 hn
theorem aU {op:BinOp} (h:br P r ops Q nt D (⟨some d,.binOp op t x y t',ty,pos,af,none⟩::rest) fr B L):br P r ops Q nt D (⟨some d,.binOp op t x y t',ty,pos,af,none⟩::rest) fr B L:=h
theorem aT {op:BinOp} (h:br P r ops Q nt D rest ((d,u)::fr) B L) (ho:Av P ⟨some d,.binOp op t x y t',ty,pos,af,none⟩ fr u:=by first | exact ym rfl rfl (by omega) | exact yw rfl rfl (by omega) | exact yr rfl rfl (by omega)) (hd:Nat.ble nt d=false:=by rfl):br P r ops Q nt D (⟨some d,.binOp op t x y t',ty,pos,af,none⟩::rest) fr B L:=ci ho hd rfl h
def kr (tt:TT) (t:Nat):Option (Nat×Nat×Nat):=match dw tt t with
 | some ⟨.slice e sz by_,_,_⟩=>some (e,sz,by_)
 | _=>none
theorem bo (ok:eu P tt) {e sz by_:Nat} (h:kr tt t=some (e,sz,by_)):ln P t e sz by_∧0 < sz:=by
 unfold kr at h
 split at h
 ·rename_i e' sz' by' _ _ ht
  cases h
  exact ok.isSl ht rfl
 ·cases h
theorem aL (h:br P r ops Q nt D (⟨some d,.indexAddr t x y,ty,pos,af,none⟩::rest) fr B L):br P r ops Q nt D (⟨some d,.indexAddr t x y,ty,pos,af,none⟩::rest) fr B L:=h
def j6 (u:AV):Option (Nat×List (List AV)):=match u with
 | .imm s l=>some (s,l)
 | .vec _ s l=>some (s,l)
 | _=>none
theorem cY {s:Nat} {l:List (List AV)} (h:j6 u=some (s,l)):u.im= .imm s l:=by
 unfold j6 at h
 split at h <;> cases h <;> rfl
theorem aJ (ok:eu P tt) {e sz by_ s:Nat} {l:List (List AV)} {k:IntKind} {i:Int} {es:List AV} (h:br P r ops Q nt D rest ((d,.iptr es)::fr) B L) (ht:kr tt t=some (e,sz,by_):=by rfl) (hx:bh fr x=some u:=by rfl) (hu:j6 u=some (s,l):=by rfl) (hs:Nat.beq s sz=true:=by rfl) (hy:bh fr y=some (.sc (.int k i)):=by rfl) (h0:0≤i:=by omega) (hl:l[i.toNat]?=some es:=by first | assumption | (simp only [Int.toNat_natCast];assumption)) (hd:Nat.ble nt d=false:=by rfl):
  br P r ops Q nt D (⟨some d,.indexAddr t x y,ty,pos,af,none⟩::rest) fr B L:=ci (yp (bo ok ht).1 hx (cY hu) hs hy h0 hl) hd rfl h
theorem aF (ok:eu P tt) {e sz by_ b off n cap:Nat} {k:IntKind} {i:Int} (h:br P r ops Q nt D rest ((d,.sc (.pointer (some ⟨b,off+i.toNat * sz,none⟩)))::fr) B L) (ht:kr tt t=some (e,sz,by_):=by rfl) (hx:bh fr x=some (.sc (.slice (some ⟨b,off,none⟩) n cap)):=by rfl) (hy:bh fr y=some (.sc (.int k i)):=by rfl) (h0:0≤i∧i < n:=by omega) (hd:Nat.ble nt d=false:=by rfl):
  br P r ops Q nt D (⟨some d,.indexAddr t x y,ty,pos,af,none⟩::rest) fr B L:=ci (uQ (bo ok ht).1 hx hy h0) hd rfl h
def Iu (tt:TT) (t:Nat):Bool:=match dw tt t with | some ti=> !ti.k.agg | none=>false
def HM (tt:TT) (t:Nat):Option Nat:=match dw tt t with | some ti=>bif ti.k.agg then some ti.size else none | none=>none
theorem cV (ok:eu P tt) (h:Iu tt t=true):EV P t:=by
 unfold Iu at h
 split at h
 ·rename_i ti ht
  exact ok.sc ht (by simpa using h)
 ·cases h
theorem ee (ok:eu P tt) {n:Nat} (h:HM tt t=some n):GN P t n:=by
 unfold HM at h
 split at h
 ·rename_i ti ht
  cases hk:ti.k.agg with
  | true=>rw [hk] at h;cases h;exact ok.ag ht hk
  | false=>rw [hk] at h;cases h
 ·cases h
def Hb (tt:TT) (t:Nat):Option Nat:=match dw tt t with | some ti=>some ti.size | none=>none
theorem ki (ok:eu P tt) {n:Nat} (h:Hb tt t=some n):(P.info? t).map (·.size)=some n:=by
 unfold Hb at h
 split at h
 ·rename_i ti ht
  cases h
  exact ok.size ht
 ·cases h
def zI (tt:TT) (t:Nat):Option (List Value):=match dw tt t with | some ti=>some ti.zero | none=>none
theorem f5 (ok:eu P tt) {zs:List Value} (h:zI tt t=some zs):CZ P t zs:=by
 unfold zI at h
 split at h
 ·rename_i ti ht
  cases h
  exact ok.zero ht
 ·cases h
theorem bq (h:br P r ops Q nt D (⟨some d,.load t x,ty,pos,af,none⟩::rest) fr B L):br P r ops Q nt D (⟨some d,.load t x,ty,pos,af,none⟩::rest) fr B L:=h
theorem ah (ok:eu P tt) (i:Nat) {b k:Nat} {cs:List AV} {e:TypeId} (ht:Iu tt t=true) (hx:bh fr x=some (.sc (.pointer (some ⟨b,k,none⟩)))) (hL:L[i]?=some (b,.box cs e)) (hc:cs[k]?=some u) (hd:Nat.ble nt d=false) (h:br P r ops Q nt D rest ((d,u)::fr) B L):
  br P r ops Q nt D (⟨some d,.load t x,ty,pos,af,none⟩::rest) fr B L:=cw hd rfl (tG i (cV ok ht) hx hL hc) fun c L' ⟨h1,h2⟩=>by subst h1;subst h2;exact h
theorem LJ (ok:eu P tt) (i:Nat) {b k:Nat} {cs:List AV} {e:TypeId} (zz:Iu tt t=true∧bh fr x=some (.sc (.pointer (some ⟨b,k,none⟩)))∧L[i]?=some (b,.box cs e)∧cs[k]?=some u∧Nat.ble nt d=false) (h:br P r ops Q nt D rest ((d,u)::fr) B L):br P r ops Q nt D (⟨some d,.load t x,ty,pos,af,none⟩::rest) fr B L:=ah ok i zz.1 zz.2.1 zz.2.2.1 zz.2.2.2.1 zz.2.2.2.2 h
theorem LL (ok:eu P tt) (i:Nat) {b k:Nat} {cs:List AV} {e:TypeId} (zz:Iu tt t=true∧bh fr x=some (.sc (.pointer (some ⟨b,k,none⟩)))∧L[i]?=some (b,.box cs e)) (hc:cs[k]?=some u) (hd:Nat.ble nt d=false) (h:br P r ops Q nt D rest ((d,u)::fr) B L):br P r ops Q nt D (⟨some d,.load t x,ty,pos,af,none⟩::rest) fr B L:=ah ok i zz.1 zz.2.1 zz.2.2 hc hd h
theorem av (ok:eu P tt) (i:Nat) {b k n:Nat} {cs:List AV} {e:TypeId} (ht:HM tt t=some n) (hx:bh fr x=some (.sc (.pointer (some ⟨b,k,none⟩)))) (hL:L[i]?=some (b,.box cs e)) (hc:Nat.ble (k+n) cs.length=true) (hd:Nat.ble nt d=false) (h:br P r ops Q nt D rest ((d,.agg ((cs.drop k).take n))::fr) B L):
  br P r ops Q nt D (⟨some d,.load t x,ty,pos,af,none⟩::rest) fr B L:=cw hd rfl (v8 i (ee ok ht) hx hL hc) fun c L' ⟨h1,h2⟩=>by subst h1;subst h2;exact h
theorem LK (ok:eu P tt) (i:Nat) {b k n:Nat} {cs:List AV} {e:TypeId} (zz:HM tt t=some n∧bh fr x=some (.sc (.pointer (some ⟨b,k,none⟩)))∧L[i]?=some (b,.box cs e)∧Nat.ble (k+n) cs.length=true∧Nat.ble nt d=false) (h:br P r ops Q nt D rest ((d,.agg ((cs.drop k).take n))::fr) B L):br P r ops Q nt D (⟨some d,.load t x,ty,pos,af,none⟩::rest) fr B L:=av ok i zz.1 zz.2.1 zz.2.2.1 zz.2.2.2.1 zz.2.2.2.2 h
theorem aM (h:br P r ops Q nt D (⟨none,.store t x y,ty,pos,af,none⟩::rest) fr B L):br P r ops Q nt D (⟨none,.store t x y,ty,pos,af,none⟩::rest) fr B L:=h
theorem aa (ok:eu P tt) (i:Nat) {b k n:Nat} {cs ys:List AV} {e:TypeId} (ht:Hb tt t=some n) (hx:bh fr x=some (.sc (.pointer (some ⟨b,k,none⟩)))) (hy:bh fr y=some u) (hu:u.cells=some ys) (hL:L[i]?=some (b,.box cs e)) (hn:Nat.beq ys.length n=true) (hk:Nat.ble (k+n) cs.length=true) (h:br P r ops Q nt D rest fr B (eF L i (.box (fx cs k ys) e))):
  br P r ops Q nt D (⟨none,.store t x y,ty,pos,af,none⟩::rest) fr B L:=iV rfl (nf i (ki ok ht) hx hy hu hL hn hk) fun c L' h1=>by subst h1;exact h
theorem LH (ok:eu P tt) (i:Nat) {b k n:Nat} {cs ys:List AV} {e:TypeId} (zz:Hb tt t=some n∧bh fr x=some (.sc (.pointer (some ⟨b,k,none⟩)))∧bh fr y=some u∧u.cells=some ys∧L[i]?=some (b,.box cs e)∧Nat.beq ys.length n=true∧Nat.ble (k+n) cs.length=true) (h:br P r ops Q nt D rest fr B (eF L i (.box (fx cs k ys) e))):br P r ops Q nt D (⟨none,.store t x y,ty,pos,af,none⟩::rest) fr B L:=aa ok i zz.1 zz.2.1 zz.2.2.1 zz.2.2.2.1 zz.2.2.2.2.1 zz.2.2.2.2.2.1 zz.2.2.2.2.2.2 h
theorem LU (ok:eu P tt) (i:Nat) {b k n:Nat} {cs ys:List AV} {e:TypeId} (zz:Hb tt t=some n∧bh fr x=some (.sc (.pointer (some ⟨b,k,none⟩)))∧bh fr y=some u∧u.cells=some ys∧L[i]?=some (b,.box cs e)∧Nat.beq ys.length n=true) (hk:Nat.ble (k+n) cs.length=true) (h:br P r ops Q nt D rest fr B (eF L i (.box (fx cs k ys) e))):br P r ops Q nt D (⟨none,.store t x y,ty,pos,af,none⟩::rest) fr B L:=aa ok i zz.1 zz.2.1 zz.2.2.1 zz.2.2.2.1 zz.2.2.2.2.1 zz.2.2.2.2.2 hk h
theorem t3 {cs:List AV} (h:∀b,br P r ops Q nt D rest ((d,.sc (.pointer (some ⟨b,0,none⟩)))::fr) B ((b,.box cs t)::L)) (hx:bh fr x=some u:=by rfl) (hc:u.cells=some cs:=by rfl) (hd:Nat.ble nt d=false:=by rfl):
  br P r ops Q nt D (⟨some d,.box t x,ty,pos,af,none⟩::rest) fr B L:=cw hd rfl (HN hx hc) fun c L' hh=>by obtain ⟨b,h1,h2⟩:=hh;subst h1;subst h2;exact h b
theorem bk {cs:List AV} (h:br P r ops Q nt D rest ((d,.iptr cs)::fr) B L) (hx:bh fr x=some u:=by rfl) (hc:u.cells=some cs:=by rfl) (hn:Nat.ble cs.length 1000000=true:=by rfl) (hd:Nat.ble nt d=false:=by rfl):
  br P r ops Q nt D (⟨some d,.box t x,ty,pos,af,none⟩::rest) fr B L:=cw hd rfl (Fb hx hc hn) fun c L' hh=>by obtain ⟨h1,h2⟩:=hh;subst h1;subst h2;exact h
theorem ae (tm:Nat) (ok:eu P tt) (i:Nat) {b n:Nat} {cs ys:List AV} {e:TypeId} (ht:Hb tt t=some n) (hx:ca fr tm=some (.sc (.pointer (some ⟨b,0,none⟩)))) (hy:bh fr y=some u) (hu:u.cells=some ys) (hL:L[i]?=some (b,.box cs e)) (hn:Nat.beq ys.length n=true) (hk:Nat.beq n cs.length=true) (hn6:Nat.ble ys.length 1000000=true) (h:br P r ops Q nt D rest ((tm,.iptr ys)::fr) B (L.eraseIdx i)):
  br P r ops Q nt D (⟨none,.store t (.tmp tm) y,ty,pos,af,none⟩::rest) fr B L:=by
 have hn':ys.length=n:=by rwa [Nat.beq_eq] at hn
 have hk':n=cs.length:=by rwa [Nat.beq_eq] at hk
 refine iV rfl (nf i (ki ok ht) hx hy hu hL hn (by rw [Nat.ble_eq];omega)) fun c L' h1=>?_
 subst h1
 have hput:fx cs 0 ys=ys:=by
  apply List.ext_getElem?
  intro j
  rw [gL _ _ _ _ (by omega)]
  by_cases hj:j < ys.length
  ·rw [if_pos (by omega),Nat.sub_zero]
  ·rw [if_neg (by omega),List.getElem?_eq_none (by omega),List.getElem?_eq_none (by omega)]
 rw [hput]
 have hgi:(eF L i (.box ys e))[i]?=some (b,.box ys e):=by
  clear h
  induction L generalizing i with
  | nil=>simp at hL
  | cons p q ih=>
   cases i with
   | zero=>simp at hL;subst hL;rfl
   | succ i=>simp only [List.getElem?_cons_succ] at hL;simp only [eF,List.getElem?_cons_succ];exact ih i hL
 have her:(eF L i (.box ys e)).eraseIdx i=L.eraseIdx i:=by
  clear h hgi
  induction L generalizing i with
  | nil=>simp at hL
  | cons p q ih=>
   cases i with
   | zero=>rfl
   | succ i=>simp only [List.getElem?_cons_succ] at hL;simp only [eF,List.eraseIdx_cons_succ];rw [ih i hL]
 have:=s3 (nt:=nt) (D:=D) (B:=B) (fr:=fr) i hx hgi hn6
 rw [her] at this
 exact aE this h
theorem LI (tm:Nat) (ok:eu P tt) (i:Nat) {b n:Nat} {cs ys:List AV} {e:TypeId} (zz:Hb tt t=some n∧ca fr tm=some (.sc (.pointer (some ⟨b,0,none⟩)))∧bh fr y=some u∧u.cells=some ys∧L[i]?=some (b,.box cs e)∧Nat.beq ys.length n=true∧Nat.beq n cs.length=true∧Nat.ble ys.length 1000000=true) (h:br P r ops Q nt D rest ((tm,.iptr ys)::fr) B (L.eraseIdx i)):br P r ops Q nt D (⟨none,.store t (.tmp tm) y,ty,pos,af,none⟩::rest) fr B L:=ae tm ok i zz.1 zz.2.1 zz.2.2.1 zz.2.2.2.1 zz.2.2.2.2.1 zz.2.2.2.2.2.1 zz.2.2.2.2.2.2.1 zz.2.2.2.2.2.2.2 h
theorem bf (ok:eu P tt) {zs:List Value} (h:∀b,br P r ops Q nt D rest ((d,.sc (.pointer (some ⟨b,0,none⟩)))::fr) B ((b,.box (zs.map .sc) t)::L)) (hz:zI tt t=some zs:=by rfl) (h1:zs.all (·.oneCell')=true:=by rfl) (hd:Nat.ble nt d=false:=by rfl):
  br P r ops Q nt D (⟨some d,.alloc t,ty,pos,af,none⟩::rest) fr B L:=by
 have hz':=f5 ok hz
 refine cw hd rfl (nd hz' h1) fun c L' hh=>?_
 obtain ⟨b,h1,h2⟩:=hh
 subst h1;subst h2
 exact h b
theorem nP (ok:eu P tt) {e sz by_ n:Nat} {parts:Array (Nat×Operand)} {vs:List AV} {xs:List (List AV)} (h:∀b,br P r ops Q nt D rest ((d,.vec (some (b,n)) sz xs)::fr) B ((b,.vec e sz n n)::L)) (ht:kr tt t=some (e,sz,by_):=by rfl) (hv:dy fr (parts.toList.map (·.2))=some vs:=by rfl) (hxs:kz vs=some xs:=by rfl) (hn:Nat.beq xs.length n=true:=by rfl) (hi:parts.toList.map (·.1)=List.range' 0 n:=by rfl) (hz:xs.all (fun q=>Nat.beq q.length sz)=true:=by rfl) (h24:Nat.ble (n * sz) 16777216=true:=by rfl) (hd:Nat.ble nt d=false:=by rfl):
  br P r ops Q nt D (⟨some d,.buildSlice t n parts,ty,pos,af,none⟩::rest) fr B L:=by
 obtain ⟨h1,h2⟩:=bo ok ht
 refine cw hd rfl (Cr h1 h2 hv hxs hn hi hz h24) fun c L' hh=>?_
 obtain ⟨b,h1,h2⟩:=hh
 subst h1;subst h2
 exact h b
theorem bE (ok:eu P tt) (L0:AL) {e sz by_:Nat} {k:Option (Nat×Nat)} {l l2:List (List AV)} (ht:kr tt t=some (e,sz,by_)) (hx:bh fr x=some (.vec k sz l)) (hy:bh fr y=some u) (hu:j6 u=some (sz,l2)) (hL:L.Perm (_root_.Go.Proofs.YtpmdfoaadejmkaaGreatDoor.tok k e sz l.length++L0)) (h63:l.length+l2.length≤9223372036854775807) (hby:(l.length+l2.length) * by_≤140737488355328) (hd:Nat.ble nt d=false)
  (h:∀k',br P r ops Q nt D rest ((d,.vec k' sz (l++l2))::fr) B (_root_.Go.Proofs.YtpmdfoaadejmkaaGreatDoor.tok k' e sz (l++l2).length++L0)):
  br P r ops Q nt D (⟨some d,.call ⟨.builtin .append,#[x,y],#[t,t]⟩,ty,pos,af,none⟩::rest) fr B L:=cw hd rfl (ox L0 (bo ok ht).1 (bo ok ht).2 hx hy (cY hu) hL h63 hby) fun c L' ⟨k',h1,h2⟩=>by subst h1;subst h2;exact h k'
class AD (P:Program) (f:FuncId) (args:List AV) (u:outParam AV):Prop where
 det:c5 P f args u
theorem bw {f:FuncId} {args:Array Operand} {ts:Array TypeId} (h:br P r ops Q nt D (⟨some d,.call ⟨.value (.func f),args,ts⟩,ty,pos,af,none⟩::rest) fr B L):br P r ops Q nt D (⟨some d,.call ⟨.value (.func f),args,ts⟩,ty,pos,af,none⟩::rest) fr B L:=h
theorem bn {f:FuncId} {args:Array Operand} {ts:Array TypeId} {cs ds:List AV} [bD P f] (h:br P r ops Q nt D rest ((d,u)::fr) B L) (hv:dy fr args.toList=some cs:=by rfl) (hi:gN cs=some ds:=by rfl) (hc:AD P f ds u:=by infer_instance) (hd:Nat.ble nt d=false:=by rfl):
  br P r ops Q nt D (⟨some d,.call ⟨.value (.func f),args,ts⟩,ty,pos,af,none⟩::rest) fr B L:=cw hd rfl (Cp (u:=u) hv (by rw [i4 hi];exact hc.det)) fun c L' hh=>by obtain ⟨h1,h2⟩:=hh;subst h1;subst h2;exact h
theorem bR {cd:Operand} {xx yy:Code} (hc:bh fr cd=some (.sc (.bool true))) (h:AT P r xx Q nt D fr B L):AT P r (.cond cd xx yy) Q nt D fr B L:=ar hc (fun _=>h) (fun e=>by cases e)
theorem bB {cd:Operand} {xx yy:Code} (hc:bh fr cd=some (.sc (.bool false))) (h:AT P r yy Q nt D fr B L):AT P r (.cond cd xx yy) Q nt D fr B L:=ar hc (fun e=>by cases e) (fun _=>h)
end
def gP (fr:bT):List Nat→Option bT
 | []=>some []
 | t::r=>match ca fr t with
  | some v=>match gP fr r with
   | some q=>some ((t,v)::q)
   | none=>none
  | none=>none
theorem eg {fr:bT}:∀(ks:List Nat) {fr0:bT},gP fr ks=some fr0→mL fr0 fr
 | [],fr0,h=>by simp [gP] at h;subst h;trivial
 | t::r,fr0,h=>by
  simp only [gP] at h
  split at h
  ·rename_i v hv
   split at h
   ·rename_i q hq
    cases h
    exact ⟨hv,eg r hq⟩
   ·cases h
  ·cases h
theorem nc {a b fr:bT} (ha:mL a fr) (hb:mL b fr):mL (a++b) fr:=by
 induction a with
 | nil=>exact hb
 | cons p r ih=>obtain ⟨i,v⟩:=p;exact ⟨ha.1,ih ha.2⟩
section
variable {P:Program} {r:Option Nat} {Q:Exit→Act→World→Prop} {nt:Nat} {D:List Deferred} {fr:bT} {B:Bs} {L:AL} {cd:Code}
def He (nt:Nat) (D:List Deferred) (B:Bs) {α:Type} (Inv:α→bT) (J:α→AL→Prop) (μ:α→Nat) (x:α) (Q:Exit→Act→World→Prop):Exit→Act→World→Prop:=Exit.then (fun a w=>∃σ x' L',jz σ nt D (Inv x') a∧J x' L'∧cL B σ L' w∧μ x' < μ x) Q
def b7 (nt:Nat) (D:List Deferred) (B:Bs) {α:Type} (V:α→bT) (fr0:bT) (C:α→Prop) (Lx:α→AL) (μ:α→Nat) (x:α) (Q:Exit→Act→World→Prop):Exit→Act→World→Prop:=He nt D B (fun x=>V x++fr0) (fun x L'=>C x∧L'=Lx x) μ x Q
theorem aN (ks:List Nat) {α:Type} (V:α→bT) (C:α→Prop) (Lx:α→AL) (μ:α→Nat) (x0:α) {fr0:bT} (hk:gP fr ks=some fr0) (hV:mL (V x0) fr) (hC:C x0) (hL:∀σ w,cL B σ L w→cL B σ (Lx x0) w)
  (hb:∀x,C x→AT P r cd (b7 nt D B V fr0 C Lx μ x Q) nt D (V x++fr0) B (Lx x)):AT P r (.loop cd) Q nt D fr B L:=
 Fe (fun x=>V x++fr0) (fun x L'=>C x∧L'=Lx x) μ x0 (Lx x0) (nc hV (eg ks hk)) ⟨hC,rfl⟩ hL fun x L' ⟨h1,h2⟩=>by subst h2;exact hb x h1
theorem aC {α:Type} {V:α→bT} {fr0:bT} {C:α→Prop} {Lx:α→AL} {μ:α→Nat} {x:α} (x':α) (hk:gP fr (fr0.map (·.1))=some fr0) (hV:mL (V x') fr) (hC:C x') (hm:μ x' < μ x) (hL:∀σ w,cL B σ L w→cL B σ (Lx x') w):
  AX P .normal (b7 nt D B V fr0 C Lx μ x Q) nt D fr B L:=
 CB x' (Lx x') (nc hV (eg _ hk)) ⟨hC,rfl⟩ hL hm
theorem au {α:Type} {V:α→bT} {fr0:bT} {C:α→Prop} {Lx:α→AL} {μ:α→Nat} {x:α} {id:Nat} (h:AX P (.exit id) Q nt D fr B L):AX P (.exit id) (b7 nt D B V fr0 C Lx μ x Q) nt D fr B L:=fun σ a w ha hw=>h σ a w ha hw
theorem bK {α:Type} {V:α→bT} {fr0:bT} {C:α→Prop} {Lx:α→AL} {μ:α→Nat} {x:α} (h:AX P .ret Q nt D fr B L):AX P .ret (b7 nt D B V fr0 C Lx μ x Q) nt D fr B L:=fun σ a w ha hw=>h σ a w ha hw
theorem yA {fr0:bT} (ks:List Nat) (hk:gP fr ks=some fr0) (h:AT P r cd Q nt D fr0 B L):AT P r cd Q nt D fr B L:=pV (eg ks hk) (fun _ _ h=>h) h
end
theorem ce {P:Program} {r:Option Nat} {ops:Array Oper} {Q:Exit→Act→World→Prop} {nt:Nat} {D:List Deferred} {fr fr0:bT} {B:Bs} {L:AL} {rest:List Oper} {A A':Code} {t:Nat} (ks:List Nat) (C:Prop) (hks:gP fr ks=some fr0) (h:∀Q',(∀fr' b,gP fr' ks=some fr0→ca fr' t=some (.sc (.bool b))→(b=true↔C)→AX P .normal Q' nt D fr' B L)→br P r ops Q' nt D rest fr B L) (hA:C→AT P r A Q nt D fr0 B L) (hB:¬C→AT P r A' Q nt D fr0 B L):br P r ops (Kt P r (.cond (.tmp t) A A') Q) nt D rest fr B L:=by
 refine h _ fun fr' b hk hb hC=>?_
 refine a6 (ar hb (fun e=>?_) (fun e=>?_))
 ·exact pV (eg _ hk) (fun _ _ h=>h) (hA (hC.1 e))
 ·exact pV (eg _ hk) (fun _ _ h=>h) (hB fun hc=>by have:=hC.2 hc;rw [e] at this;cases this)
end Go.Proofs.YtpmdfoaadejmkaaGreatDoor
namespace Go.Proofs.YtpmdfoaadejmkaaGreatDoor
open Go.RowKit
section
variable {P:Program} {r:Option Nat} {ops:Array Oper} {Q:Exit→Act→World→Prop} {nt:Nat} {D:List Deferred} {fr:bT} {B:Bs} {L:AL} {rest:List Oper} {cd:Code} {φ:Prop}
theorem HO (hφ:∀σ a w,jz σ nt D fr a→cL B σ L w→φ) (h:φ→AT P r cd Q nt D fr B L):AT P r cd Q nt D fr B L:=fun σ a w ha hw=>h (hφ σ a w ha hw) σ a w ha hw
theorem Ff (hφ:∀σ a w,jz σ nt D fr a→cL B σ L w→φ) (h:φ→br P r ops Q nt D rest fr B L):br P r ops Q nt D rest fr B L:=fun σ a w ha hw=>h (hφ σ a w ha hw) σ a w ha hw
theorem Dq {σ:Mem} {u:AV} {v:Value} {s:Nat} {l:List (List AV)} (h:VR σ u v) (hu:j6 u=some (s,l)):l.length≤9223372036854775807∧∀e∈l,e.length=s:=by
 have h1:=h.im
 rw [cY hu] at h1
 obtain ⟨_,_,_,h2,h3,h4,_⟩:=h1.imm_inv
 unfold maxLen at h3
 exact ⟨by omega,h4⟩
theorem cW (t:Nat) {u:AV} {s:Nat} {l:List (List AV)} (hl:ca fr t=some u) (hu:j6 u=some (s,l)) (h:l.length≤9223372036854775807→AT P r cd Q nt D fr B L):AT P r cd Q nt D fr B L:=
 HO (fun σ a w ha _=>(Dq (ha.look t u hl) hu).1) h
end
section
variable {P:Program} {nt:Nat} {fr:bT} {B:Bs} {L:AL}
theorem CA {fn:Func} {Post:AV→AL→Prop} {t:Tmp} {c:AV} {s:Nat} {l:List (List AV)} (hr:fn.results=#[.tmp t]) (hv:ca fr t=some c) (hi:j6 c=some (s,l)) (h:Post (.imm s l) L):AX P .ret (bodyPost P fn (i8 B Post)) nt [] fr B L:=
 fun σ a w ha hw=>⟨ha.defers,_,results_tmp hr _ _ _,_,σ,.imm s l,L,rfl,by rw [←cY hi];exact (ha.look t c hv).im,hw,h⟩
end
section
variable {P:Program} {r:Option Nat} {ops:Array Oper} {Q:Exit→Act→World→Prop} {nt:Nat} {D:List Deferred} {fr:bT} {B:Bs} {L:AL} {rest:List Oper} {d:Nat} {ty:TypeId} {pos:String} {af:Array Edge}
def KA (P:Program) (f:FuncId) (args:List AV) (e s:Nat) (l:List (List AV)):Prop:=AC P f args [] fun c L=>∃k,c= .vec k s l∧L=_root_.Go.Proofs.YtpmdfoaadejmkaaGreatDoor.tok k e s l.length
end
def aQ (l:List Int):List (List AV):=l.map fun z=>[.sc (.int .i64 z)]
theorem aX (l:List Int):(aQ l).length=l.length:=by simp [aQ]
theorem bW {l:List Int} {i:Nat} {z:Int} (h:l[i]?=some z):(aQ l)[i]?=some [.sc (.int .i64 z)]:=by simp [aQ,h]
end Go.Proofs.YtpmdfoaadejmkaaGreatDoor
namespace Go.Proofs.YtpmdfoaadejmkaaGreatDoor
open Go.RowKit
abbrev aI (z:Int):AV:= .sc (.int .i64 z)
abbrev wG (s:ByteArray):AV:= .sc (.string s)
abbrev eo (b:Bool):AV:= .sc (.bool b)
structure f3 where
 X:Int
 Y:Int
 On:Bool
structure dX where
 Glyph:Int
 X:Int
 Y:Int
structure dE where
 Kind:Int
 Class:Int
 X:Int
 Y:Int
structure dO where
 Region:Int
 Point:Int
 X:Int
 Y:Int
structure gx where
 Op:Int
 A:Int
structure bi where
 Name:ByteArray
 Advance:Int
 Mark:Bool
 Points:List f3
 Ends:List Int
 Parts:List dX
 Anchors:List dE
 Deltas:List dO
 Hint:List gx
structure gB where
 Rune:Int
 Glyph:Int
structure gO where
 At:Int
 Lookup:Int
structure b8 where
 Back:List (List Int)
 In:List (List Int)
 Ahead:List (List Int)
 Out:List Int
 Calls:List gO
 X:Int
structure aO where
 Kind:Int
 Ignore:Bool
 Rules:List b8
structure c9 where
 Name:ByteArray
 Lookups:List Int
structure eR where
 Name:ByteArray
 Min:Int
 Def:Int
 Max:Int
structure fq where
 Start:Int
 Peak:Int
 End:Int
structure aY where
 Unit:Int
 Glyphs:List bi
 Chars:List gB
 Lookups:List aO
 Features:List c9
 Axes:List eR
 Regions:List (List fq)
 Funcs:List (List gx)
 Cvt:List Int
def bj (l:List (List Int)):List (List AV):=l.map fun q=>[.imm 1 (aQ q)]
def EB (l:List ByteArray):List (List AV):=l.map fun s=>[wG s]
def dL (p:f3):List AV:=[aI p.X,aI p.Y,eo p.On]
def f0 (p:dX):List AV:=[aI p.Glyph,aI p.X,aI p.Y]
def dp (p:dE):List AV:=[aI p.Kind,aI p.Class,aI p.X,aI p.Y]
def ev (p:dO):List AV:=[aI p.Region,aI p.Point,aI p.X,aI p.Y]
def fj (p:gx):List AV:=[aI p.Op,aI p.A]
def bI (g:bi):List AV:=[wG g.Name,aI g.Advance,eo g.Mark,.imm 3 (g.Points.map dL),.imm 1 (aQ g.Ends),.imm 3 (g.Parts.map f0),.imm 4 (g.Anchors.map dp),.imm 4 (g.Deltas.map ev),.imm 2 (g.Hint.map fj)]
def ep (c:gB):List AV:=[aI c.Rune,aI c.Glyph]
def dC (c:gO):List AV:=[aI c.At,aI c.Lookup]
def bV (r:b8):List AV:=[.imm 1 (bj r.Back),.imm 1 (bj r.In),.imm 1 (bj r.Ahead),.imm 1 (aQ r.Out),.imm 2 (r.Calls.map dC),aI r.X]
def bJ (l:aO):List AV:=[aI l.Kind,eo l.Ignore,.imm 6 (l.Rules.map bV)]
def cj (t:c9):List AV:=[wG t.Name,.imm 1 (aQ t.Lookups)]
def cM (a:eR):List AV:=[wG a.Name,aI a.Min,aI a.Def,aI a.Max]
def ld (t:fq):List AV:=[aI t.Start,aI t.Peak,aI t.End]
def bN (r:List fq):List AV:=[.imm 3 (r.map ld)]
def dG (l:List gx):List AV:=[.imm 2 (l.map fj)]
def cG (f:aY):List AV:=[aI f.Unit,.imm 9 (f.Glyphs.map bI),.imm 2 (f.Chars.map ep),.imm 3 (f.Lookups.map bJ),.imm 2 (f.Features.map cj),.imm 4 (f.Axes.map cM),.imm 1 (f.Regions.map bN),.imm 1 (f.Funcs.map dG),.imm 1 (aQ f.Cvt)]
abbrev d7 (f:aY):AV:= .agg (cG f)
theorem cO {α:Type} {c:α→List AV} {l:List α} {i:Nat} {a:α} (h:l[i]?=some a):(l.map c)[i]?=some (c a):=by simp [h]
theorem EC {l:List ByteArray} {i:Nat} {z:ByteArray} (h:l[i]?=some z):(EB l)[i]?=some [wG z]:=by simp [EB,h]
theorem bZ (l:List (List Int)):(bj l).length=l.length:=by simp [bj]
theorem gr {l:List (List Int)} {i:Nat} {z:List Int} (h:l[i]?=some z):(bj l)[i]?=some [.imm 1 (aQ z)]:=by simp [bj,h]
section
variable {P:Program} {tt:TT} {r:Option Nat} {Q:Exit→Act→World→Prop} {nt:Nat} {D:List Deferred} {fr:bT} {B:Bs} {L:AL} {l:List Oper} {fin:iR}
variable {k j:Nat} {s:Ak} {sk:m6} {acc:bT} {dd:Option Tmp} {op:Op} {ty t t':TypeId} {pos:String} {af:Array Edge} {g:Option (Nat×Bool)} {x y c:Operand} {u:AV} {want b:Bool}
def cA (P:Program) (l:List Oper) (fr:bT) (fin:iR) (k:Nat) (s:Ak) (o:Oper) (sk:m6) (acc:bT) (L:AL):Prop:=l[k]?=some o→DA P l fr fin ((k,s)::sk) acc L
theorem aD {o:Oper} (h:cA P l fr fin k s o sk acc L) (ho:l[k]?=some o:=by rfl):DA P l fr fin ((k,s)::sk) acc L:=h ho
def it (o:Oper) (acc:bT):Prop:=match o.guard with
 | none=>True
 | some (j,want)=>rc acc j= .sc (.bool want)
theorem lx {o:Oper} {R:AV→AL→Prop} (hg:it o acc) (h:∀B,fin.c0.le B.σ→AO P o (cx l.toArray acc fr o.after.toList) B L R):zF P l fr fin o acc L R:=by
 unfold zF
 unfold it at hg
 split
 ·exact h
 ·rename_i j want hq
  rw [hq] at hg
  exact .inl ⟨hg,h⟩
theorem fA {o:Oper} (hg:it o acc) (h:∀B L,AO P o (cx l.toArray acc fr o.after.toList) B L (fun c L'=>c=u∧L'=L)) (hn:DA P l fr fin sk ((k,u)::acc) L):cA P l fr fin k .v o sk acc L:=by
 intro ho
 obtain ⟨pl,hpl⟩:=hn
 exact ⟨.val k u pl,.v,sk,o,rfl,ho,.inl ⟨rfl,fun L=>lx hg fun B _=>h B L⟩,hpl⟩
theorem CX {o:Oper} (hg:it o acc) (h:∀B,AO P o (cx l.toArray acc fr o.after.toList) B L (fun c L'=>c=u∧L'=L)) (hn:DA P l fr fin sk ((k,u)::acc) L):cA P l fr fin k .l o sk acc L:=by
 intro ho
 obtain ⟨pl,hpl⟩:=hn
 exact ⟨.val k u pl,.l,sk,o,rfl,ho,.inr (.inl ⟨rfl,lx hg fun B _=>h B⟩),hpl⟩
theorem yK {o:Oper} {R:AV→AL→Prop} (hg:it o acc) (h:∀B,fin.c0.le B.σ→AO P o (cx l.toArray acc fr o.after.toList) B L R) (hn:∀c L',R c L'→DA P l fr fin sk ((k,c)::acc) L'):cA P l fr fin k .e o sk acc L:=by
 intro ho
 have hn':∀c L',∃pl,R c L'→dm P l fr fin pl sk ((k,c)::acc) L':=fun c L'=>by
  by_cases hr:R c L'
  ·obtain ⟨pl,hpl⟩:=hn c L' hr
   exact ⟨pl,fun _=>hpl⟩
  ·exact ⟨.fin,fun h=>absurd h hr⟩
 exact ⟨.eff k R fun c L'=>Classical.choose (hn' c L'),.e,sk,o,.inl rfl,rfl,ho,lx hg h,fun c L' hr=>Classical.choose_spec (hn' c L') hr⟩
theorem kH {o:Oper} {R:AV→AL→Prop} (hg:it o acc) (h:∀B,AO P o (cx l.toArray acc fr o.after.toList) B L R) (hn:∀c L',R c L'→DA P l fr fin sk ((k,c)::acc) L'):cA P l fr fin k .e o sk acc L:=by
 intro ho
 have hn':∀c L',∃pl,R c L'→dm P l fr fin pl sk ((k,c)::acc) L':=fun c L'=>by
  by_cases hr:R c L'
  ·obtain ⟨pl,hpl⟩:=hn c L' hr
   exact ⟨pl,fun _=>hpl⟩
  ·exact ⟨.fin,fun h=>absurd h hr⟩
 exact ⟨.eff k R fun c L'=>Classical.choose (hn' c L'),.e,sk,o,.inl rfl,rfl,ho,lx hg (fun B _=>h B),fun c L' hr=>Classical.choose_spec (hn' c L') hr⟩
theorem HU {o:Oper} (hK:eC fin.gs L) (hg:it o acc) (h:∀B L,eC fin.gs L→AO P o (cx l.toArray acc fr o.after.toList) B L (fun c L'=>c=u∧L'=L)) (hn:DA P l fr fin sk ((k,u)::acc) L):cA P l fr fin k .k o sk acc L:=by
 intro ho
 obtain ⟨pl,hpl⟩:=hn
 exact ⟨.val k u pl,.k,sk,o,rfl,ho,.inr (.inr ⟨rfl,hK,fun L hL=>lx hg fun B _=>h B L hL⟩),hpl⟩
theorem tN {o:Oper} {R:AV→AL→Prop} (hX:∀c L',R c L'→eC fin.gs L→eC fin.gs L') (hg:it o acc) (h:∀B,AO P o (cx l.toArray acc fr o.after.toList) B L R) (hn:∀c L',R c L'→DA P l fr fin sk ((k,c)::acc) L'):cA P l fr fin k .f o sk acc L:=by
 intro ho
 have hn':∀c L',∃pl,R c L'→dm P l fr fin pl sk ((k,c)::acc) L':=fun c L'=>by
  by_cases hr:R c L'
  ·obtain ⟨pl,hpl⟩:=hn c L' hr
   exact ⟨pl,fun _=>hpl⟩
  ·exact ⟨.fin,fun h=>absurd h hr⟩
 exact ⟨.eff k R fun c L'=>Classical.choose (hn' c L'),.f,sk,o,.inr (.inr ⟨rfl,hX⟩),rfl,ho,lx hg (fun B _=>h B),fun c L' hr=>Classical.choose_spec (hn' c L') hr⟩
theorem HT {o:Oper} {R:AV→AL→Prop} (hX:∀c L',R c L'→∃X,L'=X++L) (hg:it o acc) (h:∀B,AO P o (cx l.toArray acc fr o.after.toList) B L R) (hn:∀c L',R c L'→DA P l fr fin sk ((k,c)::acc) L'):cA P l fr fin k .a o sk acc L:=by
 intro ho
 have hn':∀c L',∃pl,R c L'→dm P l fr fin pl sk ((k,c)::acc) L':=fun c L'=>by
  by_cases hr:R c L'
  ·obtain ⟨pl,hpl⟩:=hn c L' hr
   exact ⟨pl,fun _=>hpl⟩
  ·exact ⟨.fin,fun h=>absurd h hr⟩
 exact ⟨.eff k R fun c L'=>Classical.choose (hn' c L'),.a,sk,o,.inr (.inl ⟨rfl,hX⟩),rfl,ho,lx hg (fun B _=>h B),fun c L' hr=>Classical.choose_spec (hn' c L') hr⟩
theorem sI {op:Op} (hj:rc acc j= .sc (.bool b)) (hb:(b==want)=false) (hn:DA P l fr fin sk ((k,.sc undef)::acc) L):cA P l fr fin k .v ⟨dd,op,ty,pos,af,some (j,want)⟩ sk acc L:=by
 intro ho
 obtain ⟨pl,hpl⟩:=hn
 exact ⟨.val k (.sc undef) pl,.v,sk,_,rfl,ho,.inl ⟨rfl,fun L=> .inr ⟨⟨_,hj,fun e=>by injection e with e;subst e;simp at hb⟩,rfl,rfl⟩⟩,hpl⟩
theorem B7 {o:Oper} {fr:bT} (h:Av P o fr u):∀B L,AO P o fr B L (fun c L'=>c=u∧L'=L):=fun _ _=>h.ao
theorem b6 (ok:eu P tt) (h:DA P l fr fin sk ((k,u)::acc) L) (hu:rU tt (cx l.toArray acc fr af.toList) op=some u:=by rfl) (hg:it ⟨dd,op,ty,pos,af,g⟩ acc:=by first | trivial | rfl):cA P l fr fin k .v ⟨dd,op,ty,pos,af,g⟩ sk acc L:=fA hg (B7 (kZ ok hu)) h
theorem eU {bop:BinOp} (h:cA P l fr fin k .v ⟨dd,.binOp bop t x y t',ty,pos,af,g⟩ sk acc L):cA P l fr fin k .v ⟨dd,.binOp bop t x y t',ty,pos,af,g⟩ sk acc L:=h
theorem gk {bop:BinOp} (h:DA P l fr fin sk ((k,u)::acc) L) (ho:Av P ⟨dd,.binOp bop t x y t',ty,pos,af,g⟩ (cx l.toArray acc fr af.toList) u:=by first | exact ym rfl rfl (by omega) | exact yw rfl rfl (by omega) | exact yr rfl rfl (by omega)) (hg:it ⟨dd,.binOp bop t x y t',ty,pos,af,g⟩ acc:=by first | trivial | rfl):cA P l fr fin k .v ⟨dd,.binOp bop t x y t',ty,pos,af,g⟩ sk acc L:=fA hg (B7 ho) h
theorem cK (h:cA P l fr fin k .v ⟨dd,.indexAddr t x y,ty,pos,af,g⟩ sk acc L):cA P l fr fin k .v ⟨dd,.indexAddr t x y,ty,pos,af,g⟩ sk acc L:=h
theorem df (ok:eu P tt) {e sz by_ s:Nat} {ll:List (List AV)} {ik:IntKind} {i:Int} {es:List AV} (h:DA P l fr fin sk ((k,.iptr es)::acc) L) (ht:kr tt t=some (e,sz,by_):=by rfl) (hx:bh (cx l.toArray acc fr af.toList) x=some u:=by rfl) (hu:j6 u=some (s,ll):=by rfl) (hs:Nat.beq s sz=true:=by rfl) (hy:bh (cx l.toArray acc fr af.toList) y=some (.sc (.int ik i)):=by rfl) (h0:0≤i:=by omega) (hl:ll[i.toNat]?=some es:=by first | assumption | (simp only [Int.toNat_natCast];assumption)) (hg:it ⟨dd,.indexAddr t x y,ty,pos,af,g⟩ acc:=by first | trivial | rfl):cA P l fr fin k .v ⟨dd,.indexAddr t x y,ty,pos,af,g⟩ sk acc L:=fA hg (B7 (yp (bo ok ht).1 hx (cY hu) hs hy h0 hl)) h
theorem dQ {f:FuncId} {args:Array Operand} {ts:Array TypeId} (h:cA P l fr fin k .v ⟨dd,.call ⟨.value (.func f),args,ts⟩,ty,pos,af,g⟩ sk acc L):cA P l fr fin k .v ⟨dd,.call ⟨.value (.func f),args,ts⟩,ty,pos,af,g⟩ sk acc L:=h
theorem eT {f:FuncId} {args:Array Operand} {ts:Array TypeId} {cs ds:List AV} [bD P f] (h:DA P l fr fin sk ((k,u)::acc) L) (hv:dy (cx l.toArray acc fr af.toList) args.toList=some cs:=by rfl) (hi:gN cs=some ds:=by rfl) (hc:AD P f ds u:=by infer_instance) (hg:it ⟨dd,.call ⟨.value (.func f),args,ts⟩,ty,pos,af,g⟩ acc:=by first | trivial | rfl):cA P l fr fin k .v ⟨dd,.call ⟨.value (.func f),args,ts⟩,ty,pos,af,g⟩ sk acc L:=fA hg (fun _ _=>Cp hv (by rw [i4 hi];exact hc.det)) h
theorem cf (ok:eu P tt) (i:Nat) {b kk:Nat} {cs:List AV} {e:TypeId} (ht:Iu tt t=true) (hx:bh (cx l.toArray acc fr af.toList) x=some (.sc (.pointer (some ⟨b,kk,none⟩)))) (hL:L[i]?=some (b,.box cs e)) (hc:cs[kk]?=some u) (hg:it ⟨dd,.load t x,ty,pos,af,g⟩ acc) (h:DA P l fr fin sk ((k,u)::acc) L):cA P l fr fin k .l ⟨dd,.load t x,ty,pos,af,g⟩ sk acc L:=CX hg (fun _=>tG i (cV ok ht) hx hL hc) h
theorem nl (ok:eu P tt) (i:Nat) {b kk n:Nat} {cs:List AV} {e:TypeId} (ht:HM tt t=some n) (hx:bh (cx l.toArray acc fr af.toList) x=some (.sc (.pointer (some ⟨b,kk,none⟩)))) (hL:L[i]?=some (b,.box cs e)) (hc:Nat.ble (kk+n) cs.length=true) (hg:it ⟨dd,.load t x,ty,pos,af,g⟩ acc) (h:DA P l fr fin sk ((k,.agg ((cs.drop kk).take n))::acc) L):cA P l fr fin k .l ⟨dd,.load t x,ty,pos,af,g⟩ sk acc L:=CX hg (fun _=>v8 i (ee ok ht) hx hL hc) h
theorem AJ {gs:KpL} {i b kk:Nat} {v:AV} (hi:gs[i]?=some (.cell (b,kk,v))) {L:AL} (h:eC gs L):∃(j:Nat) (cs:List AV) (e:TypeId),L[j]?=some (b,.box cs e)∧cs[kk]?=some v:=by
 obtain ⟨cs,e,h1,h2⟩:=h _ (Lw hi)
 obtain ⟨j,hj⟩:=List.mem_iff_getElem?.1 h1
 exact ⟨j,cs,e,hj,h2⟩
theorem dP (ok:eu P tt) (i:Nat) {b kk:Nat} (ht:Iu tt t=true) (hx:bh (cx l.toArray acc fr af.toList) x=some (.sc (.pointer (some ⟨b,kk,none⟩)))) (hi:fin.gs[i]?=some (.cell (b,kk,u))) (hK:eC fin.gs L) (hg:it ⟨dd,.load t x,ty,pos,af,g⟩ acc) (h:DA P l fr fin sk ((k,u)::acc) L):cA P l fr fin k .k ⟨dd,.load t x,ty,pos,af,g⟩ sk acc L:=
 HU hK hg (fun _ L' hL'=>by
  obtain ⟨j,cs,e,h1,h2⟩:=AJ hi hL'
  exact tG j (cV ok ht) hx h1 h2) h
theorem yx {d:Option Tmp} {e sz by_ n:Nat} {parts:Array (Nat×Operand)} {vs:List AV} {xs:List (List AV)} (hc:ln P t e sz by_) (hsz:0 < sz) (hv:dy fr (parts.toList.map (·.2))=some vs) (hxs:kz vs=some xs) (hn:Nat.beq xs.length n=true) (hi:parts.toList.map (·.1)=List.range' 0 n) (hz:xs.all (fun q=>Nat.beq q.length sz)=true) (h24:Nat.ble (n * sz) 16777216=true):
  AO P ⟨d,.buildSlice t n parts,ty,pos,af,g⟩ fr B L (fun c L'=>c= .imm sz xs∧L'=L):=by
 intro σ ρ w hρ hw
 refine (Cr hc hsz hv hxs hn hi hz h24 σ ρ w hρ hw).mono fun v w' hh=>?_
 obtain ⟨τ,c,L',h1,h2,h3,b,rfl,rfl⟩:=hh
 exact ⟨τ,_,L,h1,h2.im,h3.sublist (.cons _ (List.Sublist.refl _)),rfl,rfl⟩
theorem ei (ok:eu P tt) {e sz by_ n:Nat} {parts:Array (Nat×Operand)} {vs:List AV} {xs:List (List AV)} (h:DA P l fr fin sk ((k,.imm sz xs)::acc) L) (ht:kr tt t=some (e,sz,by_):=by rfl) (hv:dy (cx l.toArray acc fr af.toList) (parts.toList.map (·.2))=some vs:=by rfl) (hxs:kz vs=some xs:=by rfl) (hn:Nat.beq xs.length n=true:=by rfl) (hi:parts.toList.map (·.1)=List.range' 0 n:=by rfl) (hz:xs.all (fun q=>Nat.beq q.length sz)=true:=by rfl) (h24:Nat.ble (n * sz) 16777216=true:=by rfl) (hg:it ⟨dd,.buildSlice t n parts,ty,pos,af,g⟩ acc:=by first | trivial | rfl):
  cA P l fr fin k .v ⟨dd,.buildSlice t n parts,ty,pos,af,g⟩ sk acc L:=fA hg (fun _ _=>yx (bo ok ht).1 (bo ok ht).2 hv hxs hn hi hz h24) h
theorem bQ (ok:eu P tt) {r:Option Nat} {ops:Array Oper} {Q:Exit→Act→World→Prop} {nt:Nat} {D:List Deferred} {rest:List Oper} {d e sz by_ n:Nat} {parts:Array (Nat×Operand)} {vs:List AV} {xs:List (List AV)} (h:br P r ops Q nt D rest ((d,.imm sz xs)::fr) B L) (ht:kr tt t=some (e,sz,by_):=by rfl) (hv:dy fr (parts.toList.map (·.2))=some vs:=by rfl) (hxs:kz vs=some xs:=by rfl) (hn:Nat.beq xs.length n=true:=by rfl) (hi:parts.toList.map (·.1)=List.range' 0 n:=by rfl) (hz:xs.all (fun q=>Nat.beq q.length sz)=true:=by rfl) (h24:Nat.ble (n * sz) 16777216=true:=by rfl) (hd:Nat.ble nt d=false:=by rfl):
  br P r ops Q nt D (⟨some d,.buildSlice t n parts,ty,pos,af,none⟩::rest) fr B L:=by
 obtain ⟨h1,h2⟩:=bo ok ht
 refine cw hd rfl (yx h1 h2 hv hxs hn hi hz h24) fun c L' hh=>?_
 obtain ⟨h1,h2⟩:=hh
 subst h1;subst h2
 exact h
theorem bv {gs:KpL} {c0:Mem} {n0:Nat} {fr0:bT} {rest:List Oper} (ks:List Nat) (hk:gP (j3 l.toArray acc fr n0) ks=some fr0) (hr:l.drop n0=rest) (h:br P r l.toArray Q nt D rest fr0 B L):DA P l fr ⟨D5 P r l n0 Q nt D fr B none,gs,c0⟩ [] acc L:=
 ⟨.fin,rfl,by rw [←hr] at h;exact ve (eg ks hk) (fun _ _ h=>h) h⟩
theorem LQ {gs:KpL} {c0:Mem} {n0:Nat} {fr0:bT} {rest:List Oper} (ks:List Nat) (zz:gP (j3 l.toArray acc fr n0) ks=some fr0∧l.drop n0=rest) (h:br P r l.toArray Q nt D rest fr0 B L):DA P l fr ⟨D5 P r l n0 Q nt D fr B none,gs,c0⟩ [] acc L:=bv ks zz.1 zz.2 h
theorem yL {gs:KpL} {c0:Mem} {n0 kk:Nat} {ab:AB} {rest:List Oper} (ks:List Nat) (fr0:Nat→bT) (hk:∀b,gP (j3 l.toArray ((kk,.sc (.pointer (some ⟨b,0,none⟩)))::acc) fr n0) ks=some (fr0 b)) (hr:l.drop n0=rest) (h:∀b,br P r l.toArray Q nt D rest (fr0 b) B (L++[(b,ab)])):DA P l fr ⟨D5 P r l n0 Q nt D fr B (some (kk,ab)),gs,c0⟩ [] acc L:=
 ⟨.fin,rfl,fun b=>by have:=h b;rw [←hr] at this;exact ve (eg ks (hk b)) (fun _ _ h=>h) this⟩
end
end Go.Proofs.YtpmdfoaadejmkaaGreatDoor
namespace Go.Proofs.YtpmdfoaadejmkaaGreatDoor
open Go.RowKit
attribute [local irreducible] AT br AX AO Av Kt b7 dm DA cA
structure aR where
 Glyph:Int
 Cluster:Int
 Form:Int
 Advance:Int
 X:Int
 Y:Int
def bS (x:aR):List AV:=[aI x.Glyph,aI x.Cluster,aI x.Form,aI x.Advance,aI x.X,aI x.Y]
def H2 (ms:List Bool) (g:Int):Bool:=decide (0≤g) && ms.getD g.toNat false
def pD (ms:List Bool) (ig:Bool) (x:aR):Bool:= !(ig && H2 ms x.Glyph)
def kY (ms:List Bool) (ig:Bool) (run:List aR) (i:Nat):Bool:=match run[i]? with
 | some x=>pD ms ig x
 | none=>false
def eM (ms:List Bool) (ig:Bool) (run:List aR) (i:Nat):List Nat:=(List.range' i (run.length - i)).filter (kY ms ig run)
def ng (ms:List Bool) (ig:Bool) (run:List aR):Nat→List Nat
 | 0=>[]
 | i+1=>if kY ms ig run i=true then i::ng ms ig run i else ng ms ig run i
def eP (run:List aR) (i:Nat):Int:=match run[i]? with
 | some x=>x.Glyph
 | none=> -1
def f8:List (List Int)→List Int→Bool
 | [],_=>true
 | _::_,[]=>false
 | s::ss,g::gs=>s.contains g && f8 ss gs
def fb (ms:List Bool) (ig:Bool) (run:List aR) (i:Nat) (r:b8):Bool:=
 !r.In.isEmpty && (f8 (r.In++r.Ahead) ((eM ms ig run i).map (eP run)) && f8 r.Back ((ng ms ig run i).map (eP run)))
def lz (ms:List Bool) (ig:Bool) (run:List aR) (i:Nat) (forms:List Int):Bool:=match run[i]? with
 | some x=>pD ms ig x && (forms.isEmpty || forms.contains x.Form)
 | none=>false
def fm (ms:List Bool) (l:aO) (run:List aR) (i:Nat) (forms:List Int):Option b8:=if lz ms l.Ignore run i forms=true then l.Rules.find? (fb ms l.Ignore run i) else none
def dV (ms:List Bool) (l:aO) (run:List aR) (i:Nat) (r:b8):List Nat:=(eM ms l.Ignore run i).take r.In.length
def gM (r:b8) (i:Nat) (run:List aR):List aR:=match run[i]? with
 | none=>run
 | some x=>match r.Out[(r.In.headD []).idxOf x.Glyph]? with
  | none=>run
  | some g=>if (r.In.headD []).idxOf x.Glyph < (r.In.headD []).length then run.set i { x with Glyph:=g } else run
def ja (r:b8) (i:Nat) (run:List aR):List aR:=match run[i]? with
 | none=>run
 | some x=>if run.length - 1+r.Out.length > 500∧1 < r.Out.length then run else run.take i++(r.Out.map fun g=>{ x with Glyph:=g })++run.drop (i+1)
def fR:List Nat→List aR→List aR
 | [],run=>run
 | p::ps,run=>(fR ps run).eraseIdx p
def oM (run:List aR) (c:Int) (p:Nat):Int:=match run[p]? with
 | some x=>min c x.Cluster
 | none=>c
def iy (run:List aR) (ps:List Nat) (c:Int):Int:=ps.foldl (oM run) c
def nJ (r:b8) (ps:List Nat) (run:List aR):List aR:=match ps,r.Out with
 | p::q,g::_=>match run[p]? with
  | some x=>fR q (run.set p { x with Glyph:=g,Cluster:=iy run (p::q) x.Cluster })
  | none=>run
 | _,_=>run
def t6 (r:b8) (i:Nat) (run:List aR):List aR:=match run[i]? with
 | some x=>run.set i { x with Advance:=IntKind.i64.wrap (x.Advance+r.X) }
 | none=>run
def sj (ms:List Bool) (ig:Bool) (run:List aR) (i:Nat) (n:Int):Option Nat:=if 0≤n then (eM ms ig run i)[n.toNat]? else none
def gu (l:aO) (r:b8) (ps:List Nat) (run:List aR):List aR:=
 if l.Kind=1∨l.Kind=5 then gM r (ps.headD 0) run
 else if l.Kind=2 then ja r (ps.headD 0) run
 else if l.Kind=3 then nJ r ps run
 else if l.Kind=6 then t6 r (ps.headD 0) run
 else run
abbrev Jz:=aO→b8→List Nat→List aR→List aR
def ni (ms:List Bool) (ls:List aO) (d:Jz) (n:Int) (i:Nat) (run:List aR):List aR:=
 if n < 0 then run else match ls[n.toNat]? with
 | none=>run
 | some l=>if l.Kind < 1∨4 < l.Kind then run else match fm ms l run i [] with
  | none=>run
  | some r=>d l r (dV ms l run i r) run
def g8 (ms:List Bool) (ls:List aO) (d:Jz) (ig:Bool) (i:Nat) (run:List aR) (c:gO):List aR:=match sj ms ig run i c.At with
 | none=>run
 | some p=>ni ms ls d c.Lookup p run
def jH (ms:List Bool) (ls:List aO):Nat→Jz
 | 0=>fun l r ps run=>gu l r ps run
 | k+1=>fun l r ps run=>if l.Kind=4 then r.Calls.foldl (g8 ms ls (jH ms ls k) l.Ignore (ps.headD 0)) run else gu l r ps run
def t4 (l:aO) (i last:Nat) (run run':List aR):Nat:=
 if l.Kind=4 then max (run'.length - (run.length - 1 - last)) (i+1)
 else if l.Kind=6∧i < last then last
 else run'.length - (run.length - 1 - last)
def xS (ms:List Bool) (ls:List aO) (l:aO) (forms:List Int):Nat→Nat→List aR→List aR
 | 0,_,run=>run
 | k+1,i,run=>if i < run.length then match fm ms l run i forms with
   | none=>xS ms ls l forms k (i+1) run
   | some r=>xS ms ls l forms k (t4 l i ((dV ms l run i r).getLastD i) run (jH ms ls 4 l r (dV ms l run i r) run)) (jH ms ls 4 l r (dV ms l run i r) run)
  else run
def jL (ms:List Bool) (ls:List aO) (l:aO) (forms:List Int):Nat→List aR→List aR
 | 0,run=>run
 | i+1,run=>jL ms ls l forms i (match fm ms l run i forms with
  | none=>run
  | some r=>jH ms ls 4 l r (dV ms l run i r) run)
def dh (ms:List Bool) (ls:List aO) (n:Int) (run:List aR) (forms:List Int):List aR:=
 if n < 0 then run else match ls[n.toNat]? with
 | none=>run
 | some l=>if l.Kind < 1∨6 < l.Kind then run else if l.Kind=5 then jL ms ls l forms run.length run else xS ms ls l forms run.length 0 run
theorem W19 {A B:Prop} (k:B) (h:W00 B→A:=by intro k;(repeat' (first|refine aP ?_|refine aq ?_|refine ay ?_|refine au ?_));exact k.g):A:=h ⟨k⟩
theorem W1p {A B:Prop} (k:B) (h:W00 B→A:=by intro k;(repeat' (first|refine a9 ?_|refine a4 ?_|refine aP ?_|refine a6 ?_|refine aq ?_|refine ay ?_|refine au ?_));exact k.g):A:=h ⟨k⟩
theorem W1U {A B:Prop} (k:B) (h:W00 B→A:=by intro k;(repeat' (first|refine aD ?_|(apply eU;refine gk ?_)|fail));exact k.g):A:=h ⟨k⟩
theorem W21 {A B:Prop} (k:B) (h:W00 B→A:=by intro k;(repeat' (first|refine aP ?_|refine a6 ?_|refine aq ?_|refine ay ?_|refine au ?_));exact k.g):A:=h ⟨k⟩
theorem W2k {A B:Prop} (k:B) (h:W00 B→A:=by intro k;(repeat' (first|refine aD ?_|(apply dQ;refine eT ?_)|fail));exact k.g):A:=h ⟨k⟩
theorem W2l {A B:Prop} (k:B) (h:W00 B→A:=by intro k;(repeat' (first|(apply aU;refine aT ?_)|fail));exact k.g):A:=h ⟨k⟩
end Go.Proofs.YtpmdfoaadejmkaaGreatDoor
