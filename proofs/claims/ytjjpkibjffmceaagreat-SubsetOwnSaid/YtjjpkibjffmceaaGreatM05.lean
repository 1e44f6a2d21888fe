/-
  Steps that find their own facts.
-/
import Derived.Test.YtjjpkibjffmceaaGreatM04
import Derived.Test.YtjjpkibjffmceaaGreatProg
import Derived.KernelRfl
namespace Go.Proofs.YtjjpkibjffmceaaGreat
open Go.RowKit
section
variable {P:Program} {r:Option Nat} {ops:Array Oper} {Q:Exit→Act→World→Prop} {nt:Nat} {D:List Deferred} {fr:cu} {B:Bs} {L:AL} {rest:List Oper}
def DW (tt:TT) (nt:Nat):List Oper→cu→List Oper×cu
 | [],fr=>([],fr)
 | o::rest,fr=>match o.guard with
  | some _=>(o::rest,fr)
  | none=>match o.dst with
   | none=>(o::rest,fr)
   | some d=>match qR tt fr o.op with
    | none=>(o::rest,fr)
    | some u=>bif Nat.ble nt d then (o::rest,fr) else DW tt nt rest ((d,u)::fr)
theorem sg {tt:TT} (ok:fp P tt):∀(l:List Oper) (fr:cu) {rest':List Oper} {fr':cu},DW tt nt l fr=(rest',fr')→bW P r ops Q nt D rest' fr' B L→bW P r ops Q nt D l fr B L
 | [],fr,_,_,h,hn=>by cases h;exact hn
 | o::rest,fr,rest',fr',h,hn=>by
  obtain ⟨dst,op,ty,pos,af,g⟩:=o
  simp only [DW] at h
  cases g with
  | some _=>cases h;exact hn
  | none=>
   cases dst with
   | none=>cases h;exact hn
   | some d=>
    simp only at h
    cases hs:qR tt fr op with
    | none=>rw [hs] at h;cases h;exact hn
    | some u=>
     rw [hs] at h
     cases hb:Nat.ble nt d with
     | true=>rw [hb] at h;cases h;exact hn
     | false=>
      rw [hb] at h
      have hnd:Oper.noDefer ⟨some d,op,ty,pos,af,none⟩=true:=by
       cases op <;> first | rfl | (simp [qR,xw] at hs)
      exact dX (qS ok hs) hb hnd (sg ok rest _ h hn)
end
section
variable {P:Program} {tt:TT} {r:Option Nat} {ops:Array Oper} {Q:Exit→Act→World→Prop} {nt:Nat} {D:List Deferred} {fr fr':cu} {B:Bs} {L:AL} {rest rest':List Oper}
variable {d:Nat} {ty t t':TypeId} {pos:String} {af:Array Edge} {g:Option (Nat×Bool)} {x y z c:Operand} {u:AV}
theorem ae (ok:fp P tt) {op:Op} (_h1:qR tt fr op=some u) (h:DW tt nt (⟨some d,op,ty,pos,af,none⟩::rest) fr=(rest',fr')) (hn:bW P r ops Q nt D rest' fr' B L):bW P r ops Q nt D (⟨some d,op,ty,pos,af,none⟩::rest) fr B L:=sg ok _ _ h hn
theorem HK (ok:fp P tt) {op:Op} (zz:qR tt fr op=some u∧DW tt nt (⟨some d,op,ty,pos,af,none⟩::rest) fr=(rest',fr')) (hn:bW P r ops Q nt D rest' fr' B L):bW P r ops Q nt D (⟨some d,op,ty,pos,af,none⟩::rest) fr B L:=ae ok zz.1 zz.2 hn
theorem aW {op:BinOp} (h:bW P r ops Q nt D (⟨some d,.binOp op t x y t',ty,pos,af,none⟩::rest) fr B L):bW P r ops Q nt D (⟨some d,.binOp op t x y t',ty,pos,af,none⟩::rest) fr B L:=h
theorem aV {op:BinOp} (h:bW P r ops Q nt D rest ((d,u)::fr) B L) (ho:Av P ⟨some d,.binOp op t x y t',ty,pos,af,none⟩ fr u:=by first | exact wK rfl rfl (by omega) | exact wQ rfl rfl (by omega) | exact wO rfl rfl (by omega)) (hd:Nat.ble nt d=false:=by rfl):bW P r ops Q nt D (⟨some d,.binOp op t x y t',ty,pos,af,none⟩::rest) fr B L:=dX ho hd rfl h
def nH (tt:TT) (t:Nat):Option (Nat×Nat×Nat):=match dP tt t with
 | some ⟨.slice e sz by_,_,_⟩=>some (e,sz,by_)
 | _=>none
theorem cf (ok:fp P tt) {e sz by_:Nat} (h:nH tt t=some (e,sz,by_)):oC P t e sz by_∧0 < sz:=by
 unfold nH at h
 split at h
 ·rename_i e' sz' by' _ _ ht
  cases h
  exact ok.isSl ht rfl
 ·cases h
theorem aU (h:bW P r ops Q nt D (⟨some d,.indexAddr t x y,ty,pos,af,none⟩::rest) fr B L):bW P r ops Q nt D (⟨some d,.indexAddr t x y,ty,pos,af,none⟩::rest) fr B L:=h
def j9 (u:AV):Option (Nat×List (List AV)):=match u with
 | .imm s l=>some (s,l)
 | .vec _ s l=>some (s,l)
 | _=>none
theorem dm {s:Nat} {l:List (List AV)} (h:j9 u=some (s,l)):u.im= .imm s l:=by
 unfold j9 at h
 split at h <;> cases h <;> rfl
theorem aT (ok:fp P tt) {e sz by_ s:Nat} {l:List (List AV)} {k:IntKind} {i:Int} {es:List AV} (h:bW P r ops Q nt D rest ((d,.iptr es)::fr) B L) (ht:nH tt t=some (e,sz,by_):=by rfl) (hx:bO fr x=some u:=by rfl) (hu:j9 u=some (s,l):=by rfl) (hs:Nat.beq s sz=true:=by rfl) (hy:bO fr y=some (.sc (.int k i)):=by rfl) (h0:0≤i:=by omega) (hl:l[i.toNat]?=some es:=by first | assumption | (simp only [Int.toNat_natCast];assumption)) (hd:Nat.ble nt d=false:=by rfl):
  bW P r ops Q nt D (⟨some d,.indexAddr t x y,ty,pos,af,none⟩::rest) fr B L:=dX (wM (cf ok ht).1 hx (dm hu) hs hy h0 hl) hd rfl h
theorem aM (ok:fp P tt) {e sz by_ b off n cap:Nat} {k:IntKind} {i:Int} (h:bW P r ops Q nt D rest ((d,.sc (.pointer (some ⟨b,off+i.toNat * sz,none⟩)))::fr) B L) (ht:nH tt t=some (e,sz,by_):=by rfl) (hx:bO fr x=some (.sc (.slice (some ⟨b,off,none⟩) n cap)):=by rfl) (hy:bO fr y=some (.sc (.int k i)):=by rfl) (h0:0≤i∧i < n:=by omega) (hd:Nat.ble nt d=false:=by rfl):
  bW P r ops Q nt D (⟨some d,.indexAddr t x y,ty,pos,af,none⟩::rest) fr B L:=dX (tE (cf ok ht).1 hx hy h0) hd rfl h
def EF (tt:TT) (t:Nat):Bool:=match dP tt t with | some ti=> !ti.k.agg | none=>false
def FU (tt:TT) (t:Nat):Option Nat:=match dP tt t with | some ti=>bif ti.k.agg then some ti.size else none | none=>none
theorem dh (ok:fp P tt) (h:EF tt t=true):CA P t:=by
 unfold EF at h
 split at h
 ·rename_i ti ht
  exact ok.sc ht (by simpa using h)
 ·cases h
theorem ct (ok:fp P tt) {n:Nat} (h:FU tt t=some n):Ek P t n:=by
 unfold FU at h
 split at h
 ·rename_i ti ht
  cases hk:ti.k.agg with
  | true=>rw [hk] at h;cases h;exact ok.ag ht hk
  | false=>rw [hk] at h;cases h
 ·cases h
def FO (tt:TT) (t:Nat):Option Nat:=match dP tt t with | some ti=>some ti.size | none=>none
theorem lm (ok:fp P tt) {n:Nat} (h:FO tt t=some n):(P.info? t).map (·.size)=some n:=by
 unfold FO at h
 split at h
 ·rename_i ti ht
  cases h
  exact ok.size ht
 ·cases h
def zI (tt:TT) (t:Nat):Option (List Value):=match dP tt t with | some ti=>some ti.zero | none=>none
theorem f5 (ok:fp P tt) {zs:List Value} (h:zI tt t=some zs):CZ P t zs:=by
 unfold zI at h
 split at h
 ·rename_i ti ht
  cases h
  exact ok.zero ht
 ·cases h
theorem bK (h:bW P r ops Q nt D (⟨some d,.load t x,ty,pos,af,none⟩::rest) fr B L):bW P r ops Q nt D (⟨some d,.load t x,ty,pos,af,none⟩::rest) fr B L:=h
theorem am (ok:fp P tt) (i:Nat) {b k:Nat} {cs:List AV} {e:TypeId} (ht:EF tt t=true) (hx:bO fr x=some (.sc (.pointer (some ⟨b,k,none⟩)))) (hL:L[i]?=some (b,.box cs e)) (hc:cs[k]?=some u) (hd:Nat.ble nt d=false) (h:bW P r ops Q nt D rest ((d,u)::fr) B L):
  bW P r ops Q nt D (⟨some d,.load t x,ty,pos,af,none⟩::rest) fr B L:=dk hd rfl (sw i (dh ok ht) hx hL hc) fun c L' ⟨h1,h2⟩=>by subst h1;subst h2;exact h
theorem HO (ok:fp P tt) (i:Nat) {b k:Nat} {cs:List AV} {e:TypeId} (zz:EF tt t=true∧bO fr x=some (.sc (.pointer (some ⟨b,k,none⟩)))∧L[i]?=some (b,.box cs e)∧cs[k]?=some u∧Nat.ble nt d=false) (h:bW P r ops Q nt D rest ((d,u)::fr) B L):bW P r ops Q nt D (⟨some d,.load t x,ty,pos,af,none⟩::rest) fr B L:=am ok i zz.1 zz.2.1 zz.2.2.1 zz.2.2.2.1 zz.2.2.2.2 h
theorem HR (ok:fp P tt) (i:Nat) {b k:Nat} {cs:List AV} {e:TypeId} (zz:EF tt t=true∧bO fr x=some (.sc (.pointer (some ⟨b,k,none⟩)))∧L[i]?=some (b,.box cs e)) (hc:cs[k]?=some u) (hd:Nat.ble nt d=false) (h:bW P r ops Q nt D rest ((d,u)::fr) B L):bW P r ops Q nt D (⟨some d,.load t x,ty,pos,af,none⟩::rest) fr B L:=am ok i zz.1 zz.2.1 zz.2.2 hc hd h
theorem aE (ok:fp P tt) (i:Nat) {b k n:Nat} {cs:List AV} {e:TypeId} (ht:FU tt t=some n) (hx:bO fr x=some (.sc (.pointer (some ⟨b,k,none⟩)))) (hL:L[i]?=some (b,.box cs e)) (hc:Nat.ble (k+n) cs.length=true) (hd:Nat.ble nt d=false) (h:bW P r ops Q nt D rest ((d,.agg ((cs.drop k).take n))::fr) B L):
  bW P r ops Q nt D (⟨some d,.load t x,ty,pos,af,none⟩::rest) fr B L:=dk hd rfl (tL i (ct ok ht) hx hL hc) fun c L' ⟨h1,h2⟩=>by subst h1;subst h2;exact h
theorem HP (ok:fp P tt) (i:Nat) {b k n:Nat} {cs:List AV} {e:TypeId} (zz:FU tt t=some n∧bO fr x=some (.sc (.pointer (some ⟨b,k,none⟩)))∧L[i]?=some (b,.box cs e)∧Nat.ble (k+n) cs.length=true∧Nat.ble nt d=false) (h:bW P r ops Q nt D rest ((d,.agg ((cs.drop k).take n))::fr) B L):bW P r ops Q nt D (⟨some d,.load t x,ty,pos,af,none⟩::rest) fr B L:=aE ok i zz.1 zz.2.1 zz.2.2.1 zz.2.2.2.1 zz.2.2.2.2 h
theorem aG (h:bW P r ops Q nt D (⟨none,.store t x y,ty,pos,af,none⟩::rest) fr B L):bW P r ops Q nt D (⟨none,.store t x y,ty,pos,af,none⟩::rest) fr B L:=h
theorem aj (ok:fp P tt) (i:Nat) {b k n:Nat} {cs ys:List AV} {e:TypeId} (ht:FO tt t=some n) (hx:bO fr x=some (.sc (.pointer (some ⟨b,k,none⟩)))) (hy:bO fr y=some u) (hu:u.cells=some ys) (hL:L[i]?=some (b,.box cs e)) (hn:Nat.beq ys.length n=true) (hk:Nat.ble (k+n) cs.length=true) (h:bW P r ops Q nt D rest fr B (g7 L i (.box (iw cs k ys) e))):
  bW P r ops Q nt D (⟨none,.store t x y,ty,pos,af,none⟩::rest) fr B L:=kJ rfl (mO i (lm ok ht) hx hy hu hL hn hk) fun c L' h1=>by subst h1;exact h
theorem HM (ok:fp P tt) (i:Nat) {b k n:Nat} {cs ys:List AV} {e:TypeId} (zz:FO tt t=some n∧bO fr x=some (.sc (.pointer (some ⟨b,k,none⟩)))∧bO fr y=some u∧u.cells=some ys∧L[i]?=some (b,.box cs e)∧Nat.beq ys.length n=true∧Nat.ble (k+n) cs.length=true) (h:bW P r ops Q nt D rest fr B (g7 L i (.box (iw cs k ys) e))):bW P r ops Q nt D (⟨none,.store t x y,ty,pos,af,none⟩::rest) fr B L:=aj ok i zz.1 zz.2.1 zz.2.2.1 zz.2.2.2.1 zz.2.2.2.2.1 zz.2.2.2.2.2.1 zz.2.2.2.2.2.2 h
theorem s8 {cs:List AV} (h:∀b,bW P r ops Q nt D rest ((d,.sc (.pointer (some ⟨b,0,none⟩)))::fr) B ((b,.box cs t)::L)) (hx:bO fr x=some u:=by rfl) (hc:u.cells=some cs:=by rfl) (hd:Nat.ble nt d=false:=by rfl):
  bW P r ops Q nt D (⟨some d,.box t x,ty,pos,af,none⟩::rest) fr B L:=dk hd rfl (Aa hx hc) fun c L' hh=>by obtain ⟨b,h1,h2⟩:=hh;subst h1;subst h2;exact h b
theorem bh {cs:List AV} (h:bW P r ops Q nt D rest ((d,.iptr cs)::fr) B L) (hx:bO fr x=some u:=by rfl) (hc:u.cells=some cs:=by rfl) (hn:Nat.ble cs.length 1000000=true:=by rfl) (hd:Nat.ble nt d=false:=by rfl):
  bW P r ops Q nt D (⟨some d,.box t x,ty,pos,af,none⟩::rest) fr B L:=dk hd rfl (CP hx hc hn) fun c L' hh=>by obtain ⟨h1,h2⟩:=hh;subst h1;subst h2;exact h
theorem ai (tm:Nat) (ok:fp P tt) (i:Nat) {b n:Nat} {cs ys:List AV} {e:TypeId} (ht:FO tt t=some n) (hx:cw fr tm=some (.sc (.pointer (some ⟨b,0,none⟩)))) (hy:bO fr y=some u) (hu:u.cells=some ys) (hL:L[i]?=some (b,.box cs e)) (hn:Nat.beq ys.length n=true) (hk:Nat.beq n cs.length=true) (hn6:Nat.ble ys.length 1000000=true) (h:bW P r ops Q nt D rest ((tm,.iptr ys)::fr) B (L.eraseIdx i)):
  bW P r ops Q nt D (⟨none,.store t (.tmp tm) y,ty,pos,af,none⟩::rest) fr B L:=by
 have hn':ys.length=n:=by rwa [Nat.beq_eq] at hn
 have hk':n=cs.length:=by rwa [Nat.beq_eq] at hk
 refine kJ rfl (mO i (lm ok ht) hx hy hu hL hn (by rw [Nat.ble_eq];omega)) fun c L' h1=>?_
 subst h1
 have hput:iw cs 0 ys=ys:=by
  apply List.ext_getElem?
  intro j
  rw [nv _ _ _ _ (by omega)]
  by_cases hj:j < ys.length
  ·rw [if_pos (by omega),Nat.sub_zero]
  ·rw [if_neg (by omega),List.getElem?_eq_none (by omega),List.getElem?_eq_none (by omega)]
 rw [hput]
 have hgi:(g7 L i (.box ys e))[i]?=some (b,.box ys e):=by
  clear h
  induction L generalizing i with
  | nil=>simp at hL
  | cons p q ih=>
   cases i with
   | zero=>simp at hL;subst hL;rfl
   | succ i=>simp only [List.getElem?_cons_succ] at hL;simp only [g7,List.getElem?_cons_succ];exact ih i hL
 have her:(g7 L i (.box ys e)).eraseIdx i=L.eraseIdx i:=by
  clear h hgi
  induction L generalizing i with
  | nil=>simp at hL
  | cons p q ih=>
   cases i with
   | zero=>rfl
   | succ i=>simp only [List.getElem?_cons_succ] at hL;simp only [g7,List.eraseIdx_cons_succ];rw [ih i hL]
 have:=qX (nt:=nt) (D:=D) (B:=B) (fr:=fr) i hx hgi hn6
 rw [her] at this
 exact aO this h
theorem HN (tm:Nat) (ok:fp P tt) (i:Nat) {b n:Nat} {cs ys:List AV} {e:TypeId} (zz:FO tt t=some n∧cw fr tm=some (.sc (.pointer (some ⟨b,0,none⟩)))∧bO fr y=some u∧u.cells=some ys∧L[i]?=some (b,.box cs e)∧Nat.beq ys.length n=true∧Nat.beq n cs.length=true∧Nat.ble ys.length 1000000=true) (h:bW P r ops Q nt D rest ((tm,.iptr ys)::fr) B (L.eraseIdx i)):bW P r ops Q nt D (⟨none,.store t (.tmp tm) y,ty,pos,af,none⟩::rest) fr B L:=ai tm ok i zz.1 zz.2.1 zz.2.2.1 zz.2.2.2.1 zz.2.2.2.2.1 zz.2.2.2.2.2.1 zz.2.2.2.2.2.2.1 zz.2.2.2.2.2.2.2 h
theorem aX (ok:fp P tt) {zs:List Value} (h:∀b,bW P r ops Q nt D rest ((d,.sc (.pointer (some ⟨b,0,none⟩)))::fr) B ((b,.box (zs.map .sc) t)::L)) (hz:zI tt t=some zs:=by rfl) (h1:zs.all (·.oneCell')=true:=by rfl) (hd:Nat.ble nt d=false:=by rfl):
  bW P r ops Q nt D (⟨some d,.alloc t,ty,pos,af,none⟩::rest) fr B L:=by
 have hz':=f5 ok hz
 refine dk hd rfl (gA hz' h1) fun c L' hh=>?_
 obtain ⟨b,h1,h2⟩:=hh
 subst h1;subst h2
 exact h b
theorem ji (ok:fp P tt) {e sz by_ n:Nat} {parts:Array (Nat×Operand)} {vs:List AV} {xs:List (List AV)} (h:∀b,bW P r ops Q nt D rest ((d,.vec (some (b,n)) sz xs)::fr) B ((b,.vec e sz n n)::L)) (ht:nH tt t=some (e,sz,by_):=by rfl) (hv:eB fr (parts.toList.map (·.2))=some vs:=by rfl) (hxs:jS vs=some xs:=by rfl) (hn:Nat.beq xs.length n=true:=by rfl) (hi:parts.toList.map (·.1)=List.range' 0 n:=by rfl) (hz:xs.all (fun q=>Nat.beq q.length sz)=true:=by rfl) (h24:Nat.ble (n * sz) 16777216=true:=by rfl) (hd:Nat.ble nt d=false:=by rfl):
  bW P r ops Q nt D (⟨some d,.buildSlice t n parts,ty,pos,af,none⟩::rest) fr B L:=by
 obtain ⟨h1,h2⟩:=cf ok ht
 refine dk hd rfl (Ae h1 h2 hv hxs hn hi hz h24) fun c L' hh=>?_
 obtain ⟨b,h1,h2⟩:=hh
 subst h1;subst h2
 exact h b
theorem bB (ok:fp P tt) (L0:AL) {e sz by_:Nat} {k:Option (Nat×Nat)} {l l2:List (List AV)} (ht:nH tt t=some (e,sz,by_)) (hx:bO fr x=some (.vec k sz l)) (hy:bO fr y=some u) (hu:j9 u=some (sz,l2)) (hL:L.Perm (_root_.Go.Proofs.YtjjpkibjffmceaaGreat.tok k e sz l.length++L0)) (h63:l.length+l2.length≤9223372036854775807) (hby:(l.length+l2.length) * by_≤140737488355328) (hd:Nat.ble nt d=false)
  (h:∀k',bW P r ops Q nt D rest ((d,.vec k' sz (l++l2))::fr) B (_root_.Go.Proofs.YtjjpkibjffmceaaGreat.tok k' e sz (l++l2).length++L0)):
  bW P r ops Q nt D (⟨some d,.call ⟨.builtin .append,#[x,y],#[t,t]⟩,ty,pos,af,none⟩::rest) fr B L:=dk hd rfl (nP L0 (cf ok ht).1 (cf ok ht).2 hx hy (dm hu) hL h63 hby) fun c L' ⟨k',h1,h2⟩=>by subst h1;subst h2;exact h k'
class AD (P:Program) (f:FuncId) (args:List AV) (u:outParam AV):Prop where
 det:bV P f args u
theorem bq {f:FuncId} {args:Array Operand} {ts:Array TypeId} (h:bW P r ops Q nt D (⟨some d,.call ⟨.value (.func f),args,ts⟩,ty,pos,af,none⟩::rest) fr B L):bW P r ops Q nt D (⟨some d,.call ⟨.value (.func f),args,ts⟩,ty,pos,af,none⟩::rest) fr B L:=h
theorem bg {f:FuncId} {args:Array Operand} {ts:Array TypeId} {cs ds:List AV} [bN P f] (h:bW P r ops Q nt D rest ((d,u)::fr) B L) (hv:eB fr args.toList=some cs:=by rfl) (hi:jq cs=some ds:=by rfl) (hc:AD P f ds u:=by infer_instance) (hd:Nat.ble nt d=false:=by rfl):
  bW P r ops Q nt D (⟨some d,.call ⟨.value (.func f),args,ts⟩,ty,pos,af,none⟩::rest) fr B L:=dk hd rfl (Ac (u:=u) hv (by rw [gE hi];exact hc.det)) fun c L' hh=>by obtain ⟨h1,h2⟩:=hh;subst h1;subst h2;exact h
theorem bP {cd:Operand} {xx yy:Code} (hc:bO fr cd=some (.sc (.bool true))) (h:AT P r xx Q nt D fr B L):AT P r (.cond cd xx yy) Q nt D fr B L:=ay hc (fun _=>h) (fun e=>by cases e)
theorem bF {cd:Operand} {xx yy:Code} (hc:bO fr cd=some (.sc (.bool false))) (h:AT P r yy Q nt D fr B L):AT P r (.cond cd xx yy) Q nt D fr B L:=ay hc (fun e=>by cases e) (fun _=>h)
end
def i6 (fr:cu):List Nat→Option cu
 | []=>some []
 | t::r=>match cw fr t with
  | some v=>match i6 fr r with
   | some q=>some ((t,v)::q)
   | none=>none
  | none=>none
theorem eC {fr:cu}:∀(ks:List Nat) {fr0:cu},i6 fr ks=some fr0→lY fr0 fr
 | [],fr0,h=>by simp [i6] at h;subst h;trivial
 | t::r,fr0,h=>by
  simp only [i6] at h
  split at h
  ·rename_i v hv
   split at h
   ·rename_i q hq
    cases h
    exact ⟨hv,eC r hq⟩
   ·cases h
  ·cases h
theorem mM {a b fr:cu} (ha:lY a fr) (hb:lY b fr):lY (a++b) fr:=by
 induction a with
 | nil=>exact hb
 | cons p r ih=>obtain ⟨i,v⟩:=p;exact ⟨ha.1,ih ha.2⟩
section
variable {P:Program} {r:Option Nat} {Q:Exit→Act→World→Prop} {nt:Nat} {D:List Deferred} {fr:cu} {B:Bs} {L:AL} {cd:Code}
def EG (nt:Nat) (D:List Deferred) (B:Bs) {α:Type} (Inv:α→cu) (J:α→AL→Prop) (μ:α→Nat) (x:α) (Q:Exit→Act→World→Prop):Exit→Act→World→Prop:=Exit.then (fun a w=>∃σ x' L',jm σ nt D (Inv x') a∧J x' L'∧dC B σ L' w∧μ x' < μ x) Q
def bA (nt:Nat) (D:List Deferred) (B:Bs) {α:Type} (V:α→cu) (fr0:cu) (C:α→Prop) (Lx:α→AL) (μ:α→Nat) (x:α) (Q:Exit→Act→World→Prop):Exit→Act→World→Prop:=EG nt D B (fun x=>V x++fr0) (fun x L'=>C x∧L'=Lx x) μ x Q
theorem aJ (ks:List Nat) {α:Type} (V:α→cu) (C:α→Prop) (Lx:α→AL) (μ:α→Nat) (x0:α) {fr0:cu} (hk:i6 fr ks=some fr0) (hV:lY (V x0) fr) (hC:C x0) (hL:∀σ w,dC B σ L w→dC B σ (Lx x0) w)
  (hb:∀x,C x→AT P r cd (bA nt D B V fr0 C Lx μ x Q) nt D (V x++fr0) B (Lx x)):AT P r (.loop cd) Q nt D fr B L:=
 CT (fun x=>V x++fr0) (fun x L'=>C x∧L'=Lx x) μ x0 (Lx x0) (mM hV (eC ks hk)) ⟨hC,rfl⟩ hL fun x L' ⟨h1,h2⟩=>by subst h2;exact hb x h1
theorem aB {α:Type} {V:α→cu} {fr0:cu} {C:α→Prop} {Lx:α→AL} {μ:α→Nat} {x:α} (x':α) (hk:i6 fr (fr0.map (·.1))=some fr0) (hV:lY (V x') fr) (hC:C x') (hm:μ x' < μ x) (hL:∀σ w,dC B σ L w→dC B σ (Lx x') w):
  AX P .normal (bA nt D B V fr0 C Lx μ x Q) nt D fr B L:=
 An x' (Lx x') (mM hV (eC _ hk)) ⟨hC,rfl⟩ hL hm
theorem aw {α:Type} {V:α→cu} {fr0:cu} {C:α→Prop} {Lx:α→AL} {μ:α→Nat} {x:α} {id:Nat} (h:AX P (.exit id) Q nt D fr B L):AX P (.exit id) (bA nt D B V fr0 C Lx μ x Q) nt D fr B L:=fun σ a w ha hw=>h σ a w ha hw
instance aB2 {α:Type} {V:α→cu} {fr0:cu} {C:α→Prop} {Lx:α→AL} {μ:α→Nat} {x:α} {id:Nat}:ac (AX P (.exit id) (bA nt D B V fr0 C Lx μ x Q) nt D fr B L) (AX P (.exit id) Q nt D fr B L):=⟨aw⟩
theorem bM {α:Type} {V:α→cu} {fr0:cu} {C:α→Prop} {Lx:α→AL} {μ:α→Nat} {x:α} (h:AX P .ret Q nt D fr B L):AX P .ret (bA nt D B V fr0 C Lx μ x Q) nt D fr B L:=fun σ a w ha hw=>h σ a w ha hw
instance aB3 {α:Type} {V:α→cu} {fr0:cu} {C:α→Prop} {Lx:α→AL} {μ:α→Nat} {x:α}:ac (AX P .ret (bA nt D B V fr0 C Lx μ x Q) nt D fr B L) (AX P .ret Q nt D fr B L):=⟨bM⟩
theorem CS {fr0:cu} (ks:List Nat) (hk:i6 fr ks=some fr0) (h:AT P r cd Q nt D fr0 B L):AT P r cd Q nt D fr B L:=jT (eC ks hk) (fun _ _ h=>h) h
end
theorem eo {P:Program} {r:Option Nat} {ops:Array Oper} {Q:Exit→Act→World→Prop} {nt:Nat} {D:List Deferred} {fr fr0:cu} {B:Bs} {L:AL} {rest:List Oper} {A A':Code} {t:Nat} (ks:List Nat) (C:Prop) (hks:i6 fr ks=some fr0) (h:∀Q',(∀fr' b,i6 fr' ks=some fr0→cw fr' t=some (.sc (.bool b))→(b=true↔C)→AX P .normal Q' nt D fr' B L)→bW P r ops Q' nt D rest fr B L) (hA:C→AT P r A Q nt D fr0 B L) (hB:¬C→AT P r A' Q nt D fr0 B L):bW P r ops (Kt P r (.cond (.tmp t) A A') Q) nt D rest fr B L:=by
 refine h _ fun fr' b hk hb hC=>?_
 refine a8 (ay hb (fun e=>?_) (fun e=>?_))
 ·exact jT (eC _ hk) (fun _ _ h=>h) (hA (hC.1 e))
 ·exact jT (eC _ hk) (fun _ _ h=>h) (hB fun hc=>by have:=hC.2 hc;rw [e] at this;cases this)
end Go.Proofs.YtjjpkibjffmceaaGreat
namespace Go.Proofs.YtjjpkibjffmceaaGreat
open Go.RowKit
theorem ar {P:Program} {f:FuncId} {fn:Func} {c:Code} (hf:P.funcs[f]?=some fn) (hname:(fn.name== "runtime.NumGoroutine")=false) (hb:fn.body=some c):∀args w,(callFunc f args).run P w= .ok (.enter f args) w:=by
 intro args w
 have hne:¬fn.name= "runtime.NumGoroutine" :=by simpa using hname
 simp [callFunc,hf,hne,hb]
theorem mixed:Tryz.prog.follows .mixedOrders=true:=by kernel_rfl
def tt:TT:=[none,
 some ⟨.other,1,[.nilFunc]⟩,
 some ⟨.int .i64,1,[.int .i64 0]⟩,
 some ⟨.int .i64,1,[.int .i64 0]⟩,
 some ⟨.bool,1,[.bool false]⟩,
 some ⟨.int .u8,1,[.int .u8 0]⟩,
 some ⟨.int .u8,1,[.int .u8 0]⟩,
 some ⟨.struct [(0,1,false),(1,1,false),(2,1,false),(3,1,false)],4,[.int .i64 0,.int .i64 0,.bool false,.int .u8 0]⟩,
 some ⟨.struct [(0,1,false),(1,1,false),(2,1,false),(3,1,false)],4,[.int .i64 0,.int .i64 0,.bool false,.int .u8 0]⟩,
 some ⟨.str,1,[.string ⟨#[]⟩]⟩,
 some ⟨.str,1,[.string ⟨#[]⟩]⟩,
 some ⟨.str,1,[.string ⟨#[]⟩]⟩,
 some ⟨.int .u64,1,[.int .u64 0]⟩,
 some ⟨.struct [(0,1,false),(1,1,false)],2,[.string ⟨#[]⟩,.int .u64 0]⟩,
 some ⟨.struct [(0,1,false),(1,1,false)],2,[.string ⟨#[]⟩,.int .u64 0]⟩,
 some ⟨.other,1,[.pointer none]⟩,
 some ⟨.other,1,[.pointer none]⟩,
 some ⟨.other,1,[.pointer none]⟩,
 some ⟨.struct [(0,1,false)],1,[.pointer none]⟩,
 some ⟨.struct [(0,1,false)],1,[.pointer none]⟩,
 some ⟨.other,1,[.nilIface]⟩,
 some ⟨.int .i32,1,[.int .i32 0]⟩,
 some ⟨.slice 3 1 8,1,[.slice none 0 0]⟩,
 some ⟨.int .u32,1,[.int .u32 0]⟩,
 some ⟨.struct [(0,1,false),(1,1,false),(2,1,false),(3,1,false),(4,1,false),(5,1,false)],6,[.slice none 0 0,.int .u32 0,.int .u32 0,.slice none 0 0,.slice none 0 0,.int .u32 0]⟩,
 some ⟨.struct [(0,1,false),(1,1,false),(2,1,false),(3,1,false),(4,1,false),(5,1,false)],6,[.slice none 0 0,.int .u32 0,.int .u32 0,.slice none 0 0,.slice none 0 0,.int .u32 0]⟩,
 some ⟨.arr 3 3 1,3,[.int .i64 0,.int .i64 0,.int .i64 0]⟩,
 some ⟨.other,1,[.nilFunc]⟩,
 some ⟨.slice 63 9 176,1,[.slice none 0 0]⟩,
 some ⟨.slice 68 2 16,1,[.slice none 0 0]⟩,
 some ⟨.slice 77 3 40,1,[.slice none 0 0]⟩,
 some ⟨.slice 83 2 40,1,[.slice none 0 0]⟩,
 some ⟨.slice 93 4 40,1,[.slice none 0 0]⟩,
 some ⟨.slice 98 1 24,1,[.slice none 0 0]⟩,
 some ⟨.slice 61 1 24,1,[.slice none 0 0]⟩,
 some ⟨.struct [(0,1,false),(1,1,false),(2,1,false),(3,1,false),(4,1,false),(5,1,false),(6,1,false),(7,1,false),(8,1,false)],9,[.int .i64 0,.slice none 0 0,.slice none 0 0,.slice none 0 0,.slice none 0 0,.slice none 0 0,.slice none 0 0,.slice none 0 0,.slice none 0 0]⟩,
 some ⟨.struct [(0,1,false),(1,1,false),(2,1,false),(3,1,false),(4,1,false),(5,1,false),(6,1,false),(7,1,false),(8,1,false)],9,[.int .i64 0,.slice none 0 0,.slice none 0 0,.slice none 0 0,.slice none 0 0,.slice none 0 0,.slice none 0 0,.slice none 0 0,.slice none 0 0]⟩,
 some ⟨.other,1,[.nilFunc]⟩,
 some ⟨.slice 9 1 16,1,[.slice none 0 0]⟩,
 some ⟨.struct [(0,1,false),(1,1,false)],2,[.slice none 0 0,.slice none 0 0]⟩,
 some ⟨.struct [(0,1,false),(1,1,false)],2,[.slice none 0 0,.slice none 0 0]⟩,
 some ⟨.other,1,[.nilFunc]⟩,
 some ⟨.other,1,[.nilFunc]⟩,
 some ⟨.arr 2 36 9,18,[.int .i64 0,.slice none 0 0,.slice none 0 0,.slice none 0 0,.slice none 0 0,.slice none 0 0,.slice none 0 0,.slice none 0 0,.slice none 0 0,.int .i64 0,.slice none 0 0,.slice none 0 0,.slice none 0 0,.slice none 0 0,.slice none 0 0,.slice none 0 0,.slice none 0 0,.slice none 0 0]⟩,
 some ⟨.int .i64,1,[.int .i64 0]⟩,
 none,
 some ⟨.other,1,[.nilFunc]⟩,
 none,
 some ⟨.other,1,[.nilFunc]⟩,
 some ⟨.other,1,[.nilFunc]⟩,
 some ⟨.other,1,[.nilFunc]⟩,
 some ⟨.other,1,[.nilFunc]⟩,
 some ⟨.other,1,[.nilFunc]⟩,
 some ⟨.other,1,[.nilFunc]⟩,
 some ⟨.other,1,[.nilFunc]⟩,
 some ⟨.slice 72 3 24,1,[.slice none 0 0]⟩,
 some ⟨.struct [(0,1,false),(1,1,false)],2,[.slice none 0 0,.slice none 0 0]⟩,
 some ⟨.struct [(0,1,false),(1,1,false)],2,[.slice none 0 0,.slice none 0 0]⟩,
 some ⟨.slice 65 3 24,1,[.slice none 0 0]⟩,
 some ⟨.slice 87 4 32,1,[.slice none 0 0]⟩,
 some ⟨.slice 89 4 32,1,[.slice none 0 0]⟩,
 some ⟨.slice 74 2 16,1,[.slice none 0 0]⟩,
 some ⟨.struct [(0,1,false),(1,1,false),(2,1,false),(3,2,true),(5,1,false),(6,1,false),(7,1,false),(8,1,false)],9,[.string ⟨#[]⟩,.int .i64 0,.bool false,.slice none 0 0,.slice none 0 0,.slice none 0 0,.slice none 0 0,.slice none 0 0,.slice none 0 0]⟩,
 some ⟨.struct [(0,1,false),(1,1,false),(2,1,false),(3,2,true),(5,1,false),(6,1,false),(7,1,false),(8,1,false)],9,[.string ⟨#[]⟩,.int .i64 0,.bool false,.slice none 0 0,.slice none 0 0,.slice none 0 0,.slice none 0 0,.slice none 0 0,.slice none 0 0]⟩,
 some ⟨.struct [(0,1,false),(1,1,false),(2,1,false)],3,[.int .i64 0,.int .i64 0,.int .i64 0]⟩,
 some ⟨.struct [(0,1,false),(1,1,false),(2,1,false)],3,[.int .i64 0,.int .i64 0,.int .i64 0]⟩,
 some ⟨.other,1,[.nilFunc]⟩,
 some ⟨.struct [(0,1,false),(1,1,false)],2,[.int .i64 0,.int .i64 0]⟩,
 some ⟨.struct [(0,1,false),(1,1,false)],2,[.int .i64 0,.int .i64 0]⟩,
 some ⟨.other,1,[.nilFunc]⟩,
 some ⟨.other,1,[.nilFunc]⟩,
 some ⟨.struct [(0,1,false),(1,1,false),(2,1,false)],3,[.int .i64 0,.int .i64 0,.bool false]⟩,
 some ⟨.struct [(0,1,false),(1,1,false),(2,1,false)],3,[.int .i64 0,.int .i64 0,.bool false]⟩,
 some ⟨.struct [(0,1,false),(1,1,false)],2,[.int .i64 0,.int .i64 0]⟩,
 some ⟨.struct [(0,1,false),(1,1,false)],2,[.int .i64 0,.int .i64 0]⟩,
 some ⟨.slice 81 6 128,1,[.slice none 0 0]⟩,
 some ⟨.struct [(0,1,false),(1,1,false),(2,1,false)],3,[.int .i64 0,.bool false,.slice none 0 0]⟩,
 some ⟨.struct [(0,1,false),(1,1,false),(2,1,false)],3,[.int .i64 0,.bool false,.slice none 0 0]⟩,
 some ⟨.slice 22 1 24,1,[.slice none 0 0]⟩,
 some ⟨.slice 91 2 16,1,[.slice none 0 0]⟩,
 some ⟨.struct [(0,1,false),(1,1,false),(2,1,false),(3,1,false),(4,1,false),(5,1,false)],6,[.slice none 0 0,.slice none 0 0,.slice none 0 0,.slice none 0 0,.slice none 0 0,.int .i64 0]⟩,
 some ⟨.struct [(0,1,false),(1,1,false),(2,1,false),(3,1,false),(4,1,false),(5,1,false)],6,[.slice none 0 0,.slice none 0 0,.slice none 0 0,.slice none 0 0,.slice none 0 0,.int .i64 0]⟩,
 some ⟨.struct [(0,1,false),(1,1,false)],2,[.string ⟨#[]⟩,.slice none 0 0]⟩,
 some ⟨.struct [(0,1,false),(1,1,false)],2,[.string ⟨#[]⟩,.slice none 0 0]⟩,
 some ⟨.other,1,[.nilFunc]⟩,
 some ⟨.other,1,[.nilFunc]⟩,
 some ⟨.struct [(0,1,false),(1,1,false),(2,1,false),(3,1,false)],4,[.int .i64 0,.int .i64 0,.int .i64 0,.int .i64 0]⟩,
 some ⟨.struct [(0,1,false),(1,1,false),(2,1,false),(3,1,false)],4,[.int .i64 0,.int .i64 0,.int .i64 0,.int .i64 0]⟩,
 some ⟨.struct [(0,1,false),(1,1,false),(2,1,false),(3,1,false)],4,[.int .i64 0,.int .i64 0,.int .i64 0,.int .i64 0]⟩,
 some ⟨.struct [(0,1,false),(1,1,false),(2,1,false),(3,1,false)],4,[.int .i64 0,.int .i64 0,.int .i64 0,.int .i64 0]⟩,
 some ⟨.struct [(0,1,false),(1,1,false)],2,[.int .i64 0,.int .i64 0]⟩,
 some ⟨.struct [(0,1,false),(1,1,false)],2,[.int .i64 0,.int .i64 0]⟩,
 some ⟨.struct [(0,1,false),(1,1,false),(2,1,false),(3,1,false)],4,[.string ⟨#[]⟩,.int .i64 0,.int .i64 0,.int .i64 0]⟩,
 some ⟨.struct [(0,1,false),(1,1,false),(2,1,false),(3,1,false)],4,[.string ⟨#[]⟩,.int .i64 0,.int .i64 0,.int .i64 0]⟩,
 some ⟨.struct [(0,1,false),(1,1,false),(2,1,false)],3,[.int .i64 0,.int .i64 0,.int .i64 0]⟩,
 some ⟨.struct [(0,1,false),(1,1,false),(2,1,false)],3,[.int .i64 0,.int .i64 0,.int .i64 0]⟩,
 some ⟨.slice 95 3 24,1,[.slice none 0 0]⟩,
 some ⟨.struct [(0,1,false)],1,[.slice none 0 0]⟩,
 some ⟨.struct [(0,1,false)],1,[.slice none 0 0]⟩,
 some ⟨.other,1,[.map none]⟩,
 some ⟨.other,1,[.nilFunc]⟩,
 some ⟨.struct [(0,9,true),(9,1,false),(10,1,false)],11,[.int .i64 0,.slice none 0 0,.slice none 0 0,.slice none 0 0,.slice none 0 0,.slice none 0 0,.slice none 0 0,.slice none 0 0,.slice none 0 0,.map none,.map none]⟩,
 some ⟨.struct [(0,9,true),(9,1,false),(10,1,false)],11,[.int .i64 0,.slice none 0 0,.slice none 0 0,.slice none 0 0,.slice none 0 0,.slice none 0 0,.slice none 0 0,.slice none 0 0,.slice none 0 0,.map none,.map none]⟩,
 some ⟨.other,1,[.nilFunc]⟩,
 some ⟨.other,1,[.nilFunc]⟩,
 some ⟨.other,1,[.nilFunc]⟩,
 some ⟨.other,1,[.nilFunc]⟩,
 some ⟨.other,1,[.nilFunc]⟩,
 some ⟨.other,1,[.nilFunc]⟩,
 some ⟨.other,1,[.nilFunc]⟩,
 some ⟨.other,1,[.nilFunc]⟩,
 some ⟨.other,1,[.nilFunc]⟩,
 some ⟨.other,1,[.nilFunc]⟩,
 some ⟨.other,1,[.nilFunc]⟩,
 some ⟨.other,1,[.nilFunc]⟩,
 some ⟨.other,1,[.nilFunc]⟩,
 some ⟨.other,1,[.nilFunc]⟩,
 some ⟨.other,1,[.nilFunc]⟩,
 some ⟨.other,1,[.nilFunc]⟩,
 some ⟨.other,1,[.nilFunc]⟩,
 some ⟨.other,1,[.map none]⟩,
 some ⟨.other,1,[.pointer none]⟩,
 some ⟨.other,1,[.nilFunc]⟩,
 some ⟨.other,1,[.nilFunc]⟩,
 some ⟨.int .i64,1,[.int .i64 0]⟩,
 some ⟨.other,1,[.pointer none]⟩,
 some ⟨.other,1,[.nilFunc]⟩,
 some ⟨.other,1,[.nilFunc]⟩,
 some ⟨.slice 4 1 1,1,[.slice none 0 0]⟩,
 some ⟨.slice 124 1 8,1,[.slice none 0 0]⟩,
 some ⟨.struct [(0,1,false),(1,1,false)],2,[.slice none 0 0,.slice none 0 0]⟩,
 some ⟨.struct [(0,1,false),(1,1,false)],2,[.slice none 0 0,.slice none 0 0]⟩,
 some ⟨.other,1,[.map none]⟩,
 some ⟨.other,1,[.pointer none]⟩,
 some ⟨.other,1,[.nilFunc]⟩,
 some ⟨.int .i64,1,[.int .i64 0]⟩,
 some ⟨.other,1,[.nilFunc]⟩,
 some ⟨.other,1,[.nilFunc]⟩,
 some ⟨.other,1,[.nilFunc]⟩,
 some ⟨.other,1,[.nilFunc]⟩,
 some ⟨.other,1,[.nilFunc]⟩,
 some ⟨.other,1,[.nilFunc]⟩,
 some ⟨.other,1,[.nilFunc]⟩,
 none,
 some ⟨.other,1,[.nilFunc]⟩,
 some ⟨.other,1,[.nilFunc]⟩,
 some ⟨.other,1,[.nilFunc]⟩,
 some ⟨.other,1,[.nilFunc]⟩,
 some ⟨.other,1,[.nilFunc]⟩,
 some ⟨.other,1,[.nilFunc]⟩,
 some ⟨.other,1,[.nilFunc]⟩,
 some ⟨.other,1,[.pointer none]⟩,
 some ⟨.struct [(0,1,false),(1,1,false),(2,9,true),(11,1,false)],12,[.slice none 0 0,.int .i64 0,.int .i64 0,.slice none 0 0,.slice none 0 0,.slice none 0 0,.slice none 0 0,.slice none 0 0,.slice none 0 0,.slice none 0 0,.slice none 0 0,.int .i64 0]⟩,
 some ⟨.struct [(0,1,false),(1,1,false),(2,9,true),(11,1,false)],12,[.slice none 0 0,.int .i64 0,.int .i64 0,.slice none 0 0,.slice none 0 0,.slice none 0 0,.slice none 0 0,.slice none 0 0,.slice none 0 0,.slice none 0 0,.slice none 0 0,.int .i64 0]⟩,
 some ⟨.other,1,[.nilFunc]⟩,
 some ⟨.slice 5 1 1,1,[.slice none 0 0]⟩,
 some ⟨.other,1,[.nilFunc]⟩,
 some ⟨.other,1,[.nilFunc]⟩,
 none,
 some ⟨.other,1,[.nilFunc]⟩,
 some ⟨.other,1,[.nilFunc]⟩,
 none,
 some ⟨.other,1,[.nilFunc]⟩,
 some ⟨.other,1,[.nilFunc]⟩,
 some ⟨.other,1,[.nilFunc]⟩,
 some ⟨.other,1,[.nilFunc]⟩,
 some ⟨.other,1,[.nilFunc]⟩,
 some ⟨.other,1,[.nilFunc]⟩,
 none,
 some ⟨.other,1,[.nilFunc]⟩,
 some ⟨.other,1,[.nilFunc]⟩,
 some ⟨.other,1,[.nilFunc]⟩,
 none,
 none,
 some ⟨.other,1,[.nilFunc]⟩,
 some ⟨.other,1,[.nilFunc]⟩,
 some ⟨.other,1,[.nilFunc]⟩,
 none,
 some ⟨.other,1,[.nilFunc]⟩,
 some ⟨.other,1,[.nilFunc]⟩,
 some ⟨.slice 184 1 8,1,[.slice none 0 0]⟩,
 some ⟨.struct [(0,9,true),(9,1,false)],10,[.int .i64 0,.slice none 0 0,.slice none 0 0,.slice none 0 0,.slice none 0 0,.slice none 0 0,.slice none 0 0,.slice none 0 0,.slice none 0 0,.slice none 0 0]⟩,
 some ⟨.struct [(0,9,true),(9,1,false)],10,[.int .i64 0,.slice none 0 0,.slice none 0 0,.slice none 0 0,.slice none 0 0,.slice none 0 0,.slice none 0 0,.slice none 0 0,.slice none 0 0,.slice none 0 0]⟩,
 some ⟨.other,1,[.nilFunc]⟩,
 some ⟨.other,1,[.pointer none]⟩,
 some ⟨.struct [(0,6,true),(6,1,false),(7,1,false),(8,1,false)],9,[.slice none 0 0,.slice none 0 0,.slice none 0 0,.slice none 0 0,.slice none 0 0,.int .i64 0,.int .i64 0,.bool false,.slice none 0 0]⟩,
 some ⟨.struct [(0,6,true),(6,1,false),(7,1,false),(8,1,false)],9,[.slice none 0 0,.slice none 0 0,.slice none 0 0,.slice none 0 0,.slice none 0 0,.int .i64 0,.int .i64 0,.bool false,.slice none 0 0]⟩,
 some ⟨.other,1,[.nilFunc]⟩,
 some ⟨.other,1,[.nilFunc]⟩,
 some ⟨.other,1,[.nilFunc]⟩,
 some ⟨.other,1,[.nilFunc]⟩,
 some ⟨.other,1,[.nilFunc]⟩,
 some ⟨.other,1,[.nilFunc]⟩,
 some ⟨.other,1,[.nilFunc]⟩,
 some ⟨.slice 135 1 8,1,[.slice none 0 0]⟩,
 some ⟨.struct [(0,1,false),(1,1,false)],2,[.slice none 0 0,.slice none 0 0]⟩,
 some ⟨.struct [(0,1,false),(1,1,false)],2,[.slice none 0 0,.slice none 0 0]⟩,
 some ⟨.other,1,[.nilFunc]⟩,
 some ⟨.other,1,[.nilFunc]⟩,
 none,
 some ⟨.other,1,[.nilFunc]⟩,
 some ⟨.other,1,[.nilFunc]⟩,
 some ⟨.other,1,[.nilFunc]⟩,
 some ⟨.arr 2 3 1,2,[.int .i64 0,.int .i64 0]⟩,
 some ⟨.slice 203 2 16,1,[.slice none 0 0]⟩,
 some ⟨.other,1,[.nilFunc]⟩,
 none,
 none,
 some ⟨.other,1,[.nilFunc]⟩,
 some ⟨.other,1,[.nilFunc]⟩,
 some ⟨.other,1,[.nilFunc]⟩,
 some ⟨.other,1,[.nilFunc]⟩,
 some ⟨.arr 3 78 1,3,[.slice none 0 0,.slice none 0 0,.slice none 0 0]⟩,
 some ⟨.other,1,[.nilFunc]⟩,
 some ⟨.other,1,[.nilFunc]⟩,
 some ⟨.other,1,[.nilFunc]⟩,
 some ⟨.other,1,[.nilFunc]⟩,
 none,
 some ⟨.other,1,[.map none]⟩,
 some ⟨.other,1,[.nilFunc]⟩,
 some ⟨.other,1,[.nilFunc]⟩,
 some ⟨.other,1,[.nilFunc]⟩,
 some ⟨.other,1,[.nilFunc]⟩,
 some ⟨.other,1,[.nilFunc]⟩,
 some ⟨.other,1,[.nilFunc]⟩,
 some ⟨.other,1,[.nilFunc]⟩,
 some ⟨.other,1,[.nilFunc]⟩,
 some ⟨.other,1,[.nilFunc]⟩,
 some ⟨.other,1,[.nilFunc]⟩,
 some ⟨.other,1,[.nilFunc]⟩,
 some ⟨.other,1,[.nilFunc]⟩,
 some ⟨.other,1,[.nilFunc]⟩,
 some ⟨.other,1,[.nilFunc]⟩,
 some ⟨.other,1,[.nilFunc]⟩,
 some ⟨.other,1,[.nilFunc]⟩,
 some ⟨.other,1,[.nilFunc]⟩,
 some ⟨.other,1,[.nilFunc]⟩,
 some ⟨.other,1,[.nilFunc]⟩,
 some ⟨.other,1,[.nilFunc]⟩,
 some ⟨.other,1,[.nilFunc]⟩,
 some ⟨.other,1,[.nilFunc]⟩,
 some ⟨.other,1,[.nilFunc]⟩,
 some ⟨.other,1,[.nilFunc]⟩,
 some ⟨.other,1,[.nilFunc]⟩,
 some ⟨.other,1,[.nilFunc]⟩,
 some ⟨.other,1,[.nilFunc]⟩,
 some ⟨.other,1,[.nilFunc]⟩,
 some ⟨.other,1,[.nilFunc]⟩,
 some ⟨.other,1,[.nilFunc]⟩,
 some ⟨.other,1,[.nilFunc]⟩,
 some ⟨.other,1,[.nilFunc]⟩,
 some ⟨.other,1,[.nilFunc]⟩,
 some ⟨.other,1,[.nilFunc]⟩,
 some ⟨.other,1,[.nilFunc]⟩,
 some ⟨.other,1,[.nilFunc]⟩,
 some ⟨.slice 78 1 24,1,[.slice none 0 0]⟩,
 some ⟨.other,1,[.nilFunc]⟩,
 some ⟨.other,1,[.nilFunc]⟩,
 some ⟨.other,1,[.nilFunc]⟩,
 some ⟨.other,1,[.nilFunc]⟩,
 some ⟨.other,1,[.nilFunc]⟩,
 some ⟨.int .u64,1,[.int .u64 0]⟩,
 some ⟨.other,1,[.nilFunc]⟩,
 some ⟨.other,1,[.nilFunc]⟩,
 none,
 some ⟨.other,1,[.nilFunc]⟩,
 none,
 some ⟨.slice 227 1 8,1,[.slice none 0 0]⟩,
 some ⟨.other,1,[.nilFunc]⟩,
 some ⟨.other,1,[.nilFunc]⟩,
 some ⟨.other,1,[.nilFunc]⟩,
 some ⟨.other,1,[.nilFunc]⟩,
 some ⟨.other,1,[.nilFunc]⟩,
 some ⟨.other,1,[.nilFunc]⟩,
 some ⟨.other,1,[.nilFunc]⟩,
 some ⟨.other,1,[.nilFunc]⟩,
 some ⟨.other,1,[.nilFunc]⟩,
 some ⟨.other,1,[.nilFunc]⟩,
 some ⟨.other,1,[.nilFunc]⟩,
 some ⟨.other,1,[.nilFunc]⟩,
 some ⟨.other,1,[.nilFunc]⟩,
 some ⟨.other,1,[.nilFunc]⟩,
 none,
 some ⟨.other,1,[.nilFunc]⟩,
 some ⟨.other,1,[.nilFunc]⟩,
 some ⟨.other,1,[.nilFunc]⟩,
 some ⟨.other,1,[.nilFunc]⟩,
 some ⟨.other,1,[.nilFunc]⟩,
 some ⟨.other,1,[.nilFunc]⟩,
 some ⟨.other,1,[.nilFunc]⟩,
 some ⟨.other,1,[.nilFunc]⟩,
 some ⟨.other,1,[.nilFunc]⟩,
 some ⟨.other,1,[.nilFunc]⟩,
 some ⟨.other,1,[.nilFunc]⟩,
 some ⟨.other,1,[.nilFunc]⟩,
 some ⟨.other,1,[.nilFunc]⟩,
 some ⟨.other,1,[.nilFunc]⟩,
 some ⟨.other,1,[.nilFunc]⟩,
 some ⟨.other,1,[.nilFunc]⟩,
 some ⟨.other,1,[.nilFunc]⟩,
 some ⟨.int .i64,1,[.int .i64 0]⟩,
 none,
 some ⟨.other,1,[.nilFunc]⟩,
 some ⟨.other,1,[.nilFunc]⟩,
 some ⟨.other,1,[.nilFunc]⟩,
 some ⟨.other,1,[.nilFunc]⟩,
 some ⟨.other,1,[.nilFunc]⟩,
 some ⟨.other,1,[.nilFunc]⟩,
 some ⟨.other,1,[.nilFunc]⟩,
 some ⟨.int .u64,1,[.int .u64 0]⟩,
 some ⟨.other,1,[.nilFunc]⟩,
 some ⟨.other,1,[.nilFunc]⟩,
 some ⟨.other,1,[.nilFunc]⟩,
 some ⟨.other,1,[.nilFunc]⟩,
 some ⟨.other,1,[.nilFunc]⟩,
 some ⟨.other,1,[.nilFunc]⟩,
 some ⟨.other,1,[.map none]⟩,
 some ⟨.struct [(0,1,false),(1,1,false)],2,[.int .i64 0,.int .i64 0]⟩,
 some ⟨.struct [(0,1,false),(1,1,false)],2,[.int .i64 0,.int .i64 0]⟩,
 some ⟨.other,1,[.nilFunc]⟩,
 some ⟨.struct [(0,1,false),(1,1,false)],2,[.int .i64 0,.int .i64 0]⟩,
 some ⟨.struct [(0,1,false),(1,1,false)],2,[.int .i64 0,.int .i64 0]⟩,
 some ⟨.other,1,[.nilFunc]⟩,
 some ⟨.other,1,[.nilFunc]⟩,
 some ⟨.other,1,[.nilFunc]⟩,
 some ⟨.other,1,[.nilFunc]⟩,
 some ⟨.other,1,[.nilFunc]⟩,
 some ⟨.other,1,[.nilFunc]⟩,
 some ⟨.other,1,[.nilFunc]⟩,
 some ⟨.other,1,[.nilFunc]⟩,
 some ⟨.int .u64,1,[.int .u64 0]⟩,
 some ⟨.other,1,[.nilFunc]⟩,
 some ⟨.other,1,[.nilFunc]⟩,
 some ⟨.other,1,[.nilFunc]⟩,
 some ⟨.other,1,[.pointer none]⟩,
 some ⟨.other,1,[.nilFunc]⟩,
 some ⟨.other,1,[.map none]⟩,
 some ⟨.slice 3 1 8,1,[.slice none 0 0]⟩,
 some ⟨.other,1,[.nilFunc]⟩,
 some ⟨.other,1,[.nilFunc]⟩,
 some ⟨.other,1,[.nilFunc]⟩,
 some ⟨.other,1,[.nilFunc]⟩,
 some ⟨.other,1,[.pointer none]⟩,
 some ⟨.other,1,[.nilFunc]⟩,
 some ⟨.other,1,[.nilFunc]⟩,
 some ⟨.other,1,[.nilFunc]⟩,
 some ⟨.other,1,[.nilFunc]⟩,
 some ⟨.other,1,[.nilFunc]⟩,
 some ⟨.other,1,[.nilFunc]⟩,
 some ⟨.other,1,[.nilFunc]⟩,
 some ⟨.other,1,[.nilFunc]⟩,
 some ⟨.other,1,[.nilFunc]⟩,
 some ⟨.other,1,[.pointer none]⟩,
 none,
 some ⟨.other,1,[.nilFunc]⟩,
 some ⟨.other,1,[.nilFunc]⟩,
 some ⟨.other,1,[.nilIface]⟩,
 some ⟨.other,1,[.nilIface]⟩,
 some ⟨.other,1,[.nilFunc]⟩,
 some ⟨.other,1,[.nilFunc]⟩,
 some ⟨.other,1,[.nilFunc]⟩,
 some ⟨.other,1,[.nilFunc]⟩,
 some ⟨.other,1,[.nilFunc]⟩,
 some ⟨.other,1,[.nilFunc]⟩,
 some ⟨.slice 366 2 16,1,[.slice none 0 0]⟩,
 some ⟨.struct [(0,1,false),(1,1,false)],2,[.int .i64 0,.int .i64 0]⟩,
 some ⟨.struct [(0,1,false),(1,1,false)],2,[.int .i64 0,.int .i64 0]⟩,
 some ⟨.other,1,[.pointer none]⟩,
 some ⟨.other,1,[.nilFunc]⟩,
 some ⟨.struct [(0,1,false),(1,1,false),(2,1,false),(3,1,false)],4,[.pointer none,.pointer none,.pointer none,.string ⟨#[]⟩]⟩,
 some ⟨.struct [(0,1,false),(1,1,false),(2,1,false),(3,1,false)],4,[.pointer none,.pointer none,.pointer none,.string ⟨#[]⟩]⟩,
 none,
 none,
 none,
 some ⟨.int .u8,1,[.int .u8 0]⟩,
 some ⟨.int .u8,1,[.int .u8 0]⟩,
 some ⟨.other,1,[.nilFunc]⟩,
 some ⟨.other,1,[.pointer none]⟩,
 some ⟨.int .i32,1,[.int .i32 0]⟩,
 some ⟨.int .i32,1,[.int .i32 0]⟩,
 some ⟨.struct [(0,1,false),(1,1,false),(2,1,false),(3,1,false),(4,1,false),(5,1,false),(6,1,false),(7,1,false),(8,1,false),(9,1,false),(10,1,false)],11,[.int .u64 0,.int .u64 0,.int .u32 0,.int .u8 0,.int .u8 0,.int .u8 0,.int .u8 0,.nilFunc,.pointer none,.int .i32 0,.int .i32 0]⟩,
 some ⟨.struct [(0,1,false),(1,1,false),(2,1,false),(3,1,false),(4,1,false),(5,1,false),(6,1,false),(7,1,false),(8,1,false),(9,1,false),(10,1,false)],11,[.int .u64 0,.int .u64 0,.int .u32 0,.int .u8 0,.int .u8 0,.int .u8 0,.int .u8 0,.nilFunc,.pointer none,.int .i32 0,.int .i32 0]⟩,
 none,
 none,
 none,
 none,
 none,
 none,
 none,
 none,
 none,
 none,
 none,
 none,
 none,
 none,
 none,
 none,
 none,
 none,
 none,
 none,
 none,
 none,
 none,
 none,
 none,
 none,
 none,
 none,
 none,
 none,
 none,
 none,
 none,
 none,
 none,
 none,
 none,
 none]
theorem a6:fp Tryz.prog tt:=FP (by kernel_rfl)
theorem Ii {P:Program} {f:FuncId} {fn:Func} {c:Code} (hf:P.funcs[f]?=some fn) (hn:(fn.name== "runtime.NumGoroutine")=false:=by kernel_rfl) (hb:fn.body=some c:=by rfl):bN P f:=⟨ar hf hn hb⟩
instance:bN Tryz.prog 7:=Ii Tryz.func7
instance:bN Tryz.prog 8:=Ii Tryz.func8
instance:bN Tryz.prog 9:=Ii Tryz.func9
instance:bN Tryz.prog 11:=Ii Tryz.func11
instance:bN Tryz.prog 12:=Ii Tryz.func12
instance:bN Tryz.prog 13:=Ii Tryz.func13
instance:bN Tryz.prog 14:=Ii Tryz.func14
instance:bN Tryz.prog 15:=Ii Tryz.func15
instance:bN Tryz.prog 16:=Ii Tryz.func16
instance:bN Tryz.prog 18:=Ii Tryz.func18
instance:bN Tryz.prog 21:=Ii Tryz.func21
instance:bN Tryz.prog 22:=Ii Tryz.func22
instance:bN Tryz.prog 23:=Ii Tryz.func23
instance:bN Tryz.prog 24:=Ii Tryz.func24
instance:bN Tryz.prog 25:=Ii Tryz.func25
instance:bN Tryz.prog 26:=Ii Tryz.func26
instance:bN Tryz.prog 27:=Ii Tryz.func27
instance:bN Tryz.prog 28:=Ii Tryz.func28
instance:bN Tryz.prog 29:=Ii Tryz.func29
instance:bN Tryz.prog 30:=Ii Tryz.func30
instance:bN Tryz.prog 31:=Ii Tryz.func31
instance:bN Tryz.prog 32:=Ii Tryz.func32
instance:bN Tryz.prog 33:=Ii Tryz.func33
instance:bN Tryz.prog 34:=Ii Tryz.func34
instance:bN Tryz.prog 35:=Ii Tryz.func35
instance:bN Tryz.prog 36:=Ii Tryz.func36
instance:bN Tryz.prog 37:=Ii Tryz.func37
instance:bN Tryz.prog 38:=Ii Tryz.func38
instance:bN Tryz.prog 39:=Ii Tryz.func39
instance:bN Tryz.prog 40:=Ii Tryz.func40
instance:bN Tryz.prog 41:=Ii Tryz.func41
instance:bN Tryz.prog 42:=Ii Tryz.func42
instance:bN Tryz.prog 43:=Ii Tryz.func43
instance:bN Tryz.prog 44:=Ii Tryz.func44
instance:bN Tryz.prog 45:=Ii Tryz.func45
instance:bN Tryz.prog 46:=Ii Tryz.func46
instance:bN Tryz.prog 47:=Ii Tryz.func47
instance:bN Tryz.prog 48:=Ii Tryz.func48
instance:bN Tryz.prog 49:=Ii Tryz.func49
instance:bN Tryz.prog 50:=Ii Tryz.func50
instance:bN Tryz.prog 51:=Ii Tryz.func51
instance:bN Tryz.prog 52:=Ii Tryz.func52
instance:bN Tryz.prog 58:=Ii Tryz.func58
instance:bN Tryz.prog 59:=Ii Tryz.func59
instance:bN Tryz.prog 60:=Ii Tryz.func60
instance:bN Tryz.prog 61:=Ii Tryz.func61
instance:bN Tryz.prog 63:=Ii Tryz.func63
instance:bN Tryz.prog 64:=Ii Tryz.func64
instance:bN Tryz.prog 65:=Ii Tryz.func65
instance:bN Tryz.prog 66:=Ii Tryz.func66
instance:bN Tryz.prog 67:=Ii Tryz.func67
instance:bN Tryz.prog 68:=Ii Tryz.func68
instance:bN Tryz.prog 69:=Ii Tryz.func69
instance:bN Tryz.prog 70:=Ii Tryz.func70
instance:bN Tryz.prog 71:=Ii Tryz.func71
instance:bN Tryz.prog 72:=Ii Tryz.func72
instance:bN Tryz.prog 73:=Ii Tryz.func73
instance:bN Tryz.prog 74:=Ii Tryz.func74
instance:bN Tryz.prog 75:=Ii Tryz.func75
instance:bN Tryz.prog 76:=Ii Tryz.func76
instance:bN Tryz.prog 77:=Ii Tryz.func77
instance:bN Tryz.prog 78:=Ii Tryz.func78
instance:bN Tryz.prog 79:=Ii Tryz.func79
instance:bN Tryz.prog 80:=Ii Tryz.func80
instance:bN Tryz.prog 81:=Ii Tryz.func81
instance:bN Tryz.prog 82:=Ii Tryz.func82
instance:bN Tryz.prog 83:=Ii Tryz.func83
instance:bN Tryz.prog 84:=Ii Tryz.func84
instance:bN Tryz.prog 85:=Ii Tryz.func85
instance:bN Tryz.prog 86:=Ii Tryz.func86
instance:bN Tryz.prog 87:=Ii Tryz.func87
instance:bN Tryz.prog 88:=Ii Tryz.func88
instance:bN Tryz.prog 89:=Ii Tryz.func89
instance:bN Tryz.prog 90:=Ii Tryz.func90
instance:bN Tryz.prog 91:=Ii Tryz.func91
instance:bN Tryz.prog 92:=Ii Tryz.func92
instance:bN Tryz.prog 95:=Ii Tryz.func95
instance:bN Tryz.prog 96:=Ii Tryz.func96
instance:bN Tryz.prog 97:=Ii Tryz.func97
instance:bN Tryz.prog 98:=Ii Tryz.func98
instance:bN Tryz.prog 99:=Ii Tryz.func99
instance:bN Tryz.prog 100:=Ii Tryz.func100
instance:bN Tryz.prog 101:=Ii Tryz.func101
instance:bN Tryz.prog 102:=Ii Tryz.func102
instance:bN Tryz.prog 103:=Ii Tryz.func103
instance:bN Tryz.prog 104:=Ii Tryz.func104
instance:bN Tryz.prog 105:=Ii Tryz.func105
instance:bN Tryz.prog 106:=Ii Tryz.func106
instance:bN Tryz.prog 107:=Ii Tryz.func107
instance:bN Tryz.prog 108:=Ii Tryz.func108
instance:bN Tryz.prog 109:=Ii Tryz.func109
instance:bN Tryz.prog 110:=Ii Tryz.func110
instance:bN Tryz.prog 111:=Ii Tryz.func111
instance:bN Tryz.prog 112:=Ii Tryz.func112
instance:bN Tryz.prog 113:=Ii Tryz.func113
instance:bN Tryz.prog 114:=Ii Tryz.func114
instance:bN Tryz.prog 115:=Ii Tryz.func115
instance:bN Tryz.prog 116:=Ii Tryz.func116
instance:bN Tryz.prog 117:=Ii Tryz.func117
instance:bN Tryz.prog 118:=Ii Tryz.func118
instance:bN Tryz.prog 119:=Ii Tryz.func119
instance:bN Tryz.prog 120:=Ii Tryz.func120
instance:bN Tryz.prog 121:=Ii Tryz.func121
instance:bN Tryz.prog 122:=Ii Tryz.func122
instance:bN Tryz.prog 123:=Ii Tryz.func123
instance:bN Tryz.prog 124:=Ii Tryz.func124
instance:bN Tryz.prog 125:=Ii Tryz.func125
instance:bN Tryz.prog 126:=Ii Tryz.func126
instance:bN Tryz.prog 127:=Ii Tryz.func127
instance:bN Tryz.prog 128:=Ii Tryz.func128
instance:bN Tryz.prog 129:=Ii Tryz.func129
instance:bN Tryz.prog 130:=Ii Tryz.func130
instance:bN Tryz.prog 131:=Ii Tryz.func131
instance:bN Tryz.prog 132:=Ii Tryz.func132
instance:bN Tryz.prog 133:=Ii Tryz.func133
instance:bN Tryz.prog 134:=Ii Tryz.func134
instance:bN Tryz.prog 135:=Ii Tryz.func135
instance:bN Tryz.prog 136:=Ii Tryz.func136
instance:bN Tryz.prog 137:=Ii Tryz.func137
instance:bN Tryz.prog 138:=Ii Tryz.func138
instance:bN Tryz.prog 139:=Ii Tryz.func139
instance:bN Tryz.prog 140:=Ii Tryz.func140
instance:bN Tryz.prog 141:=Ii Tryz.func141
instance:bN Tryz.prog 142:=Ii Tryz.func142
instance:bN Tryz.prog 143:=Ii Tryz.func143
instance:bN Tryz.prog 144:=Ii Tryz.func144
instance:bN Tryz.prog 145:=Ii Tryz.func145
instance:bN Tryz.prog 146:=Ii Tryz.func146
instance:bN Tryz.prog 147:=Ii Tryz.func147
instance:bN Tryz.prog 148:=Ii Tryz.func148
instance:bN Tryz.prog 151:=Ii Tryz.func151
instance:bN Tryz.prog 153:=Ii Tryz.func153
instance:bN Tryz.prog 154:=Ii Tryz.func154
instance:bN Tryz.prog 155:=Ii Tryz.func155
instance:bN Tryz.prog 156:=Ii Tryz.func156
instance:bN Tryz.prog 157:=Ii Tryz.func157
instance:bN Tryz.prog 158:=Ii Tryz.func158
instance:bN Tryz.prog 159:=Ii Tryz.func159
instance:bN Tryz.prog 160:=Ii Tryz.func160
instance:bN Tryz.prog 161:=Ii Tryz.func161
instance:bN Tryz.prog 162:=Ii Tryz.func162
instance:bN Tryz.prog 163:=Ii Tryz.func163
instance:bN Tryz.prog 164:=Ii Tryz.func164
instance:bN Tryz.prog 165:=Ii Tryz.func165
instance:bN Tryz.prog 166:=Ii Tryz.func166
instance:bN Tryz.prog 167:=Ii Tryz.func167
instance:bN Tryz.prog 168:=Ii Tryz.func168
instance:bN Tryz.prog 169:=Ii Tryz.func169
instance:bN Tryz.prog 170:=Ii Tryz.func170
instance:bN Tryz.prog 171:=Ii Tryz.func171
instance:bN Tryz.prog 172:=Ii Tryz.func172
instance:bN Tryz.prog 173:=Ii Tryz.func173
instance:bN Tryz.prog 174:=Ii Tryz.func174
instance:bN Tryz.prog 175:=Ii Tryz.func175
instance:bN Tryz.prog 176:=Ii Tryz.func176
instance:bN Tryz.prog 177:=Ii Tryz.func177
instance:bN Tryz.prog 178:=Ii Tryz.func178
instance:bN Tryz.prog 179:=Ii Tryz.func179
instance:bN Tryz.prog 180:=Ii Tryz.func180
instance:bN Tryz.prog 181:=Ii Tryz.func181
instance:bN Tryz.prog 182:=Ii Tryz.func182
instance:bN Tryz.prog 183:=Ii Tryz.func183
instance:bN Tryz.prog 184:=Ii Tryz.func184
instance:bN Tryz.prog 185:=Ii Tryz.func185
instance:bN Tryz.prog 186:=Ii Tryz.func186
instance:bN Tryz.prog 187:=Ii Tryz.func187
instance:bN Tryz.prog 188:=Ii Tryz.func188
instance:bN Tryz.prog 189:=Ii Tryz.func189
instance:bN Tryz.prog 190:=Ii Tryz.func190
instance:bN Tryz.prog 191:=Ii Tryz.func191
instance:bN Tryz.prog 192:=Ii Tryz.func192
instance:bN Tryz.prog 193:=Ii Tryz.func193
instance:bN Tryz.prog 194:=Ii Tryz.func194
instance:bN Tryz.prog 195:=Ii Tryz.func195
instance:bN Tryz.prog 196:=Ii Tryz.func196
instance:bN Tryz.prog 197:=Ii Tryz.func197
instance:bN Tryz.prog 198:=Ii Tryz.func198
instance:bN Tryz.prog 199:=Ii Tryz.func199
instance:bN Tryz.prog 200:=Ii Tryz.func200
instance:bN Tryz.prog 201:=Ii Tryz.func201
instance:bN Tryz.prog 213:=Ii Tryz.func213
instance:bN Tryz.prog 214:=Ii Tryz.func214
instance:bN Tryz.prog 215:=Ii Tryz.func215
instance:bN Tryz.prog 216:=Ii Tryz.func216
instance:bN Tryz.prog 217:=Ii Tryz.func217
instance:bN Tryz.prog 218:=Ii Tryz.func218
instance:bN Tryz.prog 219:=Ii Tryz.func219
instance:bN Tryz.prog 220:=Ii Tryz.func220
instance:bN Tryz.prog 221:=Ii Tryz.func221
instance:bN Tryz.prog 222:=Ii Tryz.func222
instance:bN Tryz.prog 223:=Ii Tryz.func223
instance:bN Tryz.prog 224:=Ii Tryz.func224
instance:bN Tryz.prog 225:=Ii Tryz.func225
instance:bN Tryz.prog 226:=Ii Tryz.func226
instance:bN Tryz.prog 227:=Ii Tryz.func227
instance:bN Tryz.prog 228:=Ii Tryz.func228
instance:bN Tryz.prog 229:=Ii Tryz.func229
instance:bN Tryz.prog 230:=Ii Tryz.func230
instance:bN Tryz.prog 231:=Ii Tryz.func231
instance:bN Tryz.prog 232:=Ii Tryz.func232
instance:bN Tryz.prog 233:=Ii Tryz.func233
instance:bN Tryz.prog 234:=Ii Tryz.func234
instance:bN Tryz.prog 235:=Ii Tryz.func235
instance:bN Tryz.prog 236:=Ii Tryz.func236
instance:bN Tryz.prog 237:=Ii Tryz.func237
instance:bN Tryz.prog 238:=Ii Tryz.func238
instance:bN Tryz.prog 239:=Ii Tryz.func239
instance:bN Tryz.prog 240:=Ii Tryz.func240
instance:bN Tryz.prog 241:=Ii Tryz.func241
instance:bN Tryz.prog 242:=Ii Tryz.func242
instance:bN Tryz.prog 243:=Ii Tryz.func243
instance:bN Tryz.prog 250:=Ii Tryz.func250
instance:bN Tryz.prog 251:=Ii Tryz.func251
instance:bN Tryz.prog 252:=Ii Tryz.func252
instance:bN Tryz.prog 253:=Ii Tryz.func253
instance:bN Tryz.prog 254:=Ii Tryz.func254
instance:bN Tryz.prog 258:=Ii Tryz.func258
instance:bN Tryz.prog 259:=Ii Tryz.func259
instance:bN Tryz.prog 260:=Ii Tryz.func260
instance:bN Tryz.prog 262:=Ii Tryz.func262
instance:bN Tryz.prog 263:=Ii Tryz.func263
instance:bN Tryz.prog 264:=Ii Tryz.func264
instance:bN Tryz.prog 265:=Ii Tryz.func265
end Go.Proofs.YtjjpkibjffmceaaGreat
