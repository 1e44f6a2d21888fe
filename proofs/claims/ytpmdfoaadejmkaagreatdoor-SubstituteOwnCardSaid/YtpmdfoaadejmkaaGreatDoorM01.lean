/-
  Operations that compute a value, reckoned over abstract values.
-/
import Derived.Test.YtpmdfoaadejmkaaGreatDoorM00
namespace Go.Proofs.YtpmdfoaadejmkaaGreatDoor
open Go.RowKit
section
variable {P:Program} {fr:bT} {d:Option Tmp} {ty t t':TypeId} {pos:String} {af:Array Edge} {g:Option (Nat×Bool)} {x y c:Operand} {u:AV}
theorem eL {o:Oper} {v:Value} (h:∀ρ w,(∀x v,bh fr x=some (.sc v)→ρ x=v)→(execOp ρ o).run P w= .ok (.value v) w):Av P o fr (.sc v):=
 fun σ ρ w hρ _=>⟨v,h ρ w fun x v hx=>(hρ x _ hx).sc_inv,.sc v⟩
theorem Hz (hx:bh fr x=some u):Av P ⟨d,.move x,ty,pos,af,g⟩ fr u:=fun σ ρ w hρ _=>⟨ρ x,by simp [execOp],hρ x u hx⟩
theorem Cc (hx:bh fr x=some u):Av P ⟨d,.assign x,ty,pos,af,g⟩ fr u:=fun σ ρ w hρ _=>⟨ρ x,by simp [execOp],hρ x u hx⟩
theorem Cj (hc:bh fr c=some (.sc (.bool true))) (hx:bh fr x=some u):Av P ⟨d,.pick c x y,ty,pos,af,g⟩ fr u:=fun σ ρ w hρ _=>⟨ρ x,by simp [execOp,(hρ c _ hc).sc_inv,asBool],hρ x u hx⟩
theorem Ci (hc:bh fr c=some (.sc (.bool false))) (hy:bh fr y=some u):Av P ⟨d,.pick c x y,ty,pos,af,g⟩ fr u:=fun σ ρ w hρ _=>⟨ρ y,by simp [execOp,(hρ c _ hc).sc_inv,asBool],hρ y u hy⟩
theorem GQ {k:IntKind} {a b:Int} (hx:bh fr x=some (.sc (.int k a))) (hy:bh fr y=some (.sc (.int k b))):Av P ⟨d,.binOp .add t x y t',ty,pos,af,g⟩ fr (.sc (.int k (k.wrap (a+b)))):=
 eL fun ρ w hρ=>by simp [execOp,hρ _ _ hx,hρ _ _ hy,eqGuard,binOp,Op.intArith]
theorem IU {k:IntKind} {a b:Int} (hx:bh fr x=some (.sc (.int k a))) (hy:bh fr y=some (.sc (.int k b))):Av P ⟨d,.binOp .sub t x y t',ty,pos,af,g⟩ fr (.sc (.int k (k.wrap (a - b)))):=
 eL fun ρ w hρ=>by simp [execOp,hρ _ _ hx,hρ _ _ hy,eqGuard,binOp,Op.intArith]
theorem GS {k:IntKind} {a b:Int} (hx:bh fr x=some (.sc (.int k a))) (hy:bh fr y=some (.sc (.int k b))):Av P ⟨d,.binOp .mul t x y t',ty,pos,af,g⟩ fr (.sc (.int k (k.wrap (a * b)))):=
 eL fun ρ w hρ=>by simp [execOp,hρ _ _ hx,hρ _ _ hy,eqGuard,binOp,Op.intArith]
theorem ym {a b:Int} (hx:bh fr x=some (.sc (.int .i64 a))) (hy:bh fr y=some (.sc (.int .i64 b))) (h: -9223372036854775808≤a+b∧a+b≤9223372036854775807):Av P ⟨d,.binOp .add t x y t',ty,pos,af,g⟩ fr (.sc (.int .i64 (a+b))):=by
 have:=GQ (P:=P) (d:=d) (ty:=ty) (t:=t) (t':=t') (pos:=pos) (af:=af) (g:=g) hx hy
 rwa [qW h] at this
theorem yw {a b:Int} (hx:bh fr x=some (.sc (.int .i64 a))) (hy:bh fr y=some (.sc (.int .i64 b))) (h: -9223372036854775808≤a - b∧a - b≤9223372036854775807):Av P ⟨d,.binOp .sub t x y t',ty,pos,af,g⟩ fr (.sc (.int .i64 (a - b))):=by
 have:=IU (P:=P) (d:=d) (ty:=ty) (t:=t) (t':=t') (pos:=pos) (af:=af) (g:=g) hx hy
 rwa [qW h] at this
theorem yr {a b:Int} (hx:bh fr x=some (.sc (.int .i64 a))) (hy:bh fr y=some (.sc (.int .i64 b))) (h: -9223372036854775808≤a * b∧a * b≤9223372036854775807):Av P ⟨d,.binOp .mul t x y t',ty,pos,af,g⟩ fr (.sc (.int .i64 (a * b))):=by
 have:=GS (P:=P) (d:=d) (ty:=ty) (t:=t) (t':=t') (pos:=pos) (af:=af) (g:=g) hx hy
 rwa [qW h] at this
theorem yt {k:IntKind} {a b:Int} (hx:bh fr x=some (.sc (.int k a))) (hy:bh fr y=some (.sc (.int k b))) (h:b≠0):Av P ⟨d,.binOp .quo t x y t',ty,pos,af,g⟩ fr (.sc (.int k (k.wrap (a.tdiv b)))):=
 eL fun ρ w hρ=>by simp [execOp,hρ _ _ hx,hρ _ _ hy,eqGuard,binOp,Op.intDiv,h]
theorem yu {k:IntKind} {a b:Int} (hx:bh fr x=some (.sc (.int k a))) (hy:bh fr y=some (.sc (.int k b))) (h:b≠0):Av P ⟨d,.binOp .rem t x y t',ty,pos,af,g⟩ fr (.sc (.int k (a.tmod b))):=
 eL fun ρ w hρ=>by simp [execOp,hρ _ _ hx,hρ _ _ hy,eqGuard,binOp,Op.intDiv,h]
theorem IN {k:IntKind} {a b:Int} (hx:bh fr x=some (.sc (.int k a))) (hy:bh fr y=some (.sc (.int k b))):Av P ⟨d,.binOp .lss t x y t',ty,pos,af,g⟩ fr (.sc (.bool (decide (a < b)))):=
 eL fun ρ w hρ=>by simp [execOp,hρ _ _ hx,hρ _ _ hy,eqGuard,binOp,Op.intCmp]
theorem IM {k:IntKind} {a b:Int} (hx:bh fr x=some (.sc (.int k a))) (hy:bh fr y=some (.sc (.int k b))):Av P ⟨d,.binOp .leq t x y t',ty,pos,af,g⟩ fr (.sc (.bool (decide (a≤b)))):=
 eL fun ρ w hρ=>by simp [execOp,hρ _ _ hx,hρ _ _ hy,eqGuard,binOp,Op.intCmp]
theorem IL {k:IntKind} {a b:Int} (hx:bh fr x=some (.sc (.int k a))) (hy:bh fr y=some (.sc (.int k b))):Av P ⟨d,.binOp .gtr t x y t',ty,pos,af,g⟩ fr (.sc (.bool (decide (b < a)))):=
 eL fun ρ w hρ=>by simp [execOp,hρ _ _ hx,hρ _ _ hy,eqGuard,binOp,Op.intCmp]
theorem IK {k:IntKind} {a b:Int} (hx:bh fr x=some (.sc (.int k a))) (hy:bh fr y=some (.sc (.int k b))):Av P ⟨d,.binOp .geq t x y t',ty,pos,af,g⟩ fr (.sc (.bool (decide (b≤a)))):=
 eL fun ρ w hρ=>by simp [execOp,hρ _ _ hx,hρ _ _ hy,eqGuard,binOp,Op.intCmp]
theorem IJ {k:IntKind} {a b:Int} (hx:bh fr x=some (.sc (.int k a))) (hy:bh fr y=some (.sc (.int k b))):Av P ⟨d,.binOp .eql t x y t',ty,pos,af,g⟩ fr (.sc (.bool (decide (a=b)))):=
 eL fun ρ w hρ=>by
  simp [execOp,hρ _ _ hx,hρ _ _ hy,eqGuard,binOp,Op.intCmp]
  by_cases h:a=b <;> simp [h]
theorem IS {k:IntKind} {a b:Int} (hx:bh fr x=some (.sc (.int k a))) (hy:bh fr y=some (.sc (.int k b))):Av P ⟨d,.binOp .neq t x y t',ty,pos,af,g⟩ fr (.sc (.bool (decide (a≠b)))):=
 eL fun ρ w hρ=>by
  simp [execOp,hρ _ _ hx,hρ _ _ hy,eqGuard,binOp,Op.intCmp]
  by_cases h:a=b <;> simp [h]
theorem Hv {a b:ByteArray} (hx:bh fr x=some (.sc (.string a))) (hy:bh fr y=some (.sc (.string b))):Av P ⟨d,.binOp .eql t x y t',ty,pos,af,g⟩ fr (.sc (.bool (decide (a=b)))):=
 eL fun ρ w hρ=>by
  simp [execOp,hρ _ _ hx,hρ _ _ hy,eqGuard,binOp,Op.stringOp]
  by_cases h:a=b
  ·simp [h]
  ·simp [h,vj h]
theorem HC {a b:ByteArray} (hx:bh fr x=some (.sc (.string a))) (hy:bh fr y=some (.sc (.string b))):Av P ⟨d,.binOp .neq t x y t',ty,pos,af,g⟩ fr (.sc (.bool (decide (a≠b)))):=
 eL fun ρ w hρ=>by
  simp [execOp,hρ _ _ hx,hρ _ _ hy,eqGuard,binOp,Op.stringOp]
  by_cases h:a=b
  ·simp [h]
  ·simp [h,vj h]
theorem IT {b:Bool} (hx:bh fr x=some (.sc (.bool b))):Av P ⟨d,.unOp .not t x,ty,pos,af,g⟩ fr (.sc (.bool (!b))):=
 eL fun ρ w hρ=>by simp [execOp,hρ _ _ hx,Op.unary]
theorem IR {k:IntKind} {a:Int} (hx:bh fr x=some (.sc (.int k a))):Av P ⟨d,.unOp .neg t x,ty,pos,af,g⟩ fr (.sc (.int k (k.wrap (0 - a)))):=
 eL fun ρ w hρ=>by simp [execOp,hρ _ _ hx,Op.unary,Op.intArith]
theorem sv {k k':IntKind} {a:Int} (hx:bh fr x=some (.sc (.int k a))) [hs:C0 P t k] [hd:C0 P t' k']:Av P ⟨d,.convert t t' x,ty,pos,af,g⟩ fr (.sc (.int k' (k'.wrap a))):=
 eL fun ρ w hρ=>by simp [execOp,hρ _ _ hx,convert,run_underlying hs.under,run_underlying hd.under,Conv.intToInt]
theorem ey {σ:Mem} {ρ:Operand→Value} (hρ:∀x c,bh fr x=some c→VR σ c (ρ x)):∀(l:List Operand) (vs:List AV),dy fr l=some vs→cS σ vs (l.map ρ):=by
 intro l
 induction l with
 | nil=>intro vs h;simp only [dy,Option.some.injEq] at h;subst h;exact cS.nil
 | cons x l ih=>
  intro vs h
  simp only [dy] at h
  split at h
  ·cases h
  ·rename_i v hv
   split at h
   ·cases h
   ·rename_i vs' hvs
    cases h
    exact cS.cons (hρ x v hv) (ih _ hvs)
theorem IQ {k:IntKind} {a b:Int} {ts:Array TypeId} (hx:bh fr x=some (.sc (.int k a))) (hu:bh fr y=some (.sc (.int k b))):Av P ⟨d,.call ⟨.builtin .min,#[x,y],ts⟩,ty,pos,af,g⟩ fr (.sc (.int k (min a b))):=
 eL fun ρ w hρ=>by
  simp [execOp,resolve,hρ _ _ hx,hρ _ _ hu,invoke,builtin,Builtin.min_,Builtin.min2];omega
theorem IP {k:IntKind} {a b:Int} {ts:Array TypeId} (hx:bh fr x=some (.sc (.int k a))) (hu:bh fr y=some (.sc (.int k b))):Av P ⟨d,.call ⟨.builtin .max,#[x,y],ts⟩,ty,pos,af,g⟩ fr (.sc (.int k (max a b))):=
 eL fun ρ w hρ=>by
  simp [execOp,resolve,hρ _ _ hx,hρ _ _ hu,invoke,builtin,Builtin.max_,Builtin.max2];omega
theorem Hy {s:ByteArray} {ts:TypeId} (hs:C2 P ts) (hx:bh fr x=some (.sc (.string s))):Av P ⟨d,.call ⟨.builtin .len,#[x],#[ts]⟩,ty,pos,af,g⟩ fr (.sc (.int .i64 s.size)):=
 eL fun ρ w hρ=>by
  simp [execOp,resolve,hρ _ _ hx,invoke,builtin,Builtin.len_,run_underlying hs.under,goInt]
theorem Cg {A:Option Addr} {n cp e sz by_:Nat} {ts:TypeId} (hs:ln P ts e sz by_) (hx:bh fr x=some (.sc (.slice A n cp))):Av P ⟨d,.call ⟨.builtin .len,#[x],#[ts]⟩,ty,pos,af,g⟩ fr (.sc (.int .i64 n)):=
 eL fun ρ w hρ=>by
  simp [execOp,resolve,hρ _ _ hx,invoke,builtin,Builtin.len_,run_underlying hs.under,goInt]
theorem VR.imm_inv {σ:Mem} {sz:Nat} {l:List (List AV)} {v:Value} (h:VR σ (.imm sz l) v):∃A cap,v= .slice A l.length cap∧l.length≤cap∧cap≤maxLen∧(∀e∈l,e.length=sz)∧(l≠[]→∃b off,A=some ⟨b,off,none⟩)∧(∀(i b off j:Nat),A=some ⟨b,off,none⟩→i < l.length→j < sz→∃u,σ b (off+i * sz+j)=some u∧u.oneCell'=true)∧∀(i:Nat) (e:List AV) (b off j:Nat) (c:AV) (u:Value),l[i]?=some e→A=some ⟨b,off,none⟩→e[j]?=some c→σ b (off+i * sz+j)=some u→VR σ c u:=by
 cases h with
 | imm _ _ A cap hc hm hs ha hx h=>exact ⟨A,cap,rfl,hc,hm,hs,ha,hx,h⟩
theorem VR.iptr_inv {σ:Mem} {cs:List AV} {v:Value} (h:VR σ (.iptr cs) v):∃b off,v= .pointer (some ⟨b,off,none⟩)∧(∀(j:Nat),j < cs.length→∃u,σ b (off+j)=some u∧u.oneCell'=true)∧∀(j:Nat) (c:AV) (u:Value),cs[j]?=some c→σ b (off+j)=some u→VR σ c u:=by
 cases h with
 | iptr _ b off hx h=>exact ⟨b,off,rfl,hx,h⟩
theorem wI {l:List (List AV)} {s e sz by_:Nat} {ts:TypeId} (hs:ln P ts e sz by_) (hx:bh fr x=some u) (hu:u.im= .imm s l):Av P ⟨d,.call ⟨.builtin .len,#[x],#[ts]⟩,ty,pos,af,g⟩ fr (.sc (.int .i64 l.length)):=
 fun σ ρ w hρ _=>by
  have h1:=(hρ x _ hx).im
  rw [hu] at h1
  obtain ⟨A,cap,hv,_⟩:=h1.imm_inv
  refine ⟨_,?_,.sc _⟩
  simp [execOp,resolve,hv,invoke,builtin,Builtin.len_,run_underlying hs.under,goInt]
theorem Cf {s f off b k:Nat} (h:JI P s f off) (hx:bh fr x=some (.sc (.pointer (some ⟨b,k,none⟩)))):Av P ⟨d,.fieldAddr s x f,ty,pos,af,g⟩ fr (.sc (.pointer (some ⟨b,k+off,none⟩))):=
 eL fun ρ w hρ=>by
  simp only [execOp,hρ _ _ hx,Sem.run_bind,h.run,Result.andThen,Sem.run_pure]
  rw [dJ]
theorem VR.drop {σ:Mem} {cs:List AV} {b off:Nat} (h:VR σ (.iptr cs) (.pointer (some ⟨b,off,none⟩))) (o:Nat):VR σ (.iptr (cs.drop o)) (.pointer (some ⟨b,off+o,none⟩)):=by
 obtain ⟨b',off',he,hx,h⟩:=h.iptr_inv
 cases he
 refine .iptr _ b (off+o) (fun j hj=>?_) fun j c u hc hu=>?_
 ·rw [List.length_drop] at hj
  rw [Nat.add_assoc]
  exact hx (o+j) (by omega)
 ·rw [List.getElem?_drop] at hc
  rw [Nat.add_assoc] at hu
  exact h (o+j) c u hc hu
theorem Ce {s f off:Nat} {cs:List AV} (h:JI P s f off) (hx:bh fr x=some (.iptr cs)):Av P ⟨d,.fieldAddr s x f,ty,pos,af,g⟩ fr (.iptr (cs.drop off)):=
 fun σ ρ w hρ _=>by
  have h1:=hρ x _ hx
  obtain ⟨b,o,hv,_⟩:=h1.iptr_inv
  rw [hv] at h1
  refine ⟨.pointer (some ⟨b,o+off,none⟩),?_,h1.drop off⟩
  simp only [execOp,hv,Sem.run_bind,h.run,Result.andThen,Sem.run_pure]
  rw [dJ]
theorem F9 {cs:List AV} (h:EV P t) (hx:bh fr x=some (.iptr cs)) (hc:cs[0]?=some u):Av P ⟨d,.load t x,ty,pos,af,g⟩ fr u:=
 fun σ ρ w hρ hf=>by
  have h1:=hρ x _ hx
  obtain ⟨b,o,hv,hx,hy⟩:=h1.iptr_inv
  obtain ⟨v,hw,_⟩:=hx 0 (Ln hc).1
  refine ⟨v,?_,hy 0 u v hc hw⟩
  rw [Nat.add_zero] at hw
  simp [execOp,hv,Instr.loadAt,Instr.sureAddr,fJ (hf _ _ _ hw)]
theorem VR.take {σ:Mem} {cs:List AV} {b off:Nat} (h:VR σ (.iptr cs) (.pointer (some ⟨b,off,none⟩))) {n:Nat} (hn:n≤cs.length):∃vs:List Value,vs.length=n∧(∀j v,vs[j]?=some v→σ b (off+j)=some v)∧VR σ (.agg (cs.take n)) (.agg vs.toArray):=by
 obtain ⟨b',off',he,hx,h⟩:=h.iptr_inv
 cases he
 have hx':∀j,j < n→∃u,σ b (off+j)=some u∧u.oneCell'=true:=fun j hj=>hx j (by omega)
 classical
 let f:Nat→Value:=fun j=>(σ b (off+j)).getD undef
 have hf:∀j,j < n→σ b (off+j)=some (f j)∧(f j).oneCell'=true:=fun j hj=>by
  obtain ⟨u,hu,h1⟩:=hx' j hj
  exact ⟨by simp [f,hu],by simpa [f,hu] using h1⟩
 refine ⟨(List.range n).map f,by simp,fun j v hj=>?_,.agg _ _ (by simp;omega) (fun i c u hc hu=>?_) fun u hu=>?_⟩
 ·have hlt:j < n:=by simpa using (Ln hj).1
  simp [hlt] at hj
  subst hj
  exact (hf j hlt).1
 ·have hlt:i < n:=by simpa using (Ln hu).1
  simp [hlt] at hu
  subst hu
  rw [List.getElem?_take,if_pos hlt] at hc
  exact h i c _ hc (hf i hlt).1
 ·obtain ⟨j,hj,rfl⟩:=List.mem_map.1 hu
  exact (hf j (by simpa using hj)).2
theorem yq {cs:List AV} {n:Nat} (h:GN P t n) (hx:bh fr x=some (.iptr cs)) (hn:n≤cs.length):Av P ⟨d,.load t x,ty,pos,af,g⟩ fr (.agg (cs.take n)):=
 fun σ ρ w hρ hf=>by
  have h1:=hρ x _ hx
  obtain ⟨b,o,hv,_⟩:=h1.iptr_inv
  rw [hv] at h1
  obtain ⟨vs,hl,hc,hr⟩:=h1.take hn
  refine ⟨_,?_,hr⟩
  haveI:=h
  simp [execOp,hv,Instr.loadAt,Instr.sureAddr,fI (P:=P) (t:=t) hl (fun j v hj=>hf _ _ _ (hc j v hj))]
theorem VR.tup_inv {σ:Mem} {cs:List AV} {v:Value} (h:VR σ (.tup cs) v):∃vs:List Value,v= .tuple vs.toArray∧cS σ cs vs:=by
 cases h with
 | tup _ vs hl h=>exact ⟨vs,rfl,hl,h⟩
theorem VR.agg_inv {σ:Mem} {cs:List AV} {v:Value} (h:VR σ (.agg cs) v):∃vs:List Value,v= .agg vs.toArray∧cS σ cs vs∧∀u∈vs,u.oneCell'=true:=by
 cases h with
 | agg _ vs hl h h1=>exact ⟨vs,rfl,⟨hl,h⟩,h1⟩
theorem VR.fn_inv {σ:Mem} {f:FuncId} {cs:List AV} {v:Value} (h:VR σ (.fn f cs) v):∃vs:List Value,v= .func (.func f) #[] vs.toArray∧cS σ cs vs:=by
 cases h with
 | fn _ _ vs hl h=>exact ⟨vs,rfl,hl,h⟩
theorem VR.fnB_inv {σ:Mem} {f:FuncId} {fs cs:List AV} {v:Value} (h:VR σ (.fnB f fs cs) v):∃ws vs:List Value,v= .func (.func f) ws.toArray vs.toArray∧cS σ fs ws∧cS σ cs vs:=by
 cases h with
 | fnB _ _ _ ws vs hf h0 hl h=>exact ⟨ws,vs,rfl,⟨hf,h0⟩,hl,h⟩
theorem cS.get {σ:Mem} {cs:List AV} {vs:List Value} (h:cS σ cs vs) {i:Nat} {c:AV} (hc:cs[i]?=some c):∃v,vs[i]?=some v∧VR σ c v:=by
 have hlt:i < vs.length:=by rw [←h.1];exact (Ln hc).1
 exact ⟨vs[i],Iy hlt,h.2 i c _ hc (Iy hlt)⟩
theorem zL {cs:List AV} {i:Nat} (hx:bh fr x=some (.tup cs)) (hi:cs[i]?=some u):Av P ⟨d,.extract x i,ty,pos,af,g⟩ fr u:=
 fun σ ρ w hρ _=>by
  obtain ⟨vs,hv,hs⟩:=(hρ x _ hx).tup_inv
  obtain ⟨v,h1,h2⟩:=hs.get hi
  exact ⟨v,by simp [execOp,hv,Instr.extract,h1],h2⟩
theorem wJ {f:FuncId} {caps:Array Operand} {cs:List AV} (hc:dy fr caps.toList=some cs):Av P ⟨d,.makeFunc (.func f) #[] caps,ty,pos,af,g⟩ fr (.fn f cs):=
 fun σ ρ w hρ _=>by
  have h1:=ey hρ _ _ hc
  refine ⟨.func (.func f) #[] (caps.toList.map ρ).toArray,?_,.fn f cs _ h1.1 h1.2⟩
  have e:caps.map ρ=(caps.toList.map ρ).toArray:=by apply Array.toList_inj.1;simp
  simp [execOp,Instr.makeFunc,e]
theorem uR {f:FuncId} {first caps:Array Operand} {fs cs:List AV} (hf:dy fr first.toList=some fs) (hc:dy fr caps.toList=some cs):Av P ⟨d,.makeFunc (.func f) first caps,ty,pos,af,g⟩ fr (.fnB f fs cs):=
 fun σ ρ w hρ _=>by
  have h0:=ey hρ _ _ hf
  have h1:=ey hρ _ _ hc
  refine ⟨.func (.func f) (first.toList.map ρ).toArray (caps.toList.map ρ).toArray,?_,.fnB f fs cs _ _ h0.1 h0.2 h1.1 h1.2⟩
  have e:caps.map ρ=(caps.toList.map ρ).toArray:=by apply Array.toList_inj.1;simp
  have e0:first.map ρ=(first.toList.map ρ).toArray:=by apply Array.toList_inj.1;simp
  simp [execOp,Instr.makeFunc,e,e0]
theorem yp {s e sz by_:Nat} {l:List (List AV)} {es:List AV} {k:IntKind} {i:Int} (h:ln P t e sz by_) (hx:bh fr x=some u) (hu:u.im= .imm s l) (hs:Nat.beq s sz=true) (hy:bh fr y=some (.sc (.int k i))) (h0:0≤i) (hl:l[i.toNat]?=some es):Av P ⟨d,.indexAddr t x y,ty,pos,af,g⟩ fr (.iptr es):=
 fun σ ρ w hρ _=>by
  rw [Nat.beq_eq] at hs
  subst hs
  have h1:=(hρ x _ hx).im
  rw [hu] at h1
  obtain ⟨A,cap,hv,_,_,hsz,ha,hcx,hcy⟩:=h1.imm_inv
  have hlt:=(Ln hl).1
  obtain ⟨b,off,rfl⟩:=ha (by intro e;subst e;simp at hlt)
  have hyv:=(hρ y _ hy).sc_inv
  have hel:=hsz es (Lw hl)
  haveI:=h
  refine ⟨.pointer (some ⟨b,off+i.toNat * s,none⟩),?_,.iptr _ _ _ (fun j hj=>hcx i.toNat b off j rfl hlt (by omega)) fun j c v hc hw=>hcy i.toNat es b off j c v hl rfl hc hw⟩
  have h2:i < (l.length:Int):=by omega
  simp [execOp,hv,hyv,Instr.indexAt,asIntOf,run_underlying h.under,h0,h2,d5 (t:=t),dJ]
end
def IZ (op:BinOp) (a b:Int):Option AV:=match op with
 | .lss=>some (.sc (.bool (decide (a < b))))
 | .leq=>some (.sc (.bool (decide (a≤b))))
 | .gtr=>some (.sc (.bool (decide (b < a))))
 | .geq=>some (.sc (.bool (decide (b≤a))))
 | .eql=>some (.sc (.bool (decide (a=b))))
 | .neq=>some (.sc (.bool (decide (a≠b))))
 | _=>none
def J0 (op:BinOp) (a b:ByteArray):Option AV:=match op with
 | .eql=>some (.sc (.bool (decide (a=b))))
 | .neq=>some (.sc (.bool (decide (a≠b))))
 | _=>none
def GZ:BinOp→Bool | .lss | .leq | .gtr | .geq | .eql | .neq=>true | _=>false
def CJ (ti:TI) (cs:List AV):Option AV:=bif ti.k.agg then (bif Nat.beq ti.size cs.length then some (.agg cs) else bif Nat.ble ti.size cs.length then some (.agg (cs.take ti.size)) else none) else cs[0]?
def I1 (u:AV) (k:TK):Option AV:=match k with
 | .slice _ _ _=>match u with
  | .imm _ l=>some (.sc (.int .i64 l.length))
  | .vec _ _ l=>some (.sc (.int .i64 l.length))
  | .sc (.slice _ n _)=>some (.sc (.int .i64 n))
  | _=>none
 | .str=>match u with
  | .sc (.string s)=>some (.sc (.int .i64 s.size))
  | _=>none
 | _=>none
def D2 (o:Nat) (u:AV):Option AV:=match u with
 | .sc (.pointer (some ⟨b,k,none⟩))=>some (.sc (.pointer (some ⟨b,k+o,none⟩)))
 | .iptr cs=>some (.iptr (cs.drop o))
 | _=>none
def zq (tt:TT) (fr:bT):Op→Option AV
 | .move x=>bh fr x
 | .assign x=>bh fr x
 | .pick c x y=>match bh fr c with
  | some (.sc (.bool true))=>bh fr x
  | some (.sc (.bool false))=>bh fr y
  | _=>none
 | .fieldAddr s x f=>match dw tt s with
  | some ⟨.struct offs,_,_⟩=>match offs[f]? with
   | some (o,_,_)=>match bh fr x with
    | some u=>D2 o u
    | none=>none
   | none=>none
  | _=>none
 | .load t x=>match bh fr x with
  | some (.iptr cs)=>match dw tt t with
   | some ti=>CJ ti cs
   | none=>none
  | _=>none
 | .extract x i=>match bh fr x with
  | some (.tup vs)=>vs[i]?
  | _=>none
 | .unOp .not _ x=>match bh fr x with
  | some (.sc (.bool b))=>some (.sc (.bool (!b)))
  | _=>none
 | .binOp op _ x y _=>bif GZ op then (match bh fr x with
   | some (.sc (.int k a))=>match bh fr y with
    | some (.sc (.int k' b))=>if k=k' then IZ op a b else none
    | _=>none
   | some (.sc (.string a))=>match bh fr y with
    | some (.sc (.string b))=>J0 op a b
    | _=>none
   | _=>none) else none
 | .makeFunc (.func f) first caps=>match first.toList with
  | []=>match dy fr caps.toList with
   | some cs=>some (.fn f cs)
   | none=>none
  | _=>match dy fr first.toList with
   | some fs=>match dy fr caps.toList with
    | some cs=>some (.fnB f fs cs)
    | none=>none
   | none=>none
 | .call ⟨.builtin b,args,ts⟩=>match b with
  | .len=>match args.toList,ts.toList with
   | [x],[t]=>match dw tt t with
    | some ti=>match bh fr x with
     | some u=>I1 u ti.k
     | none=>none
    | none=>none
   | _,_=>none
  | .min=>match args.toList with
   | [x,y]=>match bh fr x with
    | some (.sc (.int k a))=>match bh fr y with
     | some (.sc (.int k' b))=>if k=k' then some (.sc (.int k (min a b))) else none
     | _=>none
    | _=>none
   | _=>none
  | .max=>match args.toList with
   | [x,y]=>match bh fr x with
    | some (.sc (.int k a))=>match bh fr y with
     | some (.sc (.int k' b))=>if k=k' then some (.sc (.int k (max a b))) else none
     | _=>none
    | _=>none
   | _=>none
  | _=>none
 | _=>none
section
variable {P:Program} {tt:TT} {fr:bT} {d:Option Tmp} {ty:TypeId} {pos:String} {af:Array Edge} {g:Option (Nat×Bool)}
theorem x3 (ok:eu P tt) {t:Nat} {ti:TI} {cs:List AV} {x:Operand} {u:AV} (ht:dw tt t=some ti) (hx:bh fr x=some (.iptr cs)) (h:CJ ti cs=some u):Av P ⟨d,.load t x,ty,pos,af,g⟩ fr u:=by
 unfold CJ at h
 cases hk:ti.k.agg with
 | true=>
  rw [hk] at h
  simp only [cond_true] at h
  cases hq:Nat.beq ti.size cs.length with
  | true=>
   rw [hq] at h
   simp only [cond_true,Option.some.injEq] at h
   subst h
   have hq':ti.size=cs.length:=by rwa [Nat.beq_eq] at hq
   have:=yq (d:=d) (ty:=ty) (pos:=pos) (af:=af) (g:=g) (ok.ag ht hk) hx (by omega)
   rwa [hq',List.take_length] at this
  | false=>
  rw [hq] at h
  simp only [cond_false] at h
  cases hb:Nat.ble ti.size cs.length with
  | true=>
   rw [hb] at h
   simp only [cond_true,Option.some.injEq] at h
   subst h
   exact yq (ok.ag ht hk) hx (by rwa [Nat.ble_eq] at hb)
  | false=>rw [hb] at h;cases h
 | false=>
  rw [hk] at h
  exact F9 (ok.sc ht hk) hx h
theorem AK (ok:eu P tt) {t:Nat} {ti:TI} {u w:AV} {x:Operand} (ht:dw tt t=some ti) (hx:bh fr x=some u) (h:I1 u ti.k=some w):Av P ⟨d,.call ⟨.builtin .len,#[x],#[t]⟩,ty,pos,af,g⟩ fr w:=by
 unfold I1 at h
 split at h
 ·rename_i hk
  have hs:=(ok.isSl ht hk).1
  split at h <;> cases h
  ·exact wI hs hx rfl
  ·exact wI hs hx rfl
  ·exact Cg hs hx
 ·rename_i hk
  split at h <;> cases h
  exact Hy (ok.str ht hk) hx
 ·cases h
theorem y8 (ok:eu P tt) {op:Op} {u:AV} (h:zq tt fr op=some u):Av P ⟨d,op,ty,pos,af,g⟩ fr u:=by
 unfold zq at h
 split at h
 ·exact Hz h
 ·exact Cc h
 ·split at h
  ·rename_i hc;exact Cj hc h
  ·rename_i hc;exact Ci hc h
  ·cases h
 ·split at h
  ·rename_i offs z ze ht
   split at h
   ·rename_i o s b ho
    split at h
    ·rename_i c hx
     have hf:=(ok.fd ht rfl ho).1
     unfold D2 at h
     split at h <;> cases h
     ·exact Cf hf hx
     ·exact Ce hf hx
    ·cases h
   ·cases h
  ·cases h
 ·split at h
  ·rename_i hx
   split at h
   ·rename_i ht;exact x3 ok ht hx h
   ·cases h
  ·cases h
 ·split at h
  ·rename_i hx;exact zL hx h
  ·cases h
 ·split at h
  ·rename_i hx;cases h;exact IT hx
  ·cases h
 ·rename_i op _ x y _
  cases hc:GZ op with
  | false=>rw [hc] at h;cases h
  | true=>
   rw [hc] at h
   simp only [cond_true] at h
   split at h
   ·rename_i k a hx
    split at h
    ·rename_i k' b hy
     split at h
     ·rename_i hk;subst hk
      cases op <;> simp only [IZ,Option.some.injEq] at h <;> first | (subst h;first | exact IN hx hy | exact IM hx hy | exact IL hx hy | exact IK hx hy | exact IJ hx hy | exact IS hx hy) | cases h
     ·cases h
    ·cases h
   ·rename_i a hx
    split at h
    ·rename_i b hy
     cases op <;> simp only [J0,Option.some.injEq] at h <;> first | (subst h;first | exact Hv hx hy | exact HC hx hy) | cases h
    ·cases h
   ·cases h
 ·rename_i f first caps
  split at h
  ·rename_i hf
   split at h
   ·rename_i cs hcs
    cases h
    obtain rfl:first=#[]:=Array.toList_inj.1 (by simpa using hf)
    exact wJ hcs
   ·cases h
  ·split at h
   ·rename_i fs hfs
    split at h
    ·rename_i cs hcs
     cases h
     exact uR hfs hcs
    ·cases h
   ·cases h
 ·rename_i b args ts
  split at h
  ·split at h
   ·rename_i x t hx ht
    obtain rfl:args=#[x]:=Array.toList_inj.1 (by simpa using hx)
    obtain rfl:ts=#[t]:=Array.toList_inj.1 (by simpa using ht)
    split at h
    ·rename_i ti hti
     split at h
     ·rename_i c hc;exact AK ok hti hc h
     ·cases h
    ·cases h
   ·cases h
  ·split at h
   ·rename_i x y hx
    obtain rfl:args=#[x,y]:=Array.toList_inj.1 (by simpa using hx)
    split at h
    ·rename_i k a hx
     split at h
     ·rename_i k' b hy
      split at h
      ·rename_i hk;subst hk;cases h;exact IQ hx hy
      ·cases h
     ·cases h
    ·cases h
   ·cases h
  ·split at h
   ·rename_i x y hx
    obtain rfl:args=#[x,y]:=Array.toList_inj.1 (by simpa using hx)
    split at h
    ·rename_i k a hx
     split at h
     ·rename_i k' b hy
      split at h
      ·rename_i hk;subst hk;cases h;exact IP hx hy
      ·cases h
     ·cases h
    ·cases h
   ·cases h
  ·cases h
 ·cases h
end
end Go.Proofs.YtpmdfoaadejmkaaGreatDoor
namespace Go.Proofs.YtpmdfoaadejmkaaGreatDoor
open Go.RowKit
def eV (ops:Array Oper) (i:Nat):Option Nat:=(ops[i]?).bind (·.dst)
def pZ (ops:Array Oper) (ε:Nat→Value) (fr:Fr):List Edge→Fr
 | []=>fr
 | e::r=>bif Region.binds .any e then (match eV ops e.on with
  | some t=>(t,ε e.on)::pZ ops ε fr r
  | none=>pZ ops ε fr r) else pZ ops ε fr r
def dB (ops:Array Oper):Nat→Nat→Nat→Bool
 | 0,_,_=>false
 | n+1,i,k=>match ops[i]? with
  | none=>false
  | some o=>o.after.toList.any fun e=>Region.binds .any e && (Nat.beq e.on k || dB ops n e.on k)
def oF (o:Oper) (i:Nat):Bool:=o.after.toList.any fun e=>Region.binds .any e && Nat.beq e.on i
def uz (ops:Array Oper) (o:Oper):List Nat:=
 (o.op.operands.toList.filterMap fun | .tmp t=>some t | _=>none)++(match o.guard with | some (j,_)=>(eV ops j).toList | none=>[])
def nR (l:List Oper):Nat→Bool
 | k=>match l with
  | []=>true
  | o::r=>(o.after.toList.all fun e=> !Region.binds .any e || Nat.blt e.on k) && nR r (k+1)
def zf:List Oper→Bool
 | []=>true
 | o::r=>(match o.dst with | none=>true | some t=>r.all fun p=> !(p.dst==some t)) && zf r
def k9 (ops:Array Oper) (k:Nat) (o:Oper) (t:Nat):List Oper→Nat→Bool
 | [],_=>true
 | p::r,i=>(!(p.dst==some t) || oF o i || dB ops 6 i k) && k9 ops k o t r (i+1)
def qc (ops:Array Oper) (all:List Oper):List Oper→Nat→Bool
 | [],_=>true
 | o::r,k=>((uz ops o).all fun t=>k9 ops k o t all 0) && qc ops all r (k+1)
def jZ (ops:Array Oper):List Oper→Bool
 | []=>true
 | o::r=>(match o.guard with | none=>true | some (j,_)=>oF o j && (eV ops j).isSome) && jZ ops r
def mq:List Oper→Bool
 | []=>true
 | o::r=>Oper.noDefer o && mq r
def kc (l:List Oper):Bool:=nR l 0 && zf l && qc l.toArray l l 0 && jZ l.toArray l && mq l
section
variable {l:List Oper}
theorem iK:∀(l:List Oper) (k:Nat),nR l k=true→∀i o,l[i]?=some o→∀e∈o.after,Region.binds .any e=true→e.on < k+i
 | [],_,_,_,_,h=>by simp at h
 | p::r,k,hk,i,o,h=>by
  simp only [nR,Bool.and_eq_true,List.all_eq_true] at hk
  intro e he hb
  cases i with
  | zero=>
   simp at h;subst h
   have:=hk.1 e (by simpa using he)
   simp [hb,Nat.blt_eq] at this
   simpa using this
  | succ i=>
   have:=iK r (k+1) hk.2 i o (by simpa using h) e he hb
   omega
theorem mW:∀(l:List Oper),zf l=true→∀(i j:Nat) (oi oj:Oper) (t:Nat),i < j→l[i]?=some oi→l[j]?=some oj→oi.dst=some t→oj.dst≠some t
 | [],_,_,_,_,_,_,_,h,_,_=>by simp at h
 | p::r,hk,i,j,oi,oj,t,hij,hi,hj,hd=>by
  simp only [zf,Bool.and_eq_true] at hk
  cases j with
  | zero=>omega
  | succ j=>
   simp only [List.getElem?_cons_succ] at hj
   cases i with
   | zero=>
    simp at hi;subst hi
    rw [hd] at hk
    have:=List.all_eq_true.1 hk.1 oj (Lw hj)
    intro e;simp [e] at this
   | succ i=>exact mW r hk.2 i j oi oj t (by omega) (by simpa using hi) hj hd
theorem lS (ops:Array Oper) (k:Nat) (o:Oper) (t:Nat):∀(l:List Oper) (i:Nat),k9 ops k o t l i=true→∀j p,l[j]?=some p→p.dst=some t→oF o (i+j)=true∨dB ops 6 (i+j) k=true
 | [],_,_,_,_,h,_=>by simp at h
 | q::r,i,hk,j,p,hj,hd=>by
  simp only [k9,Bool.and_eq_true,Bool.or_eq_true] at hk
  cases j with
  | zero=>
   simp at hj;subst hj
   simpa [hd] using hk.1
  | succ j=>
   have:=lS ops k o t r (i+1) hk.2 j p (by simpa using hj) hd
   rwa [show i+1+j=i+(j+1) by omega] at this
theorem nS (ops:Array Oper) (all:List Oper):∀(l:List Oper) (i:Nat),qc ops all l i=true→∀j o,l[j]?=some o→∀t∈uz ops o,k9 ops (i+j) o t all 0=true
 | [],_,_,_,_,h=>by simp at h
 | q::r,i,hk,j,o,hj=>by
  simp only [qc,Bool.and_eq_true,List.all_eq_true] at hk
  cases j with
  | zero=>simp at hj;subst hj;simpa using hk.1
  | succ j=>
   have:=nS ops all r (i+1) hk.2 j o (by simpa using hj)
   rwa [show i+1+j=i+(j+1) by omega] at this
theorem i5 (ops:Array Oper):∀(l:List Oper),jZ ops l=true→∀(i:Nat) (o:Oper) (j:Nat) (b:Bool),l[i]?=some o→o.guard=some (j,b)→oF o j=true∧(eV ops j).isSome=true
 | [],_,_,_,_,_,h,_=>by simp at h
 | q::r,hk,i,o,j,b,hi,hg=>by
  simp only [jZ,Bool.and_eq_true] at hk
  cases i with
  | zero=>simp at hi;subst hi;simpa [hg] using hk.1
  | succ i=>exact i5 ops r hk.2 i o j b (by simpa using hi) hg
theorem lR:∀(l:List Oper),mq l=true→∀(i:Nat) (o:Oper),l[i]?=some o→Oper.noDefer o=true
 | [],_,_,_,h=>by simp at h
 | q::r,hk,i,o,hi=>by
  simp only [mq,Bool.and_eq_true] at hk
  cases i with
  | zero=>simp at hi;subst hi;exact hk.1
  | succ i=>exact lR r hk.2 i o (by simpa using hi)
theorem kJ {o:Oper} {i:Nat}:oF o i=true↔∃e∈o.after,Region.binds .any e=true∧e.on=i:=by
 simp only [oF,List.any_eq_true,Bool.and_eq_true,Nat.beq_eq,Array.mem_toList_iff]
def ot (ops:Array Oper) (S:Nat→Bool):Prop:=∀i o,ops[i]?=some o→S i=true→∀e∈o.after,Region.binds .any e=true→S e.on=true
theorem fG {ops:Array Oper} {S:Nat→Bool} (hc:ot ops S):∀(n i k:Nat),dB ops n i k=true→S i=true→S k=true
 | 0,_,_,h,_=>by simp [dB] at h
 | n+1,i,k,h,hi=>by
  simp only [dB] at h
  cases ho:ops[i]? with
  | none=>rw [ho] at h;cases h
  | some o=>
   rw [ho] at h
   simp only [List.any_eq_true,Bool.and_eq_true,Bool.or_eq_true,Nat.beq_eq] at h
   obtain ⟨e,he,hb,h⟩:=h
   have hs:=hc i o ho hi e (by simpa using he) hb
   rcases h with h | h
   ·rw [←h];exact hs
   ·exact fG hc n e.on k h hs
end
structure JA (nt:Nat) (D:List Deferred) (fr:Fr) (ops:Array Oper) (S:Nat→Bool) (ε:Nat→Value) (a:Act):Prop where
 size:a.tmps.size=nt
 defers:a.defers=D
 base:∀t v,fv fr t=some v→(∀i,S i=true→eV ops i≠some t)→a.tmps.getD t undef=v
 done:∀i t,S i=true→eV ops i=some t→a.tmps.getD t undef=ε i
theorem nw {ops:Array Oper} {ε:Nat→Value} {fr:Fr}:∀(es:List Edge) {t:Nat} {v:Value},fv (pZ ops ε fr es) t=some v→
  (∃e∈es,Region.binds .any e=true∧eV ops e.on=some t∧v=ε e.on)∨(fv fr t=some v∧∀e∈es,Region.binds .any e=true→eV ops e.on≠some t)
 | [],t,v,h=> .inr ⟨h,by simp⟩
 | e::r,t,v,h=>by
  simp only [pZ] at h
  cases hb:Region.binds .any e with
  | false=>
   rw [hb] at h
   rcases nw r h with ⟨e',he,h1⟩ | ⟨h1,h2⟩
   ·exact .inl ⟨e',Ls _ he,h1⟩
   ·refine .inr ⟨h1,fun e' he hb'=>?_⟩
    rcases List.mem_cons.1 he with rfl | he
    ·rw [hb] at hb';cases hb'
    ·exact h2 e' he hb'
  | true=>
   rw [hb] at h
   simp only [cond_true] at h
   cases hd:eV ops e.on with
   | none=>
    rw [hd] at h
    rcases nw r h with ⟨e',he,h1⟩ | ⟨h1,h2⟩
    ·exact .inl ⟨e',Ls _ he,h1⟩
    ·refine .inr ⟨h1,fun e' he hb'=>?_⟩
     rcases List.mem_cons.1 he with rfl | he
     ·rw [hd];simp
     ·exact h2 e' he hb'
   | some t'=>
    rw [hd] at h
    simp only [iY] at h
    by_cases e1:t'=t
    ·subst e1
     simp only [if_true,Option.some.injEq] at h
     exact .inl ⟨e,List.mem_cons_self ..,hb,hd,h.symm⟩
    ·rw [if_neg e1] at h
     rcases nw r h with ⟨e',he,h1⟩ | ⟨h1,h2⟩
     ·exact .inl ⟨e',Ls _ he,h1⟩
     ·refine .inr ⟨h1,fun e' he hb'=>?_⟩
      rcases List.mem_cons.1 he with rfl | he
      ·rw [hd];intro e2;injection e2 with e2;exact e1 e2
      ·exact h2 e' he hb'
def p6 (ε:Nat→Value) (k:Nat) (v:Value):Nat→Value:=fun i=>if i=k then v else ε i
def mark (S:Nat→Bool) (k:Nat):Nat→Bool:=fun i=>decide (i=k) || S i
def Ob (P:Program) (l:List Oper) (fr:Fr) (J:(Nat→Bool)→(Nat→Value)→World→Prop) (k:Nat) (o:Oper):Prop:=
 ∀S ε,ot l.toArray S→S k=false→(∀e∈o.after,Region.binds .any e=true→S e.on=true)→
  match o.guard with
  | none=>O P o (pZ l.toArray ε fr o.after.toList) (J S ε) (fun v w=>J (mark S k) (p6 ε k v) w)
  | some (j,want)=>(ε j= .bool want→O P o (pZ l.toArray ε fr o.after.toList) (J S ε) (fun v w=>J (mark S k) (p6 ε k v) w))∧
    (ε j≠ .bool want→∀w,J S ε w→J (mark S k) (p6 ε k undef) w)
variable {P:Program} {r:Option Nat} {Q:Exit→Act→World→Prop} {nt:Nat} {D:List Deferred} {fr:Fr} {I:World→Prop}
def n5 (l:List Oper) (n0:Nat):Bool:=(List.range l.length).all fun k=>Nat.blt k n0 || (List.range k).all fun i=>dB l.toArray 6 k i
theorem pI {l:List Oper} {n0:Nat} (h:n5 l n0=true) {k i:Nat} (hk:k < l.length) (hn:n0≤k) (hi:i < k):dB l.toArray 6 k i=true:=by
 simp only [n5,List.all_eq_true,List.mem_range,Bool.or_eq_true] at h
 rcases h k hk with h | h
 ·rw [Nat.blt_eq] at h;omega
 ·exact h i hi
theorem Cm {l:List Oper} {n0:Nat} (okE:nR l 0=true) (ht:n5 l n0=true):∀(fuel m:Nat) (listed:Array Bool) (a:Act) (w:World),listed.size=l.length→n0≤m→m≤l.length→l.length - m≤fuel→(∀i,listed.getD i false=decide (i < m))→
  wpListIn (Wd r) 0 P l.toArray Q (l.drop m) a w→wpAnyIn (Wd r) 0 P .any l.toArray Q fuel listed a w:=by
 have hready:∀(m:Nat) (listed:Array Bool),listed.size=l.length→n0≤m→(∀i,listed.getD i false=decide (i < m))→∀k,k∈Region.ready .any l.toArray listed→k=m:=by
  intro m listed hs hn hl k hk
  rw [mem_ready] at hk
  obtain ⟨h0,o,ho,hall⟩:=hk
  have hkl:k < l.length:=by have:=(Array.getElem?_eq_some_iff.1 ho).1;simpa using this
  have hkm:m≤k:=by
   have:=hl k
   have hks:k < listed.size:=by omega
   simp [hks] at h0 this
   rw [h0] at this
   simp at this
   exact this
  rcases Nat.lt_or_eq_of_le hkm with hlt | rfl
  ·exfalso
   have hr:=pI ht hkl (by omega) hlt
   simp only [dB,ho,List.any_eq_true,Bool.and_eq_true,Bool.or_eq_true,Nat.beq_eq] at hr
   obtain ⟨e,he,hb,hr⟩:=hr
   have hse:=hall e (by simpa using he) hb
   have hc:ot l.toArray (fun i=>decide (i < m)):=by
    intro i oi hoi hi e' he' hb'
    have:=iK l 0 okE i oi (by simpa using hoi) e' he' hb'
    simp at hi ⊢;omega
   rw [hl] at hse
   rcases hr with hr | hr
   ·rw [hr] at hse;simp at hse
   ·have:=fG hc 5 e.on m hr hse
    simp at this
  ·rfl
 intro fuel
 induction fuel with
 | zero=>
  intro m listed a w hs hn hm hf hl h
  have hml:m=l.length:=by omega
  subst hml
  refine ⟨?_,by simpa [wpListIn] using h⟩
  rw [List.eq_nil_iff_forall_not_mem]
  intro k hk
  have:=hready _ _ hs hn hl k hk
  subst this
  rw [mem_ready] at hk
  obtain ⟨_,o,ho,_⟩:=hk
  have:=(Array.getElem?_eq_some_iff.1 ho).1
  simp at this
 | succ fuel ih=>
  intro m listed a w hs hn hm hf hl h
  rcases Nat.lt_or_eq_of_le hm with hlt | hml
  ·have hmem:m∈Region.ready .any l.toArray listed:=by
    rw [mem_ready]
    have hms:m < listed.size:=by omega
    refine ⟨?_,l[m],by simp [hlt],fun e he hb=>?_⟩
    ·have:=hl m;simp [hms] at this ⊢;exact this
    ·have:=iK l 0 okE m l[m] (by simp [hlt]) e he hb
     rw [hl];simp;omega
   refine ⟨(fun hnil=>by rw [hnil] at hmem;cases hmem),?_⟩
   intro k hk
   have:=hready _ _ hs hn hl k hk
   subst this
   have hdrop:l.drop k=l[k]::l.drop (k+1):=List.drop_eq_getElem_cons hlt
   rw [hdrop] at h
   unfold wpListIn at h
   unfold wpOpIn
   rw [show l.toArray[k]?=some l[k] by simp [hlt]]
   have hl':∀i,(listed.setIfInBounds k true).getD i false=decide (i < k+1):=by
    intro i
    by_cases e:i=k
    ·subst e;have:i < listed.size:=by omega
     simp [this]
    ·rw [getD_set_ne false (Ne.symm e),hl]
     by_cases hik:i < k
     ·simp [hik];omega
     ·simp [hik];omega
   have next:∀a w,wpListIn (Wd r) 0 P l.toArray Q (l.drop (k+1)) a w→wpAnyIn (Wd r) 0 P .any l.toArray Q fuel (listed.setIfInBounds k true) a w:=fun a w h=>ih (k+1) _ a w (by simpa using hs) (by omega) (by omega) (by omega) hl' h
   simp only
   split
   ·rename_i hw;rw [if_pos hw] at h;exact Oper.wpIn_mono next h
   ·rename_i hw;rw [if_neg hw] at h;exact ⟨h.1,next _ _ h.2⟩
  ·subst hml
   have hnil:Region.ready .any l.toArray listed=[]:=by
    rw [List.eq_nil_iff_forall_not_mem]
    intro k hk
    have:=hready _ _ hs hn hl k hk
    subst this
    rw [mem_ready] at hk
    obtain ⟨_,o,ho,_⟩:=hk
    have:=(Array.getElem?_eq_some_iff.1 ho).1
    simp at this
   refine ⟨fun _=>by simpa [wpListIn] using h,?_⟩
   rw [hnil];intro k hk;cases hk
theorem wN {l:List Oper} {n0:Nat} {J:(Nat→Bool)→(Nat→Value)→World→Prop} (hn0:n0≤l.length) (ht:n5 l n0=true) (ok:kc l=true) (hlt:∀i t,eV l.toArray i=some t→t < nt) (hob:∀k o,k < n0→l[k]?=some o→Ob P l fr J k o)
    (fin:∀ε a w,JA nt D fr l.toArray (fun i=>decide (i < n0)) ε a→J (fun i=>decide (i < n0)) ε w→wpListIn (Wd r) 0 P l.toArray Q (l.drop n0) a w):
    ∀(fuel:Nat) (listed:Array Bool) (ε:Nat→Value) (a:Act) (w:World),listed.size=l.length→ot l.toArray (fun i=>listed.getD i false)→(∀i,n0≤i→listed.getD i false=false)→(listed.toList.countP (·==false))≤fuel→
      JA nt D fr l.toArray (fun i=>listed.getD i false) ε a→J (fun i=>listed.getD i false) ε w→wpAnyIn (Wd r) 0 P .any l.toArray Q fuel listed a w:=by
  simp only [kc,Bool.and_eq_true] at ok
  obtain ⟨⟨⟨⟨okE,okD⟩,okR⟩,okG⟩,okN⟩:=ok
  have finish:∀(fuel:Nat) (listed:Array Bool) (ε:Nat→Value) (a:Act) (w:World),listed.size=l.length→(∀i,n0≤i→listed.getD i false=false)→(listed.toList.countP (·==false))≤fuel→JA nt D fr l.toArray (fun i=>listed.getD i false) ε a→J (fun i=>listed.getD i false) ε w→(∀i,i < n0→listed.getD i false=true)→wpAnyIn (Wd r) 0 P .any l.toArray Q fuel listed a w:=by
    intro fuel listed ε a w hs hno hf hway hj hall
    have he:∀i,listed.getD i false=decide (i < n0):=fun i=>by
      by_cases hi:i < n0
      · rw [hall i hi];simp [hi]
      · rw [hno i (by omega)];simp [hi]
    have hfun:(fun i=>listed.getD i false)=(fun i=>decide (i < n0)):=funext he
    rw [hfun] at hway hj
    refine Cm okE ht fuel n0 listed a w hs (Nat.le_refl _) hn0 ?_ he (fin ε a w hway hj)
    refine Nat.le_trans ?_ hf
    have hcnt:listed.toList.countP (·==false)=((List.range l.length).map fun i=>decide (i < n0)).countP (·==false):=by
      congr 1
      apply List.ext_getElem?
      intro i
      by_cases hi:i < l.length
      · have:=he i
        have his:i < listed.size:=by omega
        simp [his] at this
        simp [hi,his,this]
      · rw [List.getElem?_eq_none (by simpa using by omega),List.getElem?_eq_none (by simp;omega)]
    rw [hcnt]
    clear hcnt hfun he
    have:∀n m:Nat,n - m≤((List.range n).map fun i=>decide (i < m)).countP (·==false):=by
      intro n m
      induction n with
      | zero=>simp
      | succ n ih=>
        rw [List.range_succ,List.map_append,List.countP_append]
        by_cases h:n < m
        · simp [h];omega
        · simp [h] at ih ⊢;omega
    exact this _ _
  intro fuel
  induction fuel with
  | zero=>
    intro listed ε a w hs hc hno hf hway hj
    refine finish 0 listed ε a w hs hno hf hway hj ?_
    intro i hi
    rcases Bool.eq_false_or_eq_true (listed.getD i false) with h | h
    · exact h
    · exfalso
      have hlt:i < listed.size:=by omega
      have:listed.toList.countP (·==false) > 0:=by
        rw [gt_iff_lt,List.countP_pos_iff]
        refine ⟨listed[i],by simp,?_⟩
        simp [hlt] at h;simp [h]
      omega
  | succ fuel ih=>
    intro listed ε a w hs hc hno hf hway hj
    by_cases hdone:∀i,i < n0→listed.getD i false=true
    · exact finish _ listed ε a w hs hno hf hway hj hdone
    have hex:∃i,i < n0∧listed.getD i false=false:=by
      rcases Classical.em (∃i,i < n0∧listed.getD i false=false) with h | h
      · exact h
      · exfalso;apply hdone
        intro i hi
        rcases Bool.eq_false_or_eq_true (listed.getD i false) with h1 | h1
        · exact h1
        · exact absurd ⟨i,hi,h1⟩ h
    obtain ⟨i0,hi0,hi0f⟩:=hex
    have least:∀i,i < l.length→Region.ready .any l.toArray listed=[]→listed.getD i false=true:=by
      intro i
      induction i using Nat.strongRecOn with
      | _ i ih=>
        intro hi hr
        rcases Bool.eq_false_or_eq_true (listed.getD i false) with h | h
        · exact h
        · exfalso
          have hm:i∈Region.ready .any l.toArray listed:=by
            rw [mem_ready]
            refine ⟨?_,l[i],by simp [hi],fun e he hb=>?_⟩
            · have hii:i < listed.size:=by omega
              simp [hii] at h ⊢;exact h
            · have:=iK l 0 okE i l[i] (by simp [hi]) e he hb
              exact ih e.on (by omega) (by omega) hr
          rw [hr] at hm;cases hm
    refine ⟨(fun hr=>by have:=least i0 (by omega) hr;rw [hi0f] at this;cases this),?_⟩
    intro k hk
    rw [mem_ready] at hk
    obtain ⟨h0,o,ho,hall⟩:=hk
    have hkn0:k < n0:=by
      rcases Nat.lt_or_ge k n0 with h | h
      · exact h
      · exfalso
        have hkl:k < l.length:=by have:=(Array.getElem?_eq_some_iff.1 ho).1;simpa using this
        have hr:=pI ht hkl h (i:=i0) (by omega)
        simp only [dB,ho,List.any_eq_true,Bool.and_eq_true,Bool.or_eq_true,Nat.beq_eq] at hr
        obtain ⟨e,he,hb,hr⟩:=hr
        have hse:=hall e (by simpa using he) hb
        rcases hr with hr | hr
        · rw [hr,hi0f] at hse;cases hse
        · have:=fG (S:=fun i=>listed.getD i false) hc 5 e.on i0 hr hse
          simp only [hi0f] at this;cases this
    have hkl:k < l.length:=by have:=(Array.getElem?_eq_some_iff.1 ho).1;simpa using this
    have hlo:l[k]?=some o:=by simpa using ho
    have hklt:k < listed.size:=by omega
    have hk0:listed.getD k false=false:=by simp [hklt] at h0 ⊢;exact h0
    have hmark:(fun i=>(listed.setIfInBounds k true).getD i false)=mark (fun i=>listed.getD i false) k:=by
      funext i
      by_cases e:i=k
      · subst e;simp [mark,hklt]
      · rw [getD_set_ne false (Ne.symm e)];simp [mark,e]
    have hclosed':ot l.toArray (fun i=>(listed.setIfInBounds k true).getD i false):=by
      intro i oi hoi hi e he hb
      by_cases e1:i=k
      · subst e1
        rw [ho] at hoi;cases hoi
        exact getD_set_true (hall e he hb)
      · have hi' : listed.getD i false = true := by
          have:=hi
          simp only at this
          rwa [getD_set_ne false (Ne.symm e1)] at this
        exact getD_set_true (hc i oi hoi hi' e he hb)
    have hno':∀i,n0≤i→(listed.setIfInBounds k true).getD i false=false:=fun i hi=>by
      rw [getD_set_ne false (by omega)];exact hno i hi
    have hcount:(listed.setIfInBounds k true).toList.countP (·==false)≤fuel:=by
      have h1:(listed.setIfInBounds k true).toList=listed.toList.set k true:=by simp
      rw [h1,List.countP_set (by simpa using hklt)]
      have:listed.toList[k]'(by simpa using hklt)=false:=by
        simp [hklt] at h0;simpa using h0
      simp [this]
      have h2:0 < listed.toList.countP (·==false):=by
        rw [List.countP_pos_iff]
        exact ⟨listed.toList[k]'(by simpa using hklt),by simp,by simp [this]⟩
      simp at h2 hf ⊢
      omega
    have hput:∀v,JA nt D fr l.toArray (mark (fun i=>listed.getD i false) k) (p6 ε k v) (a.put o.dst v):=by
      intro v
      have hdk:eV l.toArray k=o.dst:=by simp [eV,hlo]
      refine ⟨?_,?_,?_,?_⟩
      · cases hd:o.dst <;> simp [Act.put,hway.size]
      · cases hd:o.dst <;> simp [Act.put,hway.defers]
      · intro t u hu hno
        have hbase:=hway.base t u hu (fun i hi=>hno i (by simp [mark,hi]))
        have hnk:o.dst≠some t:=by have:=hno k (by simp [mark]);rwa [hdk] at this
        cases hd:o.dst with
        | none=>simpa [Act.put] using hbase
        | some t'=>
          have:t'≠t:=by intro e;subst e;exact hnk hd
          simp only [Act.put]
          rw [←hbase]
          simp [Array.getElem?_setIfInBounds_ne this]
      · intro i t hi hd
        by_cases e:i=k
        · subst e
          rw [hdk] at hd
          have ht:=hlt i t (by rw [hdk];exact hd)
          rw [hd]
          simp [Act.put,p6,hway.size,ht]
        · have hi':listed.getD i false=true:=by simpa [mark,e] using hi
          have hold:=hway.done i t hi' hd
          simp only [p6,if_neg e]
          cases hdo:o.dst with
          | none=>simpa [Act.put] using hold
          | some t'=>
            have hne:t'≠t:=by
              intro e1;subst e1
              have hoi:∃oi,l[i]?=some oi∧oi.dst=some t':=by
                unfold eV at hd
                cases hq:l.toArray[i]? with
                | none=>rw [hq] at hd;cases hd
                | some oi=>rw [hq] at hd;exact ⟨oi,by simpa using hq,by simpa using hd⟩
              obtain ⟨oi,hoi,hdi⟩:=hoi
              rcases Nat.lt_or_gt_of_ne e with hlt' | hgt
              · exact mW l okD i k oi o t' hlt' hoi hlo hdi hdo
              · exact mW l okD k i o oi t' hgt hlo hoi hdo hdi
            simp only [Act.put]
            rw [←hold]
            simp [Array.getElem?_setIfInBounds_ne hne]
    have hreads:∀t∈uz l.toArray o,∀v,fv (pZ l.toArray ε fr o.after.toList) t=some v→a.tmps.getD t undef=v:=by
      intro t ht v hv
      rcases nw _ hv with ⟨e,he,hb,hd,rfl⟩ | ⟨hv,hno⟩
      · exact hway.done e.on t (hall e (by simpa using he) hb) hd
      · refine hway.base t v hv fun i hi hd=>?_
        have hoi:∃oi,l[i]?=some oi∧oi.dst=some t:=by
          unfold eV at hd
          cases hq:l.toArray[i]? with
          | none=>rw [hq] at hd;cases hd
          | some oi=>rw [hq] at hd;exact ⟨oi,by simpa using hq,by simpa using hd⟩
        obtain ⟨oi,hoi,hdi⟩:=hoi
        have hw:=nS l.toArray l l 0 okR k o hlo t ht
        rw [Nat.zero_add] at hw
        have:=lS l.toArray k o t l 0 hw i oi hoi hdi
        rw [Nat.zero_add] at this
        rcases this with h | h
        · obtain ⟨e,he,hb,hei⟩:=kJ.1 h
          exact hno e (by simpa using he) hb (by rw [hei];exact hd)
        · have:=fG (S:=fun i=>listed.getD i false) hc 6 i k h hi
          simp only [hk0] at this;cases this
    have heval:∀x∈o.op.operands,∀v,BY (pZ l.toArray ε fr o.after.toList) x=some v→a.eval x=v:=by
      intro x hx v hv
      cases x with
      | tmp t=>exact hreads t (List.mem_append_left _ (List.mem_filterMap.2 ⟨.tmp t,by simpa using hx,rfl⟩)) v hv
      | const u=>simpa [BY,Act.eval] using hv
      | global g=>simpa [BY,Act.eval] using hv
      | func f=>simpa [BY,Act.eval] using hv
    have hN:=lR l okN k o hlo
    have run : O P o (pZ l.toArray ε fr o.after.toList) (J (fun i => listed.getD i false) ε) (fun v w => J (mark (fun i => listed.getD i false) k) (p6 ε k v) w) →
        o.wpIn (Wd r) 0 P a w (wpAnyIn (Wd r) 0 P .any l.toArray Q fuel (listed.setIfInBounds k true)) Q:=by
      intro hO
      let ρ:Operand→Value:=fun x=>(BY (pZ l.toArray ε fr o.after.toList) x).getD (a.eval x)
      have hρ:∀x v,BY (pZ l.toArray ε fr o.after.toList) x=some v→ρ x=v:=fun x v hv=>by simp [ρ,hv]
      have hop:=hO ρ w hρ hj
      have hsel:∀cs b,o.op≠ .select cs b:=by intro cs b e;simp [Oper.noDefer,e] at hN
      have hcongr:execOp ρ o=execOp a.eval o:=execOp_congr o hsel fun x hx=>by
        cases hfx:BY (pZ l.toArray ε fr o.after.toList) x with
        | none=>simp [ρ,hfx]
        | some v=>simp [ρ,hfx,heval x hx v hfx]
      have hop':gT P o a.eval w (fun v w=>J (mark (fun i=>listed.getD i false) k) (p6 ε k v) w):=by
        unfold gT at hop ⊢;rw [←hcongr];exact hop
      refine rz hN hop' fun v w' hv=>?_
      exact ih _ _ _ _ (by simpa using hs) hclosed' hno' hcount (by rw [hmark];exact hput v) (by rw [hmark];exact hv)
    unfold wpOpIn
    rw [ho]
    simp only
    have hobk:=hob k o hkn0 hlo (fun i=>listed.getD i false) ε hc hk0 hall
    cases hg:o.guard with
    | none=>
      rw [hg] at hobk
      rw [if_pos (by simp [Region.wanted,hg])]
      exact run hobk
    | some q=>
      obtain ⟨j,want⟩:=q
      rw [hg] at hobk
      simp only at hobk
      obtain ⟨hej,hsj⟩:=i5 l.toArray l okG k o j want hlo hg
      obtain ⟨e,he,hb,hei⟩:=kJ.1 hej
      have hSj:listed.getD j false=true:=by have:=hall e he hb;rwa [hei] at this
      have hy:yielded l.toArray a.tmps j=some want↔ε j= .bool want:=by
        cases hdj:eV l.toArray j with
        | none=>rw [hdj] at hsj;cases hsj
        | some dj=>
          have hv:=hway.done j dj hSj hdj
          unfold yielded
          rw [show (l.toArray[j]?).bind (·.dst)=some dj from hdj]
          simp only [Option.bind_some]
          have hltj:dj < a.tmps.size:=by rw [hway.size];exact hlt j dj hdj
          rw [Array.getD_eq_getD_getElem?,Array.getElem?_eq_getElem hltj] at hv
          simp only [Option.getD_some] at hv
          rw [Array.getElem?_eq_getElem hltj]
          simp only [hv]
          cases ε j <;> simp
      by_cases hwt:ε j= .bool want
      · rw [if_pos (by simp [Region.wanted,hg,hy.2 hwt])]
        exact run (hobk.1 hwt)
      · rw [if_neg (by
          simp only [Region.wanted,hg]
          intro h
          exact hwt (hy.1 (by simpa using h)))]
        exact ⟨fun _ _=>trivial,ih _ _ _ _ (by simpa using hs) hclosed' hno' hcount (by rw [hmark];exact hput undef) (by rw [hmark];exact hobk.2 hwt w hj)⟩
end Go.Proofs.YtpmdfoaadejmkaaGreatDoor
