/-
  Texts put together, texts of bytes, places in arrays, rests.
-/
import Derived.Test.YtpbinloeemebkaaGreatM10
import Derived.Test.YtpbinloeemebkaaGreatM06
namespace Go.Proofs.YtpbinloeemebkaaGreat
open Go.RowKit
section
variable {P:Program} {fr:c6} {B:Bs} {L:AL} {d:Option Tmp} {ty t t':TypeId} {pos:String} {af:Array Edge} {g:Option (Nat×Bool)} {x y:Operand} {u:AV}
theorem Fh {a b:ByteArray} (hx:bt fr x=some (.sc (.string a))) (hy:bt fr y=some (.sc (.string b))) (h:a.size+b.size≤1000000):Av P ⟨d,.binOp .add t x y t',ty,pos,af,g⟩ fr (.sc (.string (a++b))):=
 ew fun ρ w hρ=>by
  have:¬(9223372036854775807:Int) < ((a.size+b.size:Nat):Int):=by omega
  have h9:IntKind.max .i64=9223372036854775807:=rfl
  simp [execOp,hρ _ _ hx,hρ _ _ hy,eqGuard,binOp,Op.stringOp,h9]
  omega
theorem C9 {e by_:Nat} {c:Int} (hs:kw P t e 1 by_) (he:C3 P e .u8) (hd:C4 P t') (hx:bt fr x=some u) (hu:u.im= .imm 1 [[.sc (.int .u8 c)]]):Av P ⟨d,.convert t t' x,ty,pos,af,g⟩ fr (.sc (.string ⟨#[UInt8.ofNat c.toNat]⟩)):=
 fun σ ρ w hρ hw=>by
  have h1:=(hρ x _ hx).im
  rw [hu] at h1
  obtain ⟨A,cap,hv,_,_,hsz,ha,hcx,hcy⟩:=h1.imm_inv
  obtain ⟨b,off,rfl⟩:=ha (by simp)
  obtain ⟨v,hv1,_⟩:=hcx 0 b off 0 rfl (by simp) (by omega)
  have hv2:=hcy 0 _ b off 0 _ v rfl rfl rfl hv1
  have hv3:=hv2.sc_inv
  subst hv3
  have hcell:w.cell? ⟨b,off,none⟩=some (.int .u8 c):=by
   have:=hw _ _ _ hv1
   simpa using this
  have hload:(loadCells ⟨b,off,none⟩ 1).run P w= .ok #[.int .u8 c] w:=by
   have:=run_loadCells_list (P:=P) w ⟨b,off,none⟩ [.int .u8 c] fun j v hj=>by
    cases j with
    | zero=>simp at hj;subst hj;simpa [Addr.add] using hcell
    | succ j=>simp at hj
   simpa using this
  refine ⟨_,?_,.sc _⟩
  simp [execOp,hv,convert,run_underlying hs.under,run_underlying he.under,run_underlying hd.under,Conv.bytesToString,hload]
  rfl
theorem DH {n e sz k:Nat} {q:IntKind} {cs:List AV} (ht:P.underlying t=some (.array n e)) (hs:(P.info? e).map (·.size)=some sz) (hx:bt fr x=some (.iptr cs)) (hy:bt fr y=some (.sc (.int q (k:Int)))) (hk:k < n) (hl:k * sz≤cs.length):Av P ⟨d,.indexAddr t x y,ty,pos,af,g⟩ fr (.iptr (cs.drop (k * sz))):=
 fun σ ρ w hρ _=>by
  have hyv:=(hρ y _ hy).sc_inv
  obtain ⟨b,off,hv,hcx,hcy⟩:=(hρ x _ hx).iptr_inv
  have hk':(k:Int) < (n:Int):=by omega
  have hso:(sizeOf e:Sem Nat).run P w= .ok sz w:=by
   cases hi:P.info? e with
   | none=>rw [hi] at hs;cases hs
   | some i=>rw [hi] at hs;simp at hs;simp [sizeOf,typeInfo,hi,hs]
  refine ⟨.pointer (some ⟨b,off+k * sz,none⟩),?_,.iptr _ _ _ (fun j hj=>?_) fun j c v hc hw=>?_⟩
  ·simp [execOp,hv,hyv,Instr.indexAt,asIntOf,run_underlying ht,hso,Instr.sureAddr,Addr.add]
   by_cases hn:n≤1 <;> by_cases h0:k * sz=0 <;> simp [hk,h0]
  ·have:=hcx (k * sz+j) (by simp at hj;omega)
   simpa [Nat.add_assoc] using this
  ·exact hcy (k * sz+j) c v (by simpa using hc) (by simpa [Nat.add_assoc] using hw)
end
def Cm (tt:TT) (t:Nat):Option (Nat×Nat×Nat):=match du tt t with
 | some ⟨.arr n e sz,_,_⟩=>some (n,e,sz)
 | _=>none
theorem ra {P:Program} {tt:TT} (ok:ev P tt) {t n e sz:Nat} (h:Cm tt t=some (n,e,sz)):P.underlying t=some (.array n e)∧(P.info? e).map (·.size)=some sz:=by
 unfold Cm at h
 split at h
 ·rename_i n' e' sz' si z ht
  cases h
  have:=ok.ok t _ ht
  simp only [zj,Bool.and_eq_true] at this
  obtain ⟨_,h2⟩:=this
  split at h2 <;> simp at h2
  rename_i hu
  obtain ⟨⟨rfl,rfl⟩,h3⟩:=h2
  refine ⟨hu,?_⟩
  unfold oL at h3
  split at h3
  ·rename_i i hi
   simp at h3
   simp [hi,h3]
  ·cases h3
 ·cases h
section
variable {P:Program} {tt:TT} {r:Option Nat} {ops:Array Oper} {Q:Exit→Act→World→Prop} {nt:Nat} {D:List Deferred} {fr:c6} {B:Bs} {L:AL} {rest:List Oper} {d:Nat} {ty t t':TypeId} {pos:String} {af:Array Edge} {x y z:Operand} {u:AV}
theorem ub {a b:Int} (h:bO P r ops Q nt D rest ((d,.sc (.int .i64 (a.tmod b)))::fr) B L) (hx:bt fr x=some (.sc (.int .i64 a)):=by rfl) (hy:bt fr y=some (.sc (.int .i64 b)):=by rfl) (hb:b≠0:=by omega) (hd:Nat.ble nt d=false:=by rfl):bO P r ops Q nt D (⟨some d,.binOp .rem t x y t',ty,pos,af,none⟩::rest) fr B L:=d8 (zK hx hy hb) hd rfl h
theorem FZ (ok:ev P tt) (k:Nat) {n e sz:Nat} {q:IntKind} {cs:List AV} (h:bO P r ops Q nt D rest ((d,.iptr (cs.drop (k * sz)))::fr) B L) (ht:Cm tt t=some (n,e,sz):=by rfl) (hx:bt fr x=some (.iptr cs):=by rfl) (hy:bt fr y=some (.sc (.int q (k:Int))):=by rfl) (hk:Nat.blt k n=true:=by rfl) (hl:Nat.ble (k * sz) cs.length=true:=by rfl) (hd:Nat.ble nt d=false:=by rfl):bO P r ops Q nt D (⟨some d,.indexAddr t x y,ty,pos,af,none⟩::rest) fr B L:=by
 obtain ⟨h1,h2⟩:=ra ok ht
 exact d8 (DH h1 h2 hx hy (by simpa [Nat.blt_eq] using hk) (by simpa [Nat.ble_eq] using hl)) hd rfl h
end
section
variable {P:Program} {tt:TT} {l:List Oper} {fr:c6} {fin:iq} {sk:ky} {acc:c6} {L:AL} {k:Nat} {dd:Option Tmp} {ty t t':TypeId} {pos:String} {af:Array Edge} {g:Option (Nat×Bool)} {x y:Operand} {u:AV}
theorem DN {a b:ByteArray} (h:DA P l fr fin sk ((k,.sc (.string (a++b)))::acc) L) (hx:bt (cB l.toArray acc fr af.toList) x=some (.sc (.string a)):=by rfl) (hy:bt (cB l.toArray acc fr af.toList) y=some (.sc (.string b)):=by rfl) (hs:a.size+b.size≤1000000:=by decide) (hg:iL ⟨dd,.binOp .add t x y t',ty,pos,af,g⟩ acc:=by first | trivial | rfl):cT P l fr fin k .v ⟨dd,.binOp .add t x y t',ty,pos,af,g⟩ sk acc L:=f6 hg (zq (Fh hx hy hs)) h
theorem Aa {a:Int} {q q':IntKind} {ti ti':TI} (ok:ev P tt) (h:DA P l fr fin sk ((k,.sc (.int q' (q'.wrap a)))::acc) L) (hx:bt (cB l.toArray acc fr af.toList) x=some (.sc (.int q a)):=by rfl) (ht:du tt t=some ti:=by rfl) (hk:ti.k= .int q:=by rfl) (ht':du tt t'=some ti':=by rfl) (hk':ti'.k= .int q':=by rfl) (hg:iL ⟨dd,.convert t t' x,ty,pos,af,g⟩ acc:=by first | trivial | rfl):cT P l fr fin k .v ⟨dd,.convert t t' x,ty,pos,af,g⟩ sk acc L:=by
 haveI:=ok.int ht hk
 haveI:=ok.int ht' hk'
 exact f6 hg (zq (r6 hx)) h
theorem wM (ok:ev P tt) {e by_:Nat} {c:Int} {ti ti':TI} (h:DA P l fr fin sk ((k,.sc (.string ⟨#[UInt8.ofNat c.toNat]⟩))::acc) L) (hx:bt (cB l.toArray acc fr af.toList) x=some u:=by rfl) (hu:hQ u=some (1,[[.sc (.int .u8 c)]]):=by rfl) (ht:jt tt t=some (e,1,by_):=by rfl) (he:du tt e=some ti:=by rfl) (hk:ti.k= .int .u8:=by rfl) (ht':du tt t'=some ti':=by rfl) (hk':ti'.k= .str:=by rfl) (hg:iL ⟨dd,.convert t t' x,ty,pos,af,g⟩ acc:=by first | trivial | rfl):cT P l fr fin k .v ⟨dd,.convert t t' x,ty,pos,af,g⟩ sk acc L:=
 f6 hg (zq (C9 (bq ok ht).1 (ok.int he hk) (ok.str ht' hk') hx (cM hu))) h
theorem DL (ok:ev P tt) (m:Nat) {n e sz:Nat} {q:IntKind} {cs:List AV} (h:DA P l fr fin sk ((k,.iptr (cs.drop (m * sz)))::acc) L) (ht:Cm tt t=some (n,e,sz):=by rfl) (hx:bt (cB l.toArray acc fr af.toList) x=some (.iptr cs):=by rfl) (hy:bt (cB l.toArray acc fr af.toList) y=some (.sc (.int q (m:Int))):=by rfl) (hk:Nat.blt m n=true:=by rfl) (hl:Nat.ble (m * sz) cs.length=true:=by rfl) (hg:iL ⟨dd,.indexAddr t x y,ty,pos,af,g⟩ acc:=by first | trivial | rfl):cT P l fr fin k .v ⟨dd,.indexAddr t x y,ty,pos,af,g⟩ sk acc L:=by
 obtain ⟨h1,h2⟩:=ra ok ht
 exact f6 hg (zq (DH h1 h2 hx hy (by simpa [Nat.blt_eq] using hk) (by simpa [Nat.ble_eq] using hl))) h
end
section
variable {P:Program} {l:List Oper} {fr:c6} {fin:iq} {sk:ky} {acc:c6} {L:AL} {k j:Nat} {dd:Option Tmp} {op:Op} {ty:TypeId} {pos:String} {af:Array Edge} {b want:Bool}
theorem Ez (hj:nh acc j= .sc (.bool b)) (hb:(b==want)=false) (hn:DA P l fr fin sk ((k,.sc undef)::acc) L):cT P l fr fin k .f ⟨dd,op,ty,pos,af,some (j,want)⟩ sk acc L:=by
 intro ho
 obtain ⟨pl,hpl⟩:=hn
 refine ⟨.eff k (fun c L'=>c= .sc undef∧L'=L) fun _ _=>pl,.f,sk,_,.inr (.inr ⟨rfl,fun c L' ⟨_,h2⟩ hK=>by rw [h2];exact hK⟩),rfl,ho,.inr ⟨⟨_,hj,fun e=>by injection e with e;subst e;simp at hb⟩,rfl,rfl⟩,fun c L' ⟨h1,h2⟩=>by rw [h1,h2];exact hpl⟩
theorem Ey (hj:nh acc j= .sc (.bool b)) (hb:(b==want)=false) (hn:DA P l fr fin sk ((k,.sc undef)::acc) L):cT P l fr fin k .e ⟨dd,op,ty,pos,af,some (j,want)⟩ sk acc L:=by
 intro ho
 obtain ⟨pl,hpl⟩:=hn
 refine ⟨.eff k (fun c L'=>c= .sc undef∧L'=L) fun _ _=>pl,.e,sk,_,.inl rfl,rfl,ho,.inr ⟨⟨_,hj,fun e=>by injection e with e;subst e;simp at hb⟩,rfl,rfl⟩,fun c L' ⟨h1,h2⟩=>by rw [h1,h2];exact hpl⟩
end
end Go.Proofs.YtpbinloeemebkaaGreat
namespace Go.Proofs.YtpbinloeemebkaaGreat
structure MS where
 a:Nat
 lo:Fin 3
abbrev DM (α:Type):=MS→α×MS
section
variable {α β:Type}
def cC (x:α):DM α:=fun m=>(x,m)
def c7 (g:DM α) (k:α→DM β):DM β:=fun m=>k (g m).1 (g m).2
def gS (g:Nat→β→DM β) (b:β):Nat→DM β
 | 0=>cC b
 | k+1=>c7 (gS g b k) (g k)
end
def s9 (s:List Int) (a:Nat) (n:Int):Int:=match s[a]? with
 | some x=>x % n
 | none=>0
def dr (s:List Int) (n:Int):DM Int:=fun m=>(s9 s m.a n,{ m with a:=m.a+1 })
def FQ:DM Unit:=fun m=>((),{ m with lo:=⟨m.lo.val - 1,Nat.lt_of_le_of_lt (Nat.sub_le ..) m.lo.isLt⟩ })
def gO (z:Fin 3):DM Unit:=fun m=>((),{ m with lo:=z })
def pT:DM Int:=fun m=>((m.lo.val:Int),m)
section
variable (s:List Int)
def E1 (p:Nat):DM eB:=c7 (dr s 21) fun x=>c7 (dr s 21) fun y=>if p=0 then cC ⟨x * 50 - 100,y * 50 - 200,true⟩ else c7 (dr s 4) fun z=>cC ⟨x * 50 - 100,y * 50 - 200,decide (0 < z)⟩
def o4 (l:List eB) (k:Nat):DM (List eB):=gS (fun p l=>c7 (E1 s p) fun t=>cC (l++[t])) l k
def i6 (n:Nat):DM (List eB×List Int):=gS (fun _ o=>c7 (dr s 4) fun k=>c7 (o4 s o.1 (2+k).toNat) fun l=>cC (l,o.2++[(l.length:Int) - 1])) ([],[]) n
def jo:DM (List eB×List Int):=c7 (dr s 3) fun n=>i6 s n.toNat
def gB (q:Int):DM (List fT):=cC [⟨39,0⟩,⟨1,16⟩,⟨17,0⟩,⟨36,2⟩,⟨1,q⟩,⟨2,0⟩]
def cG (n funcs:Int):DM (List fT):=c7 (dr s (n+1)) fun p=>c7 (dr s (n+1)) fun q=>c7 (dr s 2) fun a=>c7 (dr s 12) fun k=>
 if k=0 then cC [⟨22,a⟩,⟨23,a⟩]
 else if k=1 then c7 (dr s 6) fun z=>cC [⟨24,z⟩]
 else if k=2∨k=3 then cC [⟨1,p⟩,⟨1,p⟩,⟨29,0⟩,⟨15,0⟩,⟨32,0⟩]
 else if k=4 then c7 (dr s 200) fun z=>cC [⟨1,p⟩,⟨1,z - 100⟩,⟨31,0⟩]
 else if k=5 then cC [⟨1,p⟩,⟨1,q⟩,⟨33,0⟩]
 else if k=6 then cC [⟨34,a⟩]
 else if k=7 then cC [⟨1,a⟩,⟨1,q⟩,⟨25,0⟩,⟨1,3⟩,⟨5,0⟩,⟨26,0⟩]
 else if k=8 then (if 0 < funcs then c7 (dr s funcs) fun z=>cC [⟨37,z⟩] else gB q)
 else if k=9 then (if 0 < funcs then c7 pT fun lo=>if 0 < lo then c7 FQ fun _=>c7 (dr s 5) fun y=>c7 (dr s funcs) fun z=>cC [⟨1,y⟩,⟨38,z⟩] else gB q else gB q)
 else if k=10 then cC [⟨1,p⟩,⟨30,0⟩,⟨1,q⟩,⟨29,0⟩,⟨16,0⟩,⟨36,3⟩,⟨1,q⟩,⟨1,64⟩,⟨31,0⟩]
 else gB q
def fq (n funcs:Int) (k:Nat):DM (List fT):=gS (fun _ l=>c7 (cG s n funcs) fun p=>cC (l++p)) [] k
def mL (n funcs most:Int):DM (List fT):=c7 (dr s most) fun k=>fq s n funcs k.toNat
def ff (a:Int) (k:Nat):DM (List Int):=gS (fun j l=>if l.length < 4 then c7 (dr s 3) fun z=>cC (if z=0 then l++[a+1+j] else l) else cC l) [a] k
def n9 (n:Int):DM (List Int):=c7 (dr s n) fun a=>ff s a (n - (a+1)).toNat
def i7 (n:Int) (k:Nat):DM (List (List Int)):=gS (fun _ l=>c7 (n9 s n) fun x=>cC (l++[x])) [] k
def oT (n most:Int):DM (List (List Int)):=c7 (dr s (most+1)) fun k=>i7 s n k.toNat
def fV (n:Int) (k:Nat):DM (List Int):=gS (fun _ l=>c7 (dr s n) fun x=>cC (l++[x])) [] k
def f5 (n:Int) (calls:List Int) (k:Nat):DM (List gH):=gS (fun _ l=>c7 (dr s n) fun a=>c7 (dr s calls.length) fun z=>cC (l++[⟨a,calls.getD z.toNat 0⟩])) [] k
def DZ (n:Int) (a:List Int):DM bv:=c7 (n9 s n) fun b=>c7 (dr s 41) fun x=>cC ⟨[],[a,b],[],[],[],x * 10 - 200⟩
def jd (n:Int):DM (List (List Int)×List (List Int)):=c7 (dr s 2) fun z=>if z=0 then c7 (oT s n 2) fun b=>c7 (oT s n 2) fun c=>cC (b,c) else cC ([],[])
def gn (n kind:Int) (calls:List Int):DM bv:=c7 (n9 s n) fun a=>if kind=6 then DZ s n a else c7 (jd s n) fun e=>
 if kind=1∨kind=5 then c7 (fV s n a.length) fun o=>cC ⟨e.1,[a],e.2,o,[],0⟩
 else if kind=2 then c7 (dr s 4) fun k=>c7 (fV s n k.toNat) fun o=>cC ⟨e.1,[a],e.2,o,[],0⟩
 else if kind=3 then c7 (oT s n 2) fun m=>c7 (dr s n) fun o=>cC ⟨e.1,a::m,e.2,[o],[],0⟩
 else c7 (oT s n 2) fun m=>c7 (dr s 3) fun k=>c7 (f5 s (a::m).length calls (if calls.length=0 then 0 else k.toNat)) fun c=>cC ⟨e.1,a::m,e.2,[],c,0⟩
def fz:List Int:=[1,2,3,4,4,5,6,7,8,1]
def ei (k:Nat):DM (List aP×List Int):=gS (fun i o=>c7 (dr s 10) fun z=>c7 (dr s 3) fun y=>cC (o.1++[⟨fz.getD z.toNat 0,decide (y=0),[]⟩],if fz.getD z.toNat 0≤4 then o.2++[(i:Int)] else o.2)) ([],[]) k
def eW (n kind:Int) (calls:List Int) (k:Nat):DM (List bv):=gS (fun _ l=>c7 (gn s n kind calls) fun r=>cC (l++[r])) [] k
def f8 (n:Int) (calls:List Int) (l:List aP) (k:Nat):DM (List aP):=gS (fun i l=>match l[i]? with
 | none=>cC l
 | some q=>if q.Kind≥7 then cC l else c7 (dr s 3) fun k=>c7 (eW s n q.Kind calls (1+k).toNat) fun rs=>cC (l.set i { q with Rules:=rs })) l k
def iz (n:Int):DM (List aP):=c7 (dr s 7) fun k=>c7 (ei s k.toNat) fun o=>f8 s n o.2 o.1 k.toNat
def bytes (l:List UInt8):ByteArray:=⟨l.toArray⟩
def j9 (p:List UInt8) (n:Nat):ByteArray:=bytes (p++[(97+n).toUInt8])
def GU:List UInt8:=[103]
def tk:List UInt8:=[97,120]
def Bl:ByteArray:=bytes [46,110,111,116,100,101,102]
def cL (n:Nat):ByteArray:=if n=0 then Bl else j9 GU n
def iG (n:Nat):DM (List cX):=if 1 < n then c7 (dr s 4) fun z=>if z=0 then c7 (dr s 9) fun x=>c7 (dr s 5) fun y=>cC [⟨1,x * 50 - 200,y * 50⟩] else cC [] else cC []
def fP (cl:Int):List (Int×Int):=[(1,0),(1,1),(3,0),(4,0),(2,cl)]
def eJ (mark:Bool) (cl:Int) (k:Nat):DM (List dz):=gS (fun i l=>c7 (dr s 3) fun z=>if z=0∧(((fP cl).getD i (0,0)).1≠2∨mark=true) then c7 (dr s 21) fun x=>c7 (dr s 21) fun y=>cC (l++[⟨((fP cl).getD i (0,0)).1,((fP cl).getD i (0,0)).2,x * 50,y * 50 - 200⟩]) else cC l) [] k
def gX (r:Nat) (l:List dG) (k:Nat):DM (List dG):=gS (fun p l=>c7 (dr s 3) fun z=>if z=0 then c7 (dr s 41) fun x=>if p=0 then cC (l++[⟨r,-1,x - 20,0⟩]) else c7 (dr s 41) fun y=>cC (l++[⟨r,(p:Int) - 1,x - 20,y - 20⟩]) else cC l) l k
def g7 (pts:Nat) (R:Nat):DM (List dG):=gS (fun r l=>gX s r l (pts+1)) [] R
def jO (R fn n:Nat):DM bn:=c7 (dr s 19) fun ad=>c7 (dr s 4) fun mk=>c7 (jo s) fun o=>c7 (iG s n) fun ps=>c7 (dr s 2) fun cl=>c7 (eJ s (decide (mk=0) && decide (n≠0)) cl 5) fun an=>c7 (g7 s o.1.length R) fun de=>c7 (gO 2) fun _=>c7 (mL s o.1.length fn 6) fun h=>cC ⟨cL n,100+ad * 50,decide (mk=0) && decide (n≠0),o.1,o.2,ps,an,de,h⟩
def g9 (R fn k:Nat):DM (List bn):=gS (fun i l=>c7 (jO s R fn i) fun g=>cC (l++[g])) [] k
def kG (k:Nat):DM (List eu):=gS (fun i l=>c7 (dr s 3) fun a=>c7 (dr s 4) fun b=>cC (l++[⟨j9 tk i,0 - a * 100,0,b * 100⟩])) [] k
def k7:List eX:=[⟨0,64,64⟩,⟨0,32,64⟩,⟨-64,-64,0⟩,⟨-1,0,5⟩,⟨10,32,50⟩]
def i4 (k:Nat):DM (List eX):=gS (fun _ l=>c7 (dr s 5) fun z=>cC (l++[k7.getD z.toNat ⟨0,0,0⟩])) [] k
def kp (axes k:Nat):DM (List (List eX)):=gS (fun _ l=>c7 (i4 s axes) fun r=>cC (l++[r])) [] k
def fC (axes:Nat):DM (List (List eX)):=if axes=0 then cC [] else c7 (dr s 4) fun n=>kp s axes n.toNat
def ix (k:Nat):DM (List (List fT)):=gS (fun i l=>c7 (gO 0) fun _=>c7 (mL s 6 i 4) fun h=>cC (l++[h])) [] k
def py (k:Nat):DM (List Int):=gS (fun _ l=>c7 (dr s 500) fun z=>cC (l++[z - 100])) [] k
def ez:List Int:=[97,98,99,102,105,108,57345,57346,57601,57602,57603,57857,57861,58113,58114,58369]
def gW (n:Int) (k:Nat):DM (List f0):=gS (fun i l=>c7 (dr s 4) fun z=>if 0 < z then c7 (dr s n) fun g=>cC (l++[⟨ez.getD i 0,g⟩]) else cC l) [] k
def eV:List ByteArray:=[bytes [108,105,103,97],bytes [105,115,111,108],bytes [105,110,105,116],bytes [109,101,100,105],bytes [102,105,110,97],bytes [107,101,114,110],bytes [109,97,114,107],bytes [99,97,108,116]]
def nz (k:Nat):DM (List Int):=gS (fun i l=>c7 (dr s 3) fun z=>cC (if z=0 then l++[(i:Int)] else l)) [] k
def gY (n:Nat) (k:Nat):DM (List bV):=gS (fun i l=>c7 (nz s n) fun r=>c7 (dr s 2) fun z=>cC (if z=0 then l++[⟨eV.getD i ByteArray.empty,r⟩] else l)) [] k
def mq:List Int:=[1000,1024,100,2048]
def B5:DM aL:=c7 (dr s 4) fun u=>c7 (dr s 3) fun k=>c7 (kG s k.toNat) fun ax=>c7 (fC s k.toNat) fun rg=>c7 (dr s 3) fun k2=>c7 (ix s k2.toNat) fun fu=>c7 (dr s 4) fun k3=>c7 (py s k3.toNat) fun cv=>c7 (dr s 9) fun k4=>c7 (g9 s rg.length fu.length (2+k4).toNat) fun gl=>c7 (gW s gl.length 16) fun ch=>c7 (iz s gl.length) fun lk=>c7 (gY s lk.length 8) fun ft=>cC ⟨mq.getD u.toNat 0,gl,ch,lk,ft,ax,rg,fu,cv⟩
def rD:aL:=(B5 s ⟨0,0⟩).1
def lT:List Int:=ez++[122]
def oO:List Int:=(s.take 20).map fun z=>lT.getD (z % 17).toNat 0
end
end Go.Proofs.YtpbinloeemebkaaGreat
namespace Go.Proofs.YtpbinloeemebkaaGreat
open Go.RowKit
attribute [local irreducible] AT bO AX AO Av Kt bo dU DA cT
def pm (fs:List ByteArray) (l:List bV):List Int:=(l.map fun t=>if j8 fs t.Name then t.Lookups else []).flatten
theorem zV (fs:List ByteArray) (l:List bV) (i:Nat) {t:bV} (h:l[i]?=some t):pm fs (l.take (i+1))=pm fs (l.take i)++(if j8 fs t.Name then t.Lookups else []):=by
 unfold pm
 rw [List.take_add_one,h,List.map_append,List.flatten_append]
 simp
theorem tg {fs:List ByteArray} {l:List bV} {z:Int}:z∈pm fs l↔∃t∈l,j8 fs t.Name=true∧z∈t.Lookups:=by
 unfold pm
 rw [List.mem_flatten]
 constructor
 ·rintro ⟨q,hq,hz⟩
  rw [List.mem_map] at hq
  obtain ⟨t,ht,rfl⟩:=hq
  refine ⟨t,ht,?_⟩
  split at hz
  ·exact ⟨by assumption,hz⟩
  ·cases hz
 ·rintro ⟨t,ht,h1,h2⟩
  exact ⟨_,List.mem_map.2 ⟨t,ht,rfl⟩,by rw [if_pos h1];exact h2⟩
def CallsIn (f:aL) (l:List Int) (cs:List gH):Prop:=∀c∈cs,lH f c.Lookup=true→c.Lookup∈l
def jx (f:aL) (l:List Int) (rs:List bv):Prop:=∀r∈rs,CallsIn f l r.Calls
structure fW (f:aL) (fs:List ByteArray) (l:List Int) (i:Nat):Prop where
 reach:∀z∈l,fX f fs z
 nodup:l.Nodup
 base:∀z∈pm fs f.Features,0≤z→z < f.Lookups.length→z∈l
 done:∀j < i,∀z,l[j]?=some z→∀x,f.Lookups[z.toNat]?=some x→x.Kind=4→jx f l x.Rules
theorem CallsIn.mono {f:aL} {l k:List Int} {cs:List gH} (h:CallsIn f l cs) (hs:∀z∈l,z∈k):CallsIn f k cs:=fun c hc hn=>hs _ (h c hc hn)
theorem jx.mono {f:aL} {l k:List Int} {rs:List bv} (h:jx f l rs) (hs:∀z∈l,z∈k):jx f k rs:=fun r hr=>(h r hr).mono hs
theorem fW.add {f:aL} {fs:List ByteArray} {l:List Int} {i:Nat} {n:Int} (h:fW f fs l i) (hn:fX f fs n) (hl:n∉l) (hi:i≤l.length):fW f fs (l++[n]) i where
 reach z hz:=by
  rcases Hn hz with hz | hz
  ·exact h.reach z hz
  ·rw [Hm hz];exact hn
 nodup:=by
  rw [List.nodup_append]
  refine ⟨h.nodup,by simp,fun a ha b hb=>?_⟩
  rw [Hm hb]
  exact fun e=>hl (e▸ha)
 base z hz h0 h1:=List.mem_append.2 (Or.inl (h.base z hz h0 h1))
 done j hj z hz x hx hk:=by
  rw [List.getElem?_append_left (by omega)] at hz
  exact (h.done j hj z hz x hx hk).mono fun z hz=>List.mem_append.2 (Or.inl hz)
theorem fW.end {f:aL} {fs:List ByteArray} {l:List Int} (h:fW f fs l l.length):ii l f.Lookups.length=dT f fs:=by
 refine qr fun z h0 h1=>⟨h.reach z,fun hr=>?_⟩
 clear h0 h1
 induction hr with
 | base ht hn hm h0 h1=>exact h.base _ (tg.2 ⟨_,ht,hn,hm⟩) h0 h1
 | call hm hl hk hr hc hn ih=>
  obtain ⟨j,hj⟩:=List.mem_iff_getElem?.1 ih
  exact h.done j (Hp hj).1 _ hj _ hl hk _ hr _ hc hn
theorem fW.next {f:aL} {fs:List ByteArray} {l:List Int} {i:Nat} {z:Int} {x:aP} (h:fW f fs l i) (hz:l[i]?=some z) (hx:f.Lookups[z.toNat]?=some x) (hd:x.Kind=4→jx f l x.Rules):fW f fs l (i+1) where
 reach:=h.reach
 nodup:=h.nodup
 base:=h.base
 done j hj y hy w hw hk:=by
  by_cases e:j=i
  ·subst e
   rw [hz] at hy
   injection hy with hy
   subst hy
   rw [hx] at hw
   injection hw with hw
   subst hw
   exact hd hk
  ·exact h.done j (by omega) y hy w hw hk
def gk (l:List Int) (n:Nat):List AV:=(List.range n).map fun (i:Nat)=>c9 (l.contains (i:Int))
theorem nL (l:List Int) (n:Nat):(gk l n).length=n:=by simp [gk]
theorem nK (l:List Int) (n:Nat) {z:Int} (h0:0≤z) (h1:z < n):(gk l n)[0+z.toNat * 1]?=some (c9 (l.contains z)):=by
 rw [Nat.zero_add,Nat.mul_one]
 unfold gk
 rw [List.getElem?_map,List.getElem?_range (by omega)]
 simp only [Option.map_some]
 rw [show ((z.toNat:Nat):Int)=z by omega]
theorem ro (l:List Int) (n:Nat) {z:Int} (h0:0≤z) (h1:z < n):(gk l n).set (0+z.toNat * 1) (c9 true)=gk (l++[z]) n:=by
 rw [Nat.zero_add,Nat.mul_one]
 apply List.ext_getElem?
 intro i
 rw [List.getElem?_set,nL]
 unfold gk
 by_cases hi:z.toNat=i
 ·subst hi
  rw [if_pos rfl,if_pos (by omega),List.getElem?_map,List.getElem?_range (by omega)]
  simp
  omega
 ·rw [if_neg hi,List.getElem?_map,List.getElem?_map]
  by_cases hn:i < n
  ·rw [List.getElem?_range hn]
   simp only [Option.map_some,Option.some.injEq]
   refine congrArg c9 ?_
   rw [Bool.eq_iff_iff,List.contains_iff_mem,List.contains_iff_mem,List.mem_append,List.mem_singleton]
   constructor
   ·exact Or.inl
   ·rintro (h | h)
    ·exact h
    ·omega
  ·rw [List.getElem?_eq_none (by simp;omega)]
   rfl
theorem rm (n:Nat):(List.replicate n [c9 false]).flatten=gk [] n:=by
 have:∀m,(List.replicate m [c9 false]).flatten=List.replicate m (c9 false):=by
  intro m
  induction m with
  | zero=>rfl
  | succ m ih=>rw [List.replicate_succ,List.flatten_cons,ih,List.replicate_succ];rfl
 rw [this]
 unfold gk
 apply List.ext_getElem?
 intro i
 rw [List.getElem?_replicate,List.getElem?_map]
 by_cases h:i < n
 ·rw [if_pos h,List.getElem?_range h];rfl
 ·rw [if_neg h,List.getElem?_eq_none (by simp;omega)];rfl
def addOne (n:Nat) (l:List Int) (z:Int):List Int:=if 0≤z∧z < n∧z∉l then l++[z] else l
def cg (n:Nat) (l ns:List Int):List Int:=ns.foldl (addOne n) l
theorem r7 {n:Nat} {l ns:List Int} {i:Nat} {z:Int} (h:ns[i]?=some z):cg n l (ns.take (i+1))=addOne n (cg n l (ns.take i)) z:=by
 unfold cg
 rw [List.take_add_one,h,List.foldl_append]
 rfl
structure cE (n:Nat) (l:List Int):Prop where
 nodup:l.Nodup
 dom:∀z∈l,0≤z∧z < n
theorem cE.len {n:Nat} {l:List Int} (h:cE n l):l.length≤n:=iD h.nodup h.dom
theorem cE.nil {n:Nat}:cE n []:=⟨by simp,by simp⟩
theorem cE.one {n:Nat} {l:List Int} (h:cE n l) (z:Int):cE n (addOne n l z):=by
 unfold addOne
 split
 ·rename_i hz
  refine ⟨?_,fun y hy=>?_⟩
  ·rw [List.nodup_append]
   refine ⟨h.nodup,by simp,fun a ha b hb=>?_⟩
   rw [Hm hb]
   exact fun e=>hz.2.2 (e▸ha)
  ·rcases Hn hy with hy | hy
   ·exact h.dom y hy
   ·rw [Hm hy];exact ⟨hz.1,hz.2.1⟩
 ·exact h
theorem cE.add {n:Nat} {l:List Int} (h:cE n l) (ns:List Int):cE n (cg n l ns):=by
 unfold cg
 induction ns generalizing l with
 | nil=>exact h
 | cons z ns ih=>exact ih (h.one z)
def dp (p b n:Nat) (k:Option (Nat×Nat)) (l:List Int):AL:=(p,.box [.sc (.slice (some ⟨b,0,none⟩) n n),.vec k 1 (aS l)] 123)::(b,.box (gk l n) 4)::tok k 81 1 (aS l).length
abbrev fg (p:Nat):AV:= .sc (.pointer (some ⟨p,0,none⟩))
theorem DW (n:Nat) (hn:n≤1000000):AC Tryz.prog 26 [aH n] [] fun c L=>∃p b,c=fg p∧L=dp p b n none []:=by
 refine aT Tryz.func26 rfl Tryz.ntmps26 rfl fun B=>?_
 repeat' (first|refine go ?_|refine HF a1 F8 ?_)
 refine jb a1 n rfl rfl rfl rfl rfl rfl rfl (by omega) (by omega) rfl fun b=>?_
 rw [show (List.replicate n (List.map AV.sc [Value.bool false])).flatten=gk [] n from rm n]
 repeat' (first|refine go ?_|refine HF a1 F8 ?_|refine rF fun _=>?_|fail)
 refine bk (bE 0 (cs':=[.sc (.slice (some ⟨b,0,none⟩) n n),.vec none 1 []]) rfl fun σ vs h=>?_) (HN F8 ⟨_,b,rfl,rfl⟩)
 obtain ⟨v,ws,rfl,h1,h2⟩:=h.inv
 obtain ⟨v',ws',rfl,h3,h4⟩:=h2.inv
 exact .cons h1 (.cons (dg 1 h3) h4)
theorem zL (p b n:Nat) (k:Option (Nat×Nat)) (l ns:List Int) (hn:n≤1000000) (hl:cE n l):AC Tryz.prog 27 [fg p,.imm 1 (aS ns)] (dp p b n k l) fun _ L=>∃k',L=dp p b n k' (cg n l ns):=by
 refine aT Tryz.func27 rfl Tryz.ntmps27 rfl fun B=>?_
 refine cF 1 rfl rfl fun hlen=>?_
 rw [aN] at hlen
 repeat' (first|refine go ?_|refine ak ?_|refine HF a1 F8 ?_)
 refine aR [0,6,7] (α:=Nat×Option (Nat×Nat)) (fun x=>[(8,aH x.1)]) (fun x=>x.1≤ns.length) (fun x=>dp p b n x.2 (cg n l (ns.take x.1))) (fun x=>ns.length - x.1) (0,k) rfl ⟨rfl,trivial⟩ (Nat.zero_le _) (fun _ _ h=>h) ?_
 rintro ⟨i,k⟩ hi
 dsimp only at hi ⊢
 have hok:=hl.add (ns.take i)
 have hok1:=hok.len
 try dsimp only [Hs,Hr,Hq,Hl]
 repeat' (first|refine go ?_|refine HF a1 F8 ?_)
 refine ay rfl (fun h=>?_) (fun h=>?_)
 ·have hil:i < ns.length:=by have:=Hy h;simp [aN] at this;omega
  obtain ⟨z,hz⟩:∃z,ns[i]?=some z:=⟨_,Hz hil⟩
  have hzg:=bG hz
  have had:=r7 (n:=n) (l:=l) hz
  generalize cg n l (ns.take i)=l1 at *
  repeat' (first|refine go ?_|refine ak ?_|refine HF a1 F8 ?_|(apply aX;first|refine aU a1 ?_|refine aK a1 ?_)|fail)
  refine cN [0,5,6,7,8] (0≤z∧z < n∧z∉l1) rfl (fun Q' K=>?_) (fun hC=>?_) (fun hC=>?_)
  ·by_cases hin:0≤z∧z < n
   ·obtain ⟨hz0,hz1⟩:=hin
    have hfg:=nK l1 n hz0 hz1
    clear had hok hl
    repeat' (first|refine go ?_|refine HF a1 F8 ?_|refine HO F8 ?_|refine HS HB ?_|(apply bh;first|refine HJ a1 0 HC ?_|refine HJ a1 1 HC ?_|refine HJ a1 2 HC ?_|refine HJ a1 3 HC ?_|refine HK a1 0 HC ?_|refine HK a1 1 HC ?_|refine HK a1 2 HC ?_|refine HM a1 1 HA (by assumption) rfl ?_|refine HM a1 0 HA (by assumption) rfl ?_|fail)|(apply aX;first|refine aU a1 ?_|refine aK a1 ?_)|refine be rfl rfl rfl (fun _=>?_) (fun _=>?_))
    all_goals exact K _ _ rfl rfl (by simp_all)
   ·clear had hok hl
    repeat' (first|refine go ?_|refine HF a1 F8 ?_|refine HO F8 ?_|refine HS HB ?_|(apply bh;first|refine HJ a1 0 HC ?_|refine HJ a1 1 HC ?_|refine HJ a1 2 HC ?_|refine HJ a1 3 HC ?_|refine HK a1 0 HC ?_|refine HK a1 1 HC ?_|refine HK a1 2 HC ?_|refine HM a1 1 HA (by assumption) rfl ?_|refine HM a1 0 HA (by assumption) rfl ?_|fail)|refine be rfl rfl rfl (fun _=>?_) (fun _=>?_))
    all_goals first
     | (refine K _ _ rfl rfl ?_;exact ⟨fun e=>(by cases e),fun hh=>absurd (And.intro hh.1 hh.2.1) hin⟩)
     | (rename_i e1 e2;exact absurd ⟨Hy e1,Hy e2⟩ hin)
  ·obtain ⟨hz0,hz1,hz2⟩:=hC
   have had':cg n l (ns.take (i+1))=l1++[z]:=by rw [had];unfold addOne;rw [if_pos ⟨hz0,hz1,hz2⟩]
   repeat' (first|refine go ?_|refine HF a1 F8 ?_|(apply bh;first|refine HJ a1 0 HC ?_|refine HJ a1 1 HC ?_|refine HJ a1 2 HC ?_|refine HJ a1 3 HC ?_|refine HK a1 0 HC ?_|refine HK a1 1 HC ?_|refine HK a1 2 HC ?_|refine HM a1 1 HA (by assumption) rfl ?_|refine HM a1 0 HA (by assumption) rfl ?_|fail)|(apply aX;first|refine aU a1 ?_|refine aK a1 ?_)|fail)
   refine ah a1 1 rfl rfl rfl rfl rfl rfl (by rw [Nat.ble_eq,nL];show _+1≤n;omega) ?_
   rw [gh,ro l1 n hz0 hz1]
   repeat' (first|refine go ?_|refine HF a1 F8 ?_|(apply bh;first|refine HJ a1 0 HC ?_|refine HJ a1 1 HC ?_|refine HJ a1 2 HC ?_|refine HJ a1 3 HC ?_|refine HK a1 0 HC ?_|refine HK a1 1 HC ?_|refine HK a1 2 HC ?_|refine HM a1 1 HA (by assumption) rfl ?_|refine HM a1 0 HA (by assumption) rfl ?_|fail)|refine bI a1 ?_|fail)
   refine cj a1 [(p,.box [.sc (.slice (some ⟨b,0,none⟩) n n),.vec k 1 (aS l1)] 123),(b,.box (gk (l1++[z]) n) 4)] rfl rfl rfl rfl (List.perm_append_comm (l₁:=[(p,AB.box [.sc (.slice (some ⟨b,0,none⟩) n n),.vec k 1 (aS l1)] 123),(b,AB.box (gk (l1++[z]) n) 4)])) (by rw [aN];simp;omega) (by rw [aN];simp;omega) rfl fun k'=>?_
   refine aV (aJ List.perm_append_comm) ?_
   repeat' (first|refine go ?_|refine HF a1 F8 ?_|(apply aZ;refine aY ?_)|(apply aQ;first|refine HG a1 0 HD ?_|refine HG a1 1 HD ?_|refine HG a1 2 HD ?_|refine HG a1 3 HD ?_|fail))
   rw [show aS l1++[[aH z]]=aS (l1++[z]) from mM l1 [z],←had']
   refine aF (i+1,k') rfl ⟨by rw [Hv];rfl,trivial⟩ (by dsimp only;omega) (by dsimp only;omega) (fun _ _ h=>h)
  ·have had':cg n l (ns.take (i+1))=l1:=by rw [had];unfold addOne;rw [if_neg hC]
   repeat' (first|refine go ?_|refine HF a1 F8 ?_|(apply aZ;refine aY ?_)|fail)
   refine aF (i+1,k) rfl ⟨by rw [Hv];rfl,trivial⟩ (by dsimp only;omega) (by dsimp only;omega) (fun _ _ h=>by dsimp only;rw [had'];exact h)
 ·have hil:i=ns.length:=by have:=Hx h;simp [aN] at this;omega
  subst hil
  rw [List.take_length]
  repeat' (first|refine go ?_|fail)
  exact ce rfl ⟨k,rfl⟩
structure MF where
 u:AV
 gl:AV
 ch:AV
 lk:AV
 ft:AV
 ax:AV
 rg:AV
 fu:AV
 cv:AV
def FY (s:List Int) (F:MF) (m:MS):List AV:=[.imm 1 (aS s),aH (min m.a s.length:Nat),F.u,F.gl,F.ch,F.lk,F.ft,F.ax,F.rg,F.fu,F.cv,aH (m.lo.val:Nat)]
abbrev dS (b:Nat) (s:List Int) (F:MF) (m:MS):Nat×AB:=(b,.box (FY s F m) 145)
def qM (f:FuncId) (args:List AV) (s:List Int) (F:MF) {α:Type} (u:DM α) (out:α→AV):Prop:=∀(b:Nat) (m:MS),AC Tryz.prog f (fg b::args) [dS b s F m] fun c L=>c=out (u m).1∧L=[dS b s F (u m).2]
theorem xk {x n:Int} (hn:0 < n):(x.tmod n+n).tmod n=x % n:=by
 have h0:=Int.lt_tmod_of_pos x hn
 rw [Int.tmod_eq_emod_of_nonneg (by omega),Int.add_emod_right]
 have h2:(x.tmod n) % n=(x - n * x.tdiv n) % n:=by rw [Int.tmod_def]
 rw [h2,Int.sub_mul_emod_self_left]
set_option maxHeartbeats 1000000 in
theorem nY (s:List Int) (hs:s.length≤1000000) (F:MF) (n:Int) (hn:0 < n∧n≤1000000):qM 62 [aH n] s F (dr s n) aH:=by
 intro b m
 refine aT Tryz.func62 rfl Tryz.ntmps62 rfl fun B=>?_
 have hil:=aN s
 unfold dS
 repeat' (first|refine go ?_|refine HF a1 F8 ?_)
 refine bj 9 [(0,.v),(1,.v),(2,.v),(3,.l),(4,.v),(5,.v),(6,.v),(7,.l),(8,.v)] none ?_ trivial rfl (by kernel_rfl) (by kernel_rfl) (by kernel_rfl) mixed (by kernel_rfl) rfl
 repeat' (first|refine aE ?_|refine ba a1 ?_|refine bX a1 0 rfl rfl rfl rfl (by first|trivial|rfl) ?_)
 refine HR [0,1,9,14] F8 ?_
 repeat' (first|refine go ?_|refine a8 ?_|refine HF a1 F8 ?_)
 refine ay rfl (fun h=>?_) (fun h=>?_)
 ·have h1:s.length≤min m.a s.length:=by have:=Hy h;rw [hil] at this;omega
  repeat' (first|refine go ?_|refine HF a1 F8 ?_)
  refine HN F8 ⟨?_,?_⟩
  ·unfold dr s9
   rw [List.getElem?_eq_none (show s.length≤m.a by omega)]
  ·unfold dr FY
   rw [show min m.a s.length=min (m.a+1) s.length by omega]
 have h1:m.a < s.length:=by have:=Hx h;rw [hil] at this;omega
 have h2:min m.a s.length=m.a:=by omega
 obtain ⟨x,hx⟩:∃x,s[m.a]?=some x:=⟨_,Hz h1⟩
 have hxg:=bG hx
 unfold FY
 rw [h2]
 repeat' (first|refine go ?_|fail)
 refine bj 8 [(0,.v),(1,.v),(2,.v),(3,.l),(4,.v),(5,.v),(6,.v),(7,.l)] none ?_ trivial rfl (by kernel_rfl) (by kernel_rfl) (by kernel_rfl) mixed (by kernel_rfl) rfl
 repeat' (first|refine aE ?_|refine ba a1 ?_|refine bX a1 0 rfl rfl rfl rfl (by first|trivial|rfl) ?_)
 refine HR [0,1,19,23] F8 ?_
 repeat' (first|refine go ?_|refine a8 ?_|refine HF a1 F8 ?_|(apply bh;first|refine HJ a1 0 HC ?_|refine HJ a1 1 HC ?_|refine HJ a1 2 HC ?_|refine HJ a1 3 HC ?_|refine HK a1 0 HC ?_|refine HK a1 1 HC ?_|refine HK a1 2 HC ?_|refine HM a1 1 HA (by assumption) rfl ?_|refine HM a1 0 HA (by assumption) rfl ?_|fail)|(apply aZ;refine aY ?_)|(apply aX;first|refine aU a1 ?_|refine aK a1 ?_)|(apply aQ;first|refine HG a1 0 HD ?_|refine HG a1 1 HD ?_|refine HG a1 2 HD ?_|refine HG a1 3 HD ?_|fail))
 refine ub ?_
 repeat' (first|refine HF a1 F8 ?_)
 have hb:=Int.lt_tmod_of_pos x hn.1
 have hb2:=Int.tmod_lt_of_pos x hn.1
 refine aY ?_
 repeat' (first|refine HF a1 F8 ?_)
 refine ub ?_
 repeat' (first|refine go ?_|refine HF a1 F8 ?_)
 refine HN F8 ⟨?_,?_⟩
 ·unfold dr s9
  rw [hx,xk hn.1]
 ·unfold dr
  dsimp only
  rw [show min (m.a+1) s.length=m.a+1 by omega]
  rfl
section
variable {r:Option Nat} {ops:Array Oper} {Q:Exit→Act→World→Prop} {nt:Nat} {D:List Deferred} {fr:c6} {B:Bs} {rest:List Oper} {d:Nat} {ty:TypeId} {pos:String} {af:Array Edge} {s:List Int} {F:MF} {b:Nat} {m:MS} {Z:AL} {args:Array Operand} {ts:Array TypeId}
theorem ua {f:FuncId} [bK Tryz.prog f] {α:Type} {u:DM α} {out:α→AV} {az ds:List AV} (hc:qM f az s F u out) (h:bO Tryz.prog r ops Q nt D rest ((d,out (u m).1)::fr) B (dS b s F (u m).2::Z)) (hv:ep fr args.toList=some ds:=by rfl) (hi:kT ds=some (fg b::az):=by rfl) (hd:Nat.ble nt d=false:=by rfl):bO Tryz.prog r ops Q nt D (⟨some d,.call ⟨.value (.func f),args,ts⟩,ty,pos,af,none⟩::rest) fr B (dS b s F m::Z):=
 bb [dS b s F m] Z (hc b m) hv hi (Ho _) hd fun c L1 ⟨h1,h2⟩=>by subst h1;subst h2;exact h
theorem cD {n:Int} (h:bO Tryz.prog r ops Q nt D rest ((d,aH (dr s n m).1)::fr) B (dS b s F (dr s n m).2::Z)) (hv:ep fr args.toList=some [fg b,aH n]:=by rfl) (hs:s.length≤1000000:=by assumption) (hn:0 < n∧n≤1000000:=by omega) (hd:Nat.ble nt d=false:=by rfl):bO Tryz.prog r ops Q nt D (⟨some d,.call ⟨.value (.func 62),args,ts⟩,ty,pos,af,none⟩::rest) fr B (dS b s F m::Z):=
 ua (nY s hs F n hn) h hv rfl hd
end
section
variable {l:List Oper} {fr:c6} {fin:iq} {sk:ky} {acc:c6} {k:Nat} {dd:Option Tmp} {ty:TypeId} {pos:String} {af:Array Edge} {g:Option (Nat×Bool)} {s:List Int} {F:MF} {b:Nat} {m:MS} {Z:AL} {args:Array Operand} {ts:Array TypeId}
theorem c5 {L:AL}:fc [] L:=fun q hq=>by cases hq
theorem bN {q:Nat×Nat×AV} {gs:KpL} {L:AL} (i:Nat) {cs:List AV} {e:TypeId} (hL:L[i]?=some (q.1,.box cs e)) (hc:cs[q.2.1]?=some q.2.2) (h:fc gs L):fc (.cell q::gs) L:=fun p hp=>by
 rcases List.mem_cons.1 hp with rfl | hp
 ·exact show ∃cs e,(q.1,AB.box cs e)∈L∧cs[q.2.1]?=some q.2.2 from ⟨cs,e,Hw hL,hc⟩
 ·exact h p hp
theorem Gu {f:FuncId} [bK Tryz.prog f] {α:Type} {u:DM α} {out:α→AV} {az ds:List AV} (hc:qM f az s F u out) (h:DA Tryz.prog l fr fin sk ((k,out (u m).1)::acc) (dS b s F (u m).2::Z)) (hv:ep (cB l.toArray acc fr af.toList) args.toList=some ds:=by rfl) (hi:kT ds=some (fg b::az):=by rfl) (hg:iL ⟨dd,.call ⟨.value (.func f),args,ts⟩,ty,pos,af,g⟩ acc:=by first | trivial | rfl):cT Tryz.prog l fr fin k .e ⟨dd,.call ⟨.value (.func f),args,ts⟩,ty,pos,af,g⟩ sk acc (dS b s F m::Z):=
 fj [dS b s F m] Z (hc b m) hv hi (Ho _) hg fun c L1 ⟨h1,h2⟩=>by subst h1;subst h2;exact h
theorem re {f:FuncId} [bK Tryz.prog f] {α:Type} {u:DM α} {out:α→AV} {az ds:List AV} (hc:qM f az s F u out) (hK:fc fin.gs (dS b s F (u m).2::Z)) (h:DA Tryz.prog l fr fin sk ((k,out (u m).1)::acc) (dS b s F (u m).2::Z)) (hv:ep (cB l.toArray acc fr af.toList) args.toList=some ds:=by rfl) (hi:kT ds=some (fg b::az):=by rfl) (hg:iL ⟨dd,.call ⟨.value (.func f),args,ts⟩,ty,pos,af,g⟩ acc:=by first | trivial | rfl):cT Tryz.prog l fr fin k .f ⟨dd,.call ⟨.value (.func f),args,ts⟩,ty,pos,af,g⟩ sk acc (dS b s F m::Z):=
 Cw [dS b s F m] Z (hc b m) hv hi (Ho _) hg (fun c L1 ⟨_,h2⟩ _=>by subst h2;exact hK) fun c L1 ⟨h1,h2⟩=>by subst h1;subst h2;exact h
theorem s8 {n:Int} (h:DA Tryz.prog l fr fin sk ((k,aH (dr s n m).1)::acc) (dS b s F (dr s n m).2::Z)) (hv:ep (cB l.toArray acc fr af.toList) args.toList=some [fg b,aH n]:=by rfl) (hs:s.length≤1000000:=by assumption) (hn:0 < n∧n≤1000000:=by omega) (hg:iL ⟨dd,.call ⟨.value (.func 62),args,ts⟩,ty,pos,af,g⟩ acc:=by first | trivial | rfl):cT Tryz.prog l fr fin k .e ⟨dd,.call ⟨.value (.func 62),args,ts⟩,ty,pos,af,g⟩ sk acc (dS b s F m::Z):=
 Gu (nY s hs F n hn) h hv rfl hg
theorem eC {n:Int} (hK:fc fin.gs (dS b s F (dr s n m).2::Z)) (h:DA Tryz.prog l fr fin sk ((k,aH (dr s n m).1)::acc) (dS b s F (dr s n m).2::Z)) (hv:ep (cB l.toArray acc fr af.toList) args.toList=some [fg b,aH n]:=by rfl) (hs:s.length≤1000000:=by assumption) (hn:0 < n∧n≤1000000:=by omega) (hg:iL ⟨dd,.call ⟨.value (.func 62),args,ts⟩,ty,pos,af,g⟩ acc:=by first | trivial | rfl):cT Tryz.prog l fr fin k .f ⟨dd,.call ⟨.value (.func 62),args,ts⟩,ty,pos,af,g⟩ sk acc (dS b s F m::Z):=
 re (nY s hs F n hn) hK h hv rfl hg
end
end Go.Proofs.YtpbinloeemebkaaGreat
namespace Go.Proofs.YtpbinloeemebkaaGreat
open Go.RowKit
attribute [local irreducible] AT bO AX AO Av Kt bo dU DA cT
variable (s:List Int) (hs:s.length≤1000000) (F:MF)
include hs
theorem cn (a:Nat) {n:Int} (hn:0 < n):0≤s9 s a n∧s9 s a n < n:=by
 have _:=hs
 clear hs
 unfold s9
 split
 ·rename_i x _
  exact ⟨Int.emod_nonneg x (by omega),Int.emod_lt_of_pos x hn⟩
 ·omega
def G1 (o:List eB×List Int):AV:= .agg [.imm 3 (o.1.map dA),.imm 1 (aS o.2)]
def ji (l:List fT):AV:= .imm 2 (l.map eU)
set_option maxHeartbeats 8000000 in
theorem wd (n fn:Int) (hn:0≤n∧n≤10000) (hf:fn≤10000):qM 121 [aH n,aH fn] s F (cG s n fn) ji:=by
 intro b m
 refine aT Tryz.func121 rfl Tryz.ntmps121 rfl fun B=>?_
 repeat' (first|refine go ?_|refine HF a1 F8 ?_|(apply aZ;refine aY ?_)|fail)
 refine cD ?_
 repeat' (first|refine go ?_|refine HF a1 F8 ?_|(apply aZ;refine aY ?_)|fail)
 refine cD ?_
 repeat' (first|refine go ?_|refine HF a1 F8 ?_)
 refine cD ?_
 repeat' (first|refine go ?_|refine HF a1 F8 ?_)
 refine cD ?_
 generalize e1:dr s (n+1) m=p1
 generalize e2:dr s (n+1) p1.2=p2
 generalize e3:dr s 2 p2.2=p3
 have hk:=cn s hs p3.2.a (n:=12) (by omega)
 have hk:0≤(dr s 12 p3.2).1∧(dr s 12 p3.2).1 < 12:=hk
 generalize e4:dr s 12 p3.2=p4 at hk ⊢
 repeat' (first|refine go ?_|refine ak ?_|refine HF a1 F8 ?_)
 refine ay rfl (fun h=>?_) (fun h=>?_)
 ·have h:=Hy h
  repeat' (first|refine go ?_|refine HF a1 F8 ?_|refine bI a1 ?_|fail)
  exact HN F8 ⟨by simp [cG,c7,cC,e1,e2,e3,e4,ji,eU,h],by simp [cG,c7,cC,e1,e2,e3,e4,h]⟩
 have h0:=Hx h
 clear h
 repeat' (first|refine go ?_|refine HF a1 F8 ?_)
 refine ay rfl (fun h=>?_) (fun h=>?_)
 ·have h:=Hy h
  repeat' (first|refine go ?_|refine HF a1 F8 ?_)
  refine cD ?_
  repeat' (first|refine go ?_|refine HF a1 F8 ?_|refine bI a1 ?_|fail)
  exact HN F8 ⟨by simp [cG,c7,cC,e1,e2,e3,e4,ji,eU,h],by simp [cG,c7,cC,e1,e2,e3,e4,h]⟩
 have h1:=Hx h
 clear h
 repeat' (first|refine go ?_|refine HF a1 F8 ?_)
 refine ay rfl (fun h=>?_) (fun h=>?_)
 ·have h:=Hy h
  rw [decide_eq_true h]
  repeat' (first|refine go ?_|refine HF a1 F8 ?_|refine bI a1 ?_|refine bR rfl ?_)
  exact HN F8 ⟨by simp [cG,c7,cC,e1,e2,e3,e4,ji,eU,h],by simp [cG,c7,cC,e1,e2,e3,e4,h]⟩
 have h2:=Hx h
 clear h
 repeat' (first|refine go ?_|refine HF a1 F8 ?_)
 refine ay rfl (fun h=>?_) (fun h=>?_)
 ·have h:=Hy h
  repeat' (first|refine go ?_|refine HF a1 F8 ?_|refine bI a1 ?_|fail)
  exact HN F8 ⟨by simp [cG,c7,cC,e1,e2,e3,e4,ji,eU,h],by simp [cG,c7,cC,e1,e2,e3,e4,h]⟩
 have h3:=Hx h
 clear h
 repeat' (first|refine go ?_|refine HF a1 F8 ?_)
 refine ay rfl (fun h=>?_) (fun h=>?_)
 ·have h:=Hy h
  repeat' (first|refine go ?_|refine HF a1 F8 ?_)
  refine cD ?_
  have hz:=cn s hs p4.2.a (n:=200) (by omega)
  have hz:0≤(dr s 200 p4.2).1∧(dr s 200 p4.2).1 < 200:=hz
  repeat' (first|refine go ?_|refine HF a1 F8 ?_|(apply aZ;refine aY ?_)|refine bI a1 ?_|fail)
  exact HN F8 ⟨by simp [cG,c7,cC,e1,e2,e3,e4,ji,eU,h],by simp [cG,c7,cC,e1,e2,e3,e4,h]⟩
 have h4:=Hx h
 clear h
 repeat' (first|refine go ?_|refine HF a1 F8 ?_)
 refine ay rfl (fun h=>?_) (fun h=>?_)
 ·have h:=Hy h
  repeat' (first|refine go ?_|refine HF a1 F8 ?_|refine bI a1 ?_|fail)
  exact HN F8 ⟨by simp [cG,c7,cC,e1,e2,e3,e4,ji,eU,h],by simp [cG,c7,cC,e1,e2,e3,e4,h]⟩
 have h5:=Hx h
 clear h
 repeat' (first|refine go ?_|refine HF a1 F8 ?_)
 refine ay rfl (fun h=>?_) (fun h=>?_)
 ·have h:=Hy h
  repeat' (first|refine go ?_|refine HF a1 F8 ?_|refine bI a1 ?_|fail)
  exact HN F8 ⟨by simp [cG,c7,cC,e1,e2,e3,e4,ji,eU,h],by simp [cG,c7,cC,e1,e2,e3,e4,h]⟩
 have h6:=Hx h
 clear h
 repeat' (first|refine go ?_|refine HF a1 F8 ?_)
 refine ay rfl (fun h=>?_) (fun h=>?_)
 ·have h:=Hy h
  repeat' (first|refine go ?_|refine HF a1 F8 ?_|refine bI a1 ?_|fail)
  exact HN F8 ⟨by simp [cG,c7,cC,e1,e2,e3,e4,ji,eU,h],by simp [cG,c7,cC,e1,e2,e3,e4,h]⟩
 have h7:=Hx h
 clear h
 repeat' (first|refine go ?_|refine HF a1 F8 ?_)
 refine ay rfl (fun h=>?_) (fun h=>?_)
 ·have h:=Hy h
  repeat' (first|refine go ?_|refine HF a1 F8 ?_)
  refine ay rfl (fun hf0=>?_) (fun hf0=>?_)
  ·have hf0:=Hy hf0
   repeat' (first|refine go ?_|refine HF a1 F8 ?_)
   refine cD ?_
   repeat' (first|refine go ?_|refine HF a1 F8 ?_|refine bI a1 ?_|fail)
   exact HN F8 ⟨by simp [cG,c7,cC,e1,e2,e3,e4,ji,eU,h,hf0],by simp [cG,c7,cC,e1,e2,e3,e4,h,hf0]⟩
  ·have hf0:=Hx hf0
   repeat' (first|refine go ?_|refine HF a1 F8 ?_|refine bI a1 ?_|fail)
   exact HN F8 ⟨by simp [cG,c7,cC,e1,e2,e3,e4,ji,eU,gB,h,hf0],by simp [cG,c7,cC,e1,e2,e3,e4,gB,h,hf0]⟩
 have h8:=Hx h
 clear h
 repeat' (first|refine go ?_|refine HF a1 F8 ?_)
 refine ay rfl (fun h=>?_) (fun h=>?_)
 ·have h:=Hy h
  by_cases hf0:0 < fn
  ·repeat' (first|refine go ?_|refine HF a1 F8 ?_)
   rw [decide_eq_true hf0]
   repeat' (first|refine go ?_|refine HF a1 F8 ?_|refine HO F8 ?_|(apply bh;first|refine HJ a1 0 HC ?_|refine HJ a1 1 HC ?_|refine HJ a1 2 HC ?_|refine HJ a1 3 HC ?_|refine HK a1 0 HC ?_|refine HK a1 1 HC ?_|refine HK a1 2 HC ?_|refine HM a1 1 HA (by assumption) rfl ?_|refine HM a1 0 HA (by assumption) rfl ?_|fail)|fail)
   refine ay rfl (fun hl=>?_) (fun hl=>?_)
   ·have hl:=Hy hl
    repeat' (first|refine go ?_|refine HF a1 F8 ?_|(apply bh;first|refine HJ a1 0 HC ?_|refine HJ a1 1 HC ?_|refine HJ a1 2 HC ?_|refine HJ a1 3 HC ?_|refine HK a1 0 HC ?_|refine HK a1 1 HC ?_|refine HK a1 2 HC ?_|refine HM a1 1 HA (by assumption) rfl ?_|refine HM a1 0 HA (by assumption) rfl ?_|fail)|(apply aZ;refine aY ?_)|(apply aQ;first|refine HG a1 0 HD ?_|refine HG a1 1 HD ?_|refine HG a1 2 HD ?_|refine HG a1 3 HD ?_|fail))
    have hlt:=p4.2.lo.isLt
    have hlz:0 < p4.2.lo.val:=by omega
    have hcell:((p4.2.lo.val:Nat):Int) - 1=((p4.2.lo.val - 1:Nat):Int):=by omega
    rw [hcell]
    change bO _ _ _ _ _ _ _ _ _ [dS b s F (FQ p4.2).2]
    repeat' (first|fail)
    refine cD ?_
    repeat' (first|refine HF a1 F8 ?_)
    refine cD ?_
    repeat' (first|refine go ?_|refine HF a1 F8 ?_|refine bI a1 ?_|fail)
    exact HN F8 ⟨by simp [cG,c7,cC,e1,e2,e3,e4,ji,eU,h,hf0,pT,hlz],by simp [cG,c7,cC,e1,e2,e3,e4,h,hf0,pT,hlz]⟩
   ·have hl:=Hx hl
    have hl0:p4.2.lo.val=0:=by omega
    repeat' (first|refine go ?_|refine HF a1 F8 ?_|refine bI a1 ?_|fail)
    exact HN F8 ⟨by simp [cG,c7,cC,e1,e2,e3,e4,ji,eU,gB,h,hf0,pT,hl0],by simp [cG,c7,cC,e1,e2,e3,e4,gB,h,hf0,pT,hl0]⟩
  ·repeat' (first|refine go ?_|refine HF a1 F8 ?_)
   rw [decide_eq_false hf0]
   repeat' (first|refine go ?_|refine HF a1 F8 ?_|refine HS HB ?_|refine bI a1 ?_|refine bL rfl ?_)
   exact HN F8 ⟨by simp [cG,c7,cC,e1,e2,e3,e4,ji,eU,gB,h,hf0],by simp [cG,c7,cC,e1,e2,e3,e4,gB,h,hf0]⟩
 have h9:=Hx h
 clear h
 repeat' (first|refine go ?_|refine HF a1 F8 ?_)
 refine ay rfl (fun h=>?_) (fun h=>?_)
 ·have h:=Hy h
  repeat' (first|refine go ?_|refine HF a1 F8 ?_|refine bI a1 ?_|fail)
  exact HN F8 ⟨by simp [cG,c7,cC,e1,e2,e3,e4,ji,eU,h],by simp [cG,c7,cC,e1,e2,e3,e4,h]⟩
 have h10:=Hx h
 clear h
 repeat' (first|refine go ?_|refine HF a1 F8 ?_|refine bI a1 ?_|fail)
 exact HN F8 ⟨by simp [cG,c7,cC,e1,e2,e3,e4,ji,eU,gB,h0,h1,h2,h3,h4,h5,h6,h7,h8,h9,h10],by simp [cG,c7,cC,e1,e2,e3,e4,gB,h0,h1,h2,h3,h4,h5,h6,h7,h8,h9,h10]⟩
end Go.Proofs.YtpbinloeemebkaaGreat
