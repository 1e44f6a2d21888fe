/-
  Cuts, makes, calls; what was written is not written any more.
-/
import Derived.Test.YtamjlkdanllgjaaGreatDoorM02
namespace Go.Proofs.YtamjlkdanllgjaaGreatDoor
open Go.RowKit
theorem VR.cut {σ:bW} {sz n cap lo hi m:Nat} {l:List (List AV)} {A:Option Addr} (h:VR σ (.imm sz l) (.slice A n cap)) (h1:lo≤hi) (h2:hi≤n) (h3:hi≤m) (h4:m≤cap):VR σ (.imm sz ((l.drop lo).take (hi - lo))) (.slice (if m=lo then A else A.map (·.add (lo * sz))) (hi - lo) (m - lo)):=by
 obtain ⟨A',cap',he,hc,hm,hs,ha,hx,hy⟩:=h.imm_inv
 cases he
 have hlen:((l.drop lo).take (hi - lo)).length=hi - lo:=by rw [List.length_take,List.length_drop];omega
 have key:VR σ (.imm sz ((l.drop lo).take (hi - lo))) (.slice (if m=lo then A else A.map (·.add (lo * sz))) ((l.drop lo).take (hi - lo)).length (m - lo)):=by
  have hAA:∀b' off',(if m=lo then A else A.map (·.add (lo * sz)))=some ⟨b',off',none⟩→lo < hi→∃off,A=some ⟨b',off,none⟩∧off'=off+lo * sz:=by
   intro b' off' hA hlt
   rw [if_neg (by omega)] at hA
   obtain ⟨b,off,rfl⟩:=ha (by intro e;subst e;simp at h2;omega)
   simp only [Option.map_some,da,Option.some.injEq,Addr.mk.injEq] at hA
   exact ⟨off,by rw [hA.1],hA.2.1.symm⟩
  refine .imm sz _ _ (m - lo) (by rw [hlen];omega) (by omega) (fun e he=>hs e (List.mem_of_mem_drop (List.mem_of_mem_take he))) (fun hne=>?_) (fun i b off j hA hi' hj=>?_) fun i e b off j c u he hA hj hu=>?_
  ·have:0 < hi - lo:=by rw [←hlen];exact List.length_pos_iff.2 hne
   obtain ⟨b,off,rfl⟩:=ha (by intro e;subst e;simp at h2;omega)
   rw [if_neg (by omega)]
   exact ⟨b,off+lo * sz,by simp [da]⟩
  ·rw [hlen] at hi'
   obtain ⟨off0,rfl,rfl⟩:=hAA b off hA (by omega)
   have:=hx (lo+i) b off0 j rfl (by omega) hj
   rwa [show off0+(lo+i) * sz+j=off0+lo * sz+i * sz+j by rw [Nat.add_mul];omega] at this
  ·have hi':i < hi - lo:=by rw [←hlen];exact (Mq he).1
   obtain ⟨off0,rfl,rfl⟩:=hAA b off hA (by omega)
   rw [List.getElem?_take,if_pos hi',List.getElem?_drop] at he
   refine hy (lo+i) e b off0 j c u he rfl hj ?_
   rwa [show off0+(lo+i) * sz+j=off0+lo * sz+i * sz+j by rw [Nat.add_mul];omega]
 rwa [hlen] at key
section
variable {P:Program} {fr:bP} {B:Bs} {L:AL} {d:Option Tmp} {ty t t':TypeId} {pos:String} {af:Array Edge} {g:Option (Nat×Bool)} {x y z q:Operand} {u:AV}
theorem oT {s:ByteArray} {k:IntKind} {i:Int} {c:UInt8} (h:Du P t) (hx:bc fr x=some (.sc (.string s))) (hy:bc fr y=some (.sc (.int k i))) (h0:0≤i) (hu:s[i.toNat]?=some c):Av P ⟨d,.index t x y,ty,pos,af,g⟩ fr (.sc (.int .u8 c.toNat)):=
 dX fun ρ w hρ=>by
  simp [execOp,hρ _ _ hx,hρ _ _ hy,Instr.index,asIntOf,run_underlying h.under,h0,hu]
theorem tq {b off n cap e sz by_:Nat} {k:IntKind} {i:Int} (h:jE P t e sz by_) (hx:bc fr x=some (.sc (.slice (some ⟨b,off,none⟩) n cap))) (hy:bc fr y=some (.sc (.int k i))) (h0:0≤i∧i < n):Av P ⟨d,.indexAddr t x y,ty,pos,af,g⟩ fr (.sc (.pointer (some ⟨b,off+i.toNat * sz,none⟩))):=
 dX fun ρ w hρ=>by
  haveI:=h
  simp [execOp,hρ _ _ hx,hρ _ _ hy,Instr.indexAt,asIntOf,run_underlying h.under,h0.1,h0.2,cH (t:=t),da]
theorem nz {e sz by_ n c:Nat} {k k':IntKind} {z:List Value} (hc:jE P t e sz by_) (hz:CZ P e z) (hsz:0 < sz) (hby:by_ * c≤281474976710656) (h63:c≤9223372036854775807) (hn:n≤c) (w:World) (ρ:Operand→Value) (hx:ρ x= .int k (n:Int)) (hy:ρ y= .int k' (c:Int)):
  (execOp ρ ⟨d,.makeSlice t x y,ty,pos,af,g⟩).run P w= .ok (.value (.slice (some ⟨w.heap.size,0,none⟩) n c)) (w.alloc (.cells ((List.replicate c z).flatten).toArray e)):=by
 obtain ⟨i,zv,hi,hs1,hs2,hzv,hzs⟩:=hc.info
 obtain ⟨zv',hz1,hz2⟩:=hz.run
 have hzz:zv=zv':=by
  have:=hz2 w
  simp [zeroValue,typeInfo,hi,hzv] at this
  exact this
 subst hzz
 have hb:(i.bytes:Int) * (c:Int)≤281474976710656:=by
  rw [hs2]
  have h:((by_ * c:Nat):Int)≤281474976710656:=by omega
  rwa [Int.natCast_mul] at h
 have hr:=run_make (P:=P) w t e i zv hc.under hi hzv k k' n c (by omega) (by omega) hb (by omega)
 simp only [Int.toNat_natCast] at hr
 have:=pL zv.cells c (by omega)
 rw [hzs] at this
 have hl:zv.cells.toList=z:=by rw [hz1]
 rw [hl] at this
 have e1:madeCells zv.cells (c * i.size)=((List.replicate c z).flatten).toArray:=by rw [hs1,←this]
 rw [e1] at hr
 simp [execOp,hx,hy,hr]
theorem x1 {e sz by_ n:Nat} {k k':IntKind} {a b:Int} {z:List Value} (hc:jE P t e sz by_) (hz:CZ P e z) (h1:z.all (·.oneCell')=true) (hsz:0 < sz) (hx:bc fr x=some (.sc (.int k a))) (hy:bc fr y=some (.sc (.int k' b))) (ha:a=(n:Int)) (hb:b=(n:Int)) (hby:by_ * n≤281474976710656) (h63:n≤9223372036854775807):
  AO P ⟨d,.makeSlice t x y,ty,pos,af,g⟩ fr B L (fun c L'=>∃b,c= .sc (.slice (some ⟨b,0,none⟩) n n)∧L'=(b,.box ((List.replicate n (z.map .sc)).flatten) e)::L):=by
 intro σ ρ w hρ hw
 subst ha hb
 have hr:=nz (d:=d) (ty:=ty) (pos:=pos) (af:=af) (g:=g) hc hz hsz hby h63 (Nat.le_refl n) w ρ (hρ x _ hx).sc_inv (hρ y _ hy).sc_inv
 unfold gn
 rw [hr]
 have hfl:∀m,(List.replicate m (z.map AV.sc)).flatten=((List.replicate m z).flatten).map AV.sc:=by
  intro m
  induction m with
  | zero=>rfl
  | succ m ih=>rw [List.replicate_succ,List.replicate_succ,List.flatten_cons,List.flatten_cons,List.map_append,ih]
 refine ⟨σ,_,_,bW.le_refl _,.sc _,hw.alloc _ (.box ((List.replicate n (z.map .sc)).flatten) e) ⟨_,rfl,?_,fun u hu=>?_⟩,_,rfl,rfl⟩
 ·rw [hfl]
  refine ⟨by simp,fun i c u hc hu=>?_⟩
  rw [List.getElem?_map,hu] at hc
  simp at hc
  subst hc
  exact .sc u
 ·obtain ⟨q,hq,hu⟩:=List.mem_flatten.1 hu
  rw [List.eq_of_mem_replicate hq] at hu
  exact List.all_eq_true.1 h1 u hu
theorem As {e sz by_ n:Nat} {k k':IntKind} {b:Int} {z:List Value} (hc:jE P t e sz by_) (hz:CZ P e z) (hzl:z.length=sz) (hsz:0 < sz) (hx:bc fr x=some (.sc (.int k 0))) (hy:bc fr y=some (.sc (.int k' b))) (hb:b=(n:Int)) (hby:by_ * n≤281474976710656) (h63:n≤9223372036854775807):
  AO P ⟨d,.makeSlice t x y,ty,pos,af,g⟩ fr B L (fun c L'=>∃b,c= .vec (some (b,n)) sz []∧L'=(b,.vec e sz 0 n)::L):=by
 intro σ ρ w hρ hw
 subst hb
 have hr:=nz (n:=0) (d:=d) (ty:=ty) (pos:=pos) (af:=af) (g:=g) hc hz hsz hby h63 (Nat.zero_le n) w ρ (hρ x _ hx).sc_inv (hρ y _ hy).sc_inv
 unfold gn
 rw [hr]
 refine ⟨σ,_,_,bW.le_refl _,?_,hw.alloc _ (.vec e sz 0 n) ⟨_,rfl,by simp [hzl],Nat.zero_le _,by unfold maxLen;omega⟩,_,rfl,rfl⟩
 exact km (l:=[]) (xs:=[]) (by simp) cR.nil (by simp) (Nat.zero_le _) (by unfold maxLen;omega) (by simp)
theorem CN {f:FuncId} {args:Array Operand} {ts:Array TypeId} (hf:bC P f) (ρ:Operand→Value) (hρ:ρ (.func f)= .func (.func f) #[] #[]) (w:World):(execOp ρ ⟨d,.call ⟨.value (.func f),args,ts⟩,ty,pos,af,g⟩).run P w= .ok (.enter f (args.map ρ)) w:=by
 simp [execOp,resolve,hρ,Deferred.ofValue,invoke,hf.enters]
theorem oE (Lc Lf:AL) {f:FuncId} {args:Array Operand} {ts:Array TypeId} {cs cs':List AV} {Post:AV→AL→Prop} [hf:bC P f] (hv:eM fr args.toList=some cs) (hcs:∀σ vs,cR σ cs vs→cR σ cs' vs) (hL:L.Perm (Lc++Lf)) (h:AC P f cs' Lc Post):
  AO P ⟨d,.call ⟨.value (.func f),args,ts⟩,ty,pos,af,g⟩ fr B L (fun c L'=>∃L1,Post c L1∧L'=L1++Lf):=by
 intro σ ρ w hρ hw0
 have hw:=hw0.perm hL
 unfold gn
 rw [CN hf ρ (hρ _ _ rfl).sc_inv]
 have e:args.map ρ=(args.toList.map ρ).toArray:=by apply Array.toList_inj.1;simp
 simp only [e]
 refine (h σ w _ (hcs _ _ (eN hρ _ _ hv)) hw.enter).mono fun en w' ⟨v,τ,c,L',h1,h2,h3,h4⟩=>⟨v,h1,τ,c,L'++Lf,h3.grow,h2,hw.leave h3,L',h4,rfl⟩
theorem Ap {f:FuncId} {args:Array Operand} {ts:Array TypeId} {cs:List AV} [hf:bC P f] (hv:eM fr args.toList=some cs) (h:bD P f (cs.map AV.im) u):
  AO P ⟨d,.call ⟨.value (.func f),args,ts⟩,ty,pos,af,g⟩ fr B L (fun c L'=>c=u∧L'=L):=by
 intro σ ρ w hρ hw
 refine (oE [] L hv (fun σ vs h=>h.im) (Mp _) h σ ρ w hρ hw).mono fun v w' ⟨τ,c,L',h1,h2,h3,L1,h4,h5⟩=>⟨τ,c,L,h1,h2,?_,h4,rfl⟩
 subst h5
 exact h3.sublist (List.sublist_append_right ..)
end
section
variable {P:Program} {r:Option Nat} {ops:Array Oper} {Q:Exit→Act→World→Prop} {nt:Nat} {D:List Deferred} {fr fr':bP} {B:Bs} {L L':AL} {rest:List Oper} {cd:Code}
def lb (nt:Nat) (D:List Deferred) (B:Bs) (fr:bP) (L:AL) (fr':bP) (L':AL):Prop:=∀σ a w,i6 σ nt D fr a→cK B σ L w→∃τ,i6 τ nt D fr' a∧cK B τ L' w
theorem bq (h:lb nt D B fr L fr' L') (k:bz P r ops Q nt D rest fr' B L'):bz P r ops Q nt D rest fr B L:=fun σ a w ha hw=>by
 obtain ⟨τ,h1,h2⟩:=h σ a w ha hw
 exact k τ a w h1 h2
theorem cm (h:lb nt D B fr L fr' L') (k:AT P r cd Q nt D fr' B L'):AT P r cd Q nt D fr B L:=fun σ a w ha hw=>by
 obtain ⟨τ,h1,h2⟩:=h σ a w ha hw
 exact k τ a w h1 h2
theorem br {e:Exit} (h:lb nt D B fr L fr' L') (k:AX P e Q nt D fr' B L'):AX P e Q nt D fr B L:=fun σ a w ha hw=>by
 obtain ⟨τ,h1,h2⟩:=h σ a w ha hw
 exact k τ a w h1 h2
theorem bE {t:Nat} {c c':AV} (hl:bX fr t=some c) (h:∀σ v,VR σ c v→VR σ c' v):lb nt D B fr L ((t,c')::fr) L:=fun σ a w ha hw=>⟨σ,⟨ha.size,ha.defers,fun t' v' hl'=>by
  rw [ca] at hl'
  by_cases e:t=t'
  ·subst e;simp only [if_true,Option.some.injEq] at hl';subst hl';exact h _ _ (ha.look t c hl)
  ·rw [if_neg e] at hl';exact ha.look t' v' hl'⟩,hw⟩
theorem eh {σ:bW} {v:Value} (sz:Nat) (h:VR σ (.sc (.slice none 0 0)) v):VR σ (.vec none sz []) v:=by
 rw [h.sc_inv];exact .vecN sz
theorem dW {σ:bW} {v:Value} (sz:Nat) (h:VR σ (.sc (.slice none 0 0)) v):VR σ (.imm sz []) v:=(eh sz h).im
theorem Dh {t b e sz n:Nat} {cs:List AV} {l:List (List AV)} (i:Nat) (hl:bX fr t=some (.sc (.slice (some ⟨b,0,none⟩) n n))) (hL:L[i]?=some (b,.box cs e)) (hc:cs=l.flatten) (hs:∀q∈l,q.length=sz) (hn:l.length=n) (h63:n≤9223372036854775807):lb nt D B fr L ((t,.vec (some (b,n)) sz l)::fr) ((b,.vec e sz n n)::L.eraseIdx i):=by
 intro σ a w ha hw0
 have hw:=hw0.perm (eS hL)
 obtain ⟨o,ho,vs,rfl,hvs,h1⟩:=hw.here _ (List.mem_cons_self ..)
 have hfree:=hw.free _ (List.mem_cons_self ..)
 have hvl:vs.length=n * sz:=by rw [←hvs.1,hc,eO l hs,hn]
 have hst:cK B σ ((b,.vec e sz 0 n)::L.eraseIdx i) w:=by
  refine ⟨hw.os,hw.tape,hw.output,hw.size,hw.old,fun p hp=>?_,fun p hp=>?_,by simpa using hw.apart,hw.froz,fun p hp off hm=>?_,hw.grow,hw.same⟩
  ·rcases List.mem_cons.1 hp with rfl | hp'
   ·exact ⟨_,ho,_,rfl,by simp [hvl],Nat.zero_le _,by unfold maxLen;omega⟩
   ·exact hw.here p (Mu _ hp')
  ·rcases List.mem_cons.1 hp with rfl | hp'
   ·exact hw.mine (b,.box cs e) (List.mem_cons_self ..)
   ·exact hw.mine p (Mu _ hp')
  ·rcases List.mem_cons.1 hp with rfl | hp'
   ·exact hfree off trivial
   ·exact hw.free p (Mu _ hp') off hm
 obtain ⟨hst',hle⟩:=hst.freezeHead (n':=n) (xs:=vs) (fun j u hj=>by rw [cI ho];simpa using hj) hvl (Nat.zero_le _) (Nat.le_refl _)
 refine ⟨_,?_,hst'⟩
 have hv:VR (σ.add b vs) (.vec (some (b,n)) sz l) (.slice (some ⟨b,0,none⟩) n n):=by
  have:=km (σ:=σ.add b vs) (b:=b) (cap:=n) hs (by rw [←hc];exact hvs.mono hle) h1 (by omega) (by unfold maxLen;omega) (fun j u hj=>bW.add_at hj)
  rwa [hn] at this
 have ha':=ha.mono hle
 refine ⟨ha'.size,ha'.defers,fun t' v' hl'=>?_⟩
 rw [ca] at hl'
 by_cases e:t=t'
 ·subst e
  simp only [if_true,Option.some.injEq] at hl'
  subst hl'
  rw [(ha.look t _ hl).sc_inv]
  exact hv
 ·rw [if_neg e] at hl'
  exact ha'.look t' v' hl'
end
end Go.Proofs.YtamjlkdanllgjaaGreatDoor
namespace Go.Proofs.YtamjlkdanllgjaaGreatDoor
open Go.RowKit
inductive Ak where
 | v | l | k | e | f | a
def Ak.isF:Ak→Bool | .e=>true | .a=>true | .f=>true | _=>false
inductive JS where
 | cell (q:Nat×Nat×AV)
 | blk (b:Nat) (x:AB)
abbrev KpL:=List JS
def JS.ok:JS→AL→Prop
 | .cell q,L=>∃cs e,(q.1,AB.box cs e)∈L∧cs[q.2.1]?=some q.2.2
 | .blk b x,L=>(b,x)∈L
structure jz where
 fin:bP→AL→Prop
 gs:KpL:=[]
def fU (gs:KpL) (L:AL):Prop:=∀q∈gs,q.ok L
theorem BM {gs:KpL} {L:AL} (h:fU gs L) (X:AL):fU gs (X++L):=fun q hq=>by
 have k:=h q hq
 cases q with
 | cell q=>
  obtain ⟨cs,e,h1,h2⟩:=k
  exact show ∃cs e,(q.1,AB.box cs e)∈X++L∧cs[q.2.1]?=some q.2.2 from ⟨cs,e,List.mem_append_right _ h1,h2⟩
 | blk b x=>exact show (b,x)∈X++L from List.mem_append_right _ k
abbrev lE:=List (Nat×Ak)
inductive PlA:Type 1 where
 | fin
 | val (k:Nat) (u:AV) (nx:PlA)
 | eff (k:Nat) (R:AV→AL→Prop) (nx:AV→AL→PlA)
def qw (acc:bP) (i:Nat):AV:=(bX acc i).getD (.sc undef)
theorem pI (k:Nat) (u:AV) (acc:bP) (i:Nat):qw ((k,u)::acc) i=if k=i then u else qw acc i:=by
 unfold qw
 rw [ca]
 split <;> rfl
def cE (ops:Array Oper) (acc fr:bP):List Edge→bP
 | []=>fr
 | e::r=>bif Region.binds .any e then (match e9 ops e.on with
  | some t=>(match bX acc e.on with
   | some v=>(t,v)::cE ops acc fr r
   | none=>(t,.sc undef)::cE ops acc fr r)
  | none=>cE ops acc fr r) else cE ops acc fr r
theorem sj {ops:Array Oper} {acc fr:bP} {ε:Nat→Value} {frC:Fr} {τ:bW} (hf:∀t c,bX fr t=some c→∃v,eF frC t=some v∧VR τ c v):∀(es:List Edge),(∀e∈es,Region.binds .any e=true→VR τ (qw acc e.on) (ε e.on))→∀t c,bX (cE ops acc fr es) t=some c→∃v,eF (oI ops ε frC es) t=some v∧VR τ c v
 | [],_,t,c,h=>hf t c h
 | e::r,he,t,c,h=>by
  have ih:=sj (ops:=ops) (acc:=acc) (ε:=ε) hf r (fun e' h'=>he e' (Mu _ h')) t c
  simp only [cE,oI] at h ⊢
  cases hb:Region.binds .any e with
  | false=>rw [hb] at h;simp only [cond_false] at h ⊢;exact ih h
  | true=>
   rw [hb] at h
   simp only [cond_true] at h ⊢
   have hv:=he e (List.mem_cons_self ..) hb
   cases hd:e9 ops e.on with
   | none=>rw [hd] at h;exact ih h
   | some t'=>
    rw [hd] at h
    have key:∀u,qw acc e.on=u→bX ((t',u)::cE ops acc fr r) t=some c→∃v,eF ((t',ε e.on)::oI ops ε frC r) t=some v∧VR τ c v:=by
     intro u hu h
     rw [ca] at h
     rw [gR]
     by_cases e1:t'=t
     ·rw [if_pos e1] at h ⊢
      injection h with h
      exact ⟨_,rfl,by rw [←h,←hu];exact hv⟩
     ·rw [if_neg e1] at h ⊢
      exact ih h
    simp only at h ⊢
    cases ha:bX acc e.on with
    | none=>rw [ha] at h;exact key _ (by simp [qw,ha]) h
    | some u=>rw [ha] at h;exact key _ (by simp [qw,ha]) h
section
variable (P:Program) (l:List Oper) (fr:bP) (fin:jz)
def y0 (o:Oper) (acc:bP) (L:AL) (R:AV→AL→Prop):Prop:=match o.guard with
 | none=>∀B,AO P o (cE l.toArray acc fr o.after.toList) B L R
 | some (j,want)=>(qw acc j= .sc (.bool want)∧∀B,AO P o (cE l.toArray acc fr o.after.toList) B L R)∨((∃v,qw acc j= .sc v∧v≠ .bool want)∧R (.sc undef) L)
def cY:PlA→lE→bP→AL→Prop
 | .fin,sk,acc,L=>sk=[]∧fin.fin acc L
 | .val k u nx,sk,acc,L=>∃s r o,sk=(k,s)::r∧l[k]?=some o∧((s= .v∧∀L,y0 P l fr o acc L (fun c L'=>c=u∧L'=L))∨(s= .l∧y0 P l fr o acc L (fun c L'=>c=u∧L'=L))∨(s= .k∧fU fin.gs L∧∀L,fU fin.gs L→y0 P l fr o acc L (fun c L'=>c=u∧L'=L)))∧cY nx r ((k,u)::acc) L
 | .eff k R nx,sk,acc,L=>∃s r o,(s= .e∨(s= .a∧∀c L',R c L'→∃X,L'=X++L)∨(s= .f∧∀c L',R c L'→fU fin.gs L→fU fin.gs L'))∧sk=(k,s)::r∧l[k]?=some o∧y0 P l fr o acc L R∧∀c L',R c L'→cY (nx c L') r ((k,c)::acc) L'
end
def iX (τ:bW) (S:Nat→Bool) (ε:Nat→Value):PlA→AL→AL→Prop
 | .fin,L,Lc=>Lc=L
 | .val k u nx,L,Lc=>(S k=true→VR τ u (ε k))∧iX τ S ε nx L Lc
 | .eff k R nx,L,Lc=>(S k=true∧∃c L',R c L'∧VR τ c (ε k)∧iX τ S ε (nx c L') L' Lc)∨(S k=false∧Lc=L)
def Ak.isE:Ak→Bool | .e=>true | .f=>true | _=>false
def Ak.isX:Ak→Bool | .e=>true | _=>false
def nI (l:List Oper):List Nat→lE→Bool
 | _,[]=>true
 | dn,(k,s)::r=>(match l[k]? with | some o=>AP dn o.after.toList | none=>false) && !dn.any (Nat.beq k) && !r.any (fun p=>Nat.beq k p.1) && (match s with | .v=>true | .l=>r.all (fun p=> !p.2.isE || d9 l.toArray 8 p.1 k) | .k=>r.all (fun p=> !p.2.isX || d9 l.toArray 8 p.1 k) | .f=>(r.all fun p=>d9 l.toArray 8 p.1 k) | .e=>(r.all fun p=>d9 l.toArray 8 p.1 k) | .a=>r.all fun p=>d9 l.toArray 8 p.1 k) && nI l (k::dn) r
section
variable {P:Program} {l:List Oper} {fr:bP} {fin:jz} {B:Bs} {τ τ':bW} {S S':Nat→Bool} {ε ε':Nat→Value} {La:AL} {w:World}
theorem ld {dn:List Nat} {k:Nat} {s:Ak} {r:lE} (h:nI l dn ((k,s)::r)=true):(∀o,l[k]?=some o→∀e∈o.after,Region.binds .any e=true→e.on∈dn)∧k∉dn∧(∀p∈r,p.1≠k)∧(s.isF=true→∀p∈r,d9 l.toArray 8 p.1 k=true)∧(∀p∈r,(s= .l→p.2.isE=true→d9 l.toArray 8 p.1 k=true)∧(s= .k→p.2= .e→d9 l.toArray 8 p.1 k=true))∧nI l (k::dn) r=true:=by
 simp only [nI,Bool.and_eq_true] at h
 obtain ⟨⟨⟨⟨h1,h0⟩,h2⟩,h3⟩,h4⟩:=h
 refine ⟨fun o ho e he hb=>?_,fun hm=>?_,fun p hp e=>?_,fun hs p hp=>?_,fun p hp=>⟨fun hs he=>?_,fun hs he=>?_⟩,h4⟩
 ·rw [ho] at h1
  simp only [AP,List.all_eq_true] at h1
  have:=h1 e (by simpa using he)
  rw [hb] at this
  simp only [Bool.not_true,Bool.false_or,List.any_eq_true] at this
  obtain ⟨x,hx,hxe⟩:=this
  rw [Nat.beq_eq] at hxe
  rw [hxe];exact hx
 ·have:dn.any (Nat.beq k)=true:=List.any_eq_true.2 ⟨k,hm,by rw [Nat.beq_eq]⟩
  rw [this] at h0
  cases h0
 ·have:(r.any fun p=>Nat.beq k p.1)=true:=List.any_eq_true.2 ⟨p,hp,by rw [Nat.beq_eq];exact e.symm⟩
  rw [this] at h2
  cases h2
 ·cases s with
  | e=>exact List.all_eq_true.1 h3 p hp
  | a=>exact List.all_eq_true.1 h3 p hp
  | f=>exact List.all_eq_true.1 h3 p hp
  | _=>cases hs
 ·subst hs
  have:=List.all_eq_true.1 h3 p hp
  rw [he] at this
  simpa using this
 ·subst hs
  have:=List.all_eq_true.1 h3 p hp
  rw [he] at this
  simpa [Ak.isX] using this
theorem iX.mono (hle:τ.le τ'):∀(pl:PlA) (L Lc:AL),iX τ S ε pl L Lc→iX τ' S ε pl L Lc
 | .fin,L,Lc,h=>h
 | .val k u nx,L,Lc,h=>⟨fun hs=>(h.1 hs).mono hle,iX.mono hle nx L Lc h.2⟩
 | .eff k R nx,L,Lc,h=>by
  rcases h with ⟨h1,c,L',h2,h3,h4⟩ | h
  ·exact .inl ⟨h1,c,L',h2,h3.mono hle,iX.mono hle _ _ _ h4⟩
  ·exact .inr h
theorem iX.congr:∀(pl:PlA) (sk:lE) (acc:bP) (L Lc:AL),cY P l fr fin pl sk acc L→(∀p∈sk,S' p.1=S p.1∧ε' p.1=ε p.1)→iX τ S ε pl L Lc→iX τ S' ε' pl L Lc
 | .fin,sk,acc,L,Lc,_,_,h=>h
 | .val k u nx,sk,acc,L,Lc,ho,hc,h=>by
  obtain ⟨s,r,o,rfl,_,_,hn⟩:=ho
  have hk:=hc (k,s) (List.mem_cons_self ..)
  refine ⟨fun hs=>?_,iX.congr nx r _ L Lc hn (fun p hp=>hc p (Mu _ hp)) h.2⟩
  rw [hk.1] at hs
  rw [hk.2]
  exact h.1 hs
 | .eff k R nx,sk,acc,L,Lc,ho,hc,h=>by
  obtain ⟨s0,r,o,_,rfl,_,_,hn⟩:=ho
  have hk:=hc (k,s0) (List.mem_cons_self ..)
  rcases h with ⟨h1,c,L',h2,h3,h4⟩ | ⟨h1,h2⟩
  ·refine .inl ⟨by rw [hk.1];exact h1,c,L',h2,by rw [hk.2];exact h3,iX.congr _ r _ _ Lc (hn c L' h2) (fun p hp=>hc p (Mu _ hp)) h4⟩
  ·exact .inr ⟨by rw [hk.1];exact h1,h2⟩
theorem iX.fresh:∀(pl:PlA) (sk:lE) (acc:bP) (L:AL),cY P l fr fin pl sk acc L→(∀p∈sk,S p.1=false)→iX τ S ε pl L L
 | .fin,sk,acc,L,_,_=>rfl
 | .val k u nx,sk,acc,L,ho,hc=>by
  obtain ⟨s,r,o,rfl,_,_,hn⟩:=ho
  exact ⟨fun hs=>(by rw [hc (k,s) (List.mem_cons_self ..)] at hs;cases hs),iX.fresh nx r _ L hn fun p hp=>hc p (Mu _ hp)⟩
 | .eff k R nx,sk,acc,L,ho,hc=>by
  obtain ⟨s0,r,o,_,rfl,_,_,hn⟩:=ho
  exact .inr ⟨hc (k,s0) (List.mem_cons_self ..),rfl⟩
theorem iX.noEff:∀(pl:PlA) (sk:lE) (acc:bP) (L Lc:AL),cY P l fr fin pl sk acc L→(∀p∈sk,p.2.isE=true→S p.1=false)→iX τ S ε pl L Lc→∃X,Lc=X++L
 | .fin,sk,acc,L,Lc,_,_,h=>⟨[],h⟩
 | .val k u nx,sk,acc,L,Lc,ho,hc,h=>by
  obtain ⟨s,r,o,rfl,_,_,hn⟩:=ho
  exact iX.noEff nx r _ L Lc hn (fun p hp=>hc p (Mu _ hp)) h.2
 | .eff k R nx,sk,acc,L,Lc,ho,hc,h=>by
  obtain ⟨s0,r,o,hs0,rfl,_,_,hn⟩:=ho
  rcases h with ⟨h1,c,L',hR,_,h4⟩ | ⟨h1,h2⟩
  ·rcases hs0 with rfl | ⟨rfl,hX⟩ | ⟨rfl,_⟩
   ·rw [hc (k,.e) (List.mem_cons_self ..) rfl] at h1;cases h1
   rotate_left
   ·rw [hc (k,.f) (List.mem_cons_self ..) rfl] at h1;cases h1
   ·obtain ⟨X0,rfl⟩:=hX c L' hR
    obtain ⟨X1,rfl⟩:=iX.noEff (nx c (X0++L)) r _ (X0++L) Lc (hn c _ hR) (fun p hp=>hc p (Mu _ hp)) h4
    exact ⟨X1++X0,by rw [List.append_assoc]⟩
  ·exact ⟨[],h2⟩
theorem iX.keep:∀(pl:PlA) (sk:lE) (acc:bP) (L Lc:AL),cY P l fr fin pl sk acc L→(∀p∈sk,p.2= .e→S p.1=false)→fU fin.gs L→iX τ S ε pl L Lc→fU fin.gs Lc
 | .fin,sk,acc,L,Lc,_,_,hk,h=>by
  have:Lc=L:=h
  rw [this];exact hk
 | .val k u nx,sk,acc,L,Lc,ho,hc,hk,h=>by
  obtain ⟨s,r,o,rfl,_,_,hn⟩:=ho
  exact iX.keep nx r _ L Lc hn (fun p hp=>hc p (Mu _ hp)) hk h.2
 | .eff k R nx,sk,acc,L,Lc,ho,hc,hk,h=>by
  obtain ⟨s0,r,o,hs0,rfl,_,_,hn⟩:=ho
  rcases h with ⟨h1,c,L',hR,_,h4⟩ | ⟨h1,h2⟩
  ·refine iX.keep (nx c L') r _ L' Lc (hn c _ hR) (fun p hp=>hc p (Mu _ hp)) ?_ h4
   rcases hs0 with rfl | ⟨rfl,hX⟩ | ⟨rfl,hK⟩
   ·rw [hc (k,.e) (List.mem_cons_self ..) rfl] at h1;cases h1
   ·obtain ⟨X0,rfl⟩:=hX c L' hR
    exact BM hk X0
   ·exact hK c L' hR hk
  ·rw [h2];exact hk
theorem AO.frame {o:Oper} {L Lf:AL} {R:AV→AL→Prop} (h:∀B,AO P o fr B L R) (B:Bs):AO P o fr B (L++Lf) (fun c L''=>∃L',R c L'∧L''=L'++Lf):=by
 intro σ ρ w hρ hw
 refine (h _ σ ρ w hρ hw.enter).mono fun v w' ⟨τ,c,L',h1,h2,h3,h4⟩=>⟨τ,c,L'++Lf,h1,h2,hw.leave h3,L',h4,rfl⟩
theorem AO.ext {fr:bP} {u:AV} {o:Oper} {L:AL} (h:∀B,AO P o fr B L (fun c L'=>c=u∧L'=L)) (X:AL) (B:Bs):AO P o fr B (X++L) (fun c L'=>c=u∧L'=X++L):=by
 intro σ ρ w hρ hw
 refine (AO.frame (Lf:=X) h B σ ρ w hρ (hw.perm List.perm_append_comm)).mono fun v w' ⟨τ,c,L2,h1,h2,h3,L',⟨h4,h5⟩,h6⟩=>⟨τ,c,X++L,h1,h2,?_,h4,rfl⟩
 subst h6;subst h5
 exact h3.perm List.perm_append_comm
theorem y0.ext {acc:bP} {u:AV} {o:Oper} {L:AL} (h:y0 P l fr o acc L (fun c L'=>c=u∧L'=L)) (X:AL):y0 P l fr o acc (X++L) (fun c L'=>c=u∧L'=X++L):=by
 unfold y0 at h ⊢
 split at h
 ·intro B;exact AO.ext h X B
 ·rcases h with ⟨h1,h2⟩ | ⟨h1,h2⟩
  ·exact .inl ⟨h1,fun B=>AO.ext h2 X B⟩
  ·exact .inr ⟨h1,h2.1,rfl⟩
theorem qi {frC:Fr} {k:Nat} {o:Oper} {ρ:Operand→Value} (okG:iL l.toArray l=true) (hk:l[k]?=some o) (hc:mM l.toArray S) (hSk:S k=false) (hd:∀e∈o.after,Region.binds .any e=true→S e.on=true)
  (hf:∀t c,bX fr t=some c→∃v,eF frC t=some v∧VR τ c v) (hρ:∀x v,zU (oI l.toArray ε frC o.after.toList) x=some v→ρ x=v):
  ∀(pl:PlA) (sk:lE) (dn:List Nat) (acc:bP) (L Lc:AL),cY P l fr fin pl sk acc L→nI l dn sk=true→(∀j∈dn,S j=true→VR τ (qw acc j) (ε j))→(∃s,(k,s)∈sk)→iX τ S ε pl L Lc→cK B τ (Lc++La) w→
  Cn o ε (gn P o ρ w fun v w'=>∃τ' Lc',τ.le τ'∧iX τ' (mark S k) (nE ε k v) pl L Lc'∧cK B τ' (Lc'++La) w') (∃Lc',iX τ (mark S k) (nE ε k undef) pl L Lc'∧cK B τ (Lc'++La) w)
 | .fin,sk,dn,acc,L,Lc,ho,_,_,⟨s,hs⟩,_,_=>by
  obtain ⟨rfl,_⟩:=ho
  simp at hs
 | .val j u nx,sk,dn,acc,L,Lc,ho,hchk,hacc,⟨s,hs⟩,hsh,hst=>by
  obtain ⟨s',r',o',rfl,hj,hv,hn⟩:=ho
  obtain ⟨c1,c0,c2,c3,c3',c4⟩:=ld hchk
  by_cases e:j=k
  ·subst e
   have:o'=o:=by rw [hk] at hj;injection hj with hj;exact hj.symm
   subst this
   have hfr:∀x c,bc (cE l.toArray acc fr o'.after.toList) x=some c→VR τ c (ρ x):=by
    intro x c hx
    cases x with
    | tmp t=>
     obtain ⟨v,h1,h2⟩:=sj (ops:=l.toArray) (acc:=acc) (ε:=ε) hf o'.after.toList (fun e he hb=>hacc _ (c1 o' hk e (Array.mem_def.2 he) hb) (hd e (Array.mem_def.2 he) hb)) t c hx
     rw [hρ (.tmp t) v h1]
     exact h2
    | const v=>simp only [bc,Option.some.injEq] at hx;subst hx;rw [hρ (.const v) v rfl];exact .sc _
    | global g=>simp only [bc,Option.some.injEq] at hx;subst hx;rw [hρ (.global g) _ rfl];exact .sc _
    | func f=>simp only [bc,Option.some.injEq] at hx;subst hx;rw [hρ (.func f) _ rfl];exact .sc _
   have hnew:∀v,iX τ (mark S j) (nE ε j v) nx L Lc:=fun v=>iX.congr nx r' _ L Lc hn (fun p hp=>by
    have:=c2 p hp
    simp [mark,nE,this]) hsh.2
   have hO:(∀B,AO P o' (cE l.toArray acc fr o'.after.toList) B Lc (fun c L'=>c=u∧L'=Lc))→gn P o' ρ w fun v w'=>∃τ' Lc',τ.le τ'∧iX τ' (mark S j) (nE ε j v) (.val j u nx) L Lc'∧cK B τ' (Lc'++La) w':=by
    intro hO
    refine (AO.frame hO B τ ρ w hfr hst).mono ?_
    rintro v w' ⟨τ',c,L2,hle,hvr,hst',L',⟨rfl,rfl⟩,rfl⟩
    exact ⟨τ',_,hle,⟨fun _=>by simpa [nE] using hvr,(hnew v).mono hle⟩,hst'⟩
   have hL:s'= .l→∃X,Lc=X++L:=fun hs'=>iX.noEff nx r' _ L Lc hn (fun p hp he=>by
    cases hS:S p.1 with
    | false=>rfl
    | true=>
     have:=eQ hc _ _ _ ((c3' p hp).1 hs' he) hS
     rw [hSk] at this
     cases this) hsh.2
   have hv':y0 P l fr o' acc Lc (fun c L'=>c=u∧L'=Lc):=by
    rcases hv with ⟨_,h⟩ | ⟨hs',h⟩ | ⟨hs',hk1,h⟩
    ·exact h Lc
    ·obtain ⟨X,rfl⟩:=hL hs';exact h.ext X
    ·refine h Lc (iX.keep nx r' _ L Lc hn (fun p hp he=>?_) hk1 hsh.2)
     cases hS:S p.1 with
     | false=>rfl
     | true=>
      have:=eQ hc _ _ _ ((c3' p hp).2 hs' he) hS
      rw [hSk] at this
      cases this
   unfold y0 at hv'
   unfold Cn
   cases hg:o'.guard with
   | none=>rw [hg] at hv';exact hO hv'
   | some q=>
    obtain ⟨g,want⟩:=q
    rw [hg] at hv'
    obtain ⟨hej,_⟩:=gq l.toArray l okG j o' g want hk hg
    obtain ⟨e,he,hb,hei⟩:=j5.1 hej
    have hgv:VR τ (qw acc g) (ε g):=by rw [←hei];exact hacc _ (c1 o' hk e he hb) (hd e he hb)
    simp only at hv' ⊢
    rcases hv' with ⟨hy,hO'⟩ | ⟨⟨v,hy,hne⟩,hu,_⟩
    ·rw [hy] at hgv
     rw [hgv.sc_inv]
     exact ⟨fun _=>hO hO',fun h=>absurd rfl h⟩
    ·rw [hy] at hgv
     rw [hgv.sc_inv]
     refine ⟨fun h=>absurd h hne,fun _=>⟨Lc,⟨fun _=>?_,hnew undef⟩,hst⟩⟩
     rw [←hu]
     simpa [nE] using VR.sc (σ:=τ) undef
  ·have hmem:(k,s)∈r':=by
    rcases List.mem_cons.1 hs with h | h
    ·injection h with h _;exact absurd h.symm e
    ·exact h
   refine (qi okG hk hc hSk hd hf hρ nx r' (j::dn) ((j,u)::acc) L Lc hn c4 ?_ ⟨s,hmem⟩ hsh.2 hst).mono ?_ ?_
   ·intro i hi hSi
    rw [pI]
    by_cases hji:j=i
    ·subst hji;rw [if_pos rfl];exact hsh.1 hSi
    ·rw [if_neg hji]
     rcases List.mem_cons.1 hi with rfl | hi
     ·exact absurd rfl hji
     ·exact hacc i hi hSi
   ·intro h
    refine h.mono fun v w' ⟨τ',Lc',hle,h1,h2⟩=>⟨τ',Lc',hle,⟨fun hm=>?_,h1⟩,h2⟩
    simp only [nE,if_neg e]
    exact (hsh.1 (by simpa [mark,e] using hm)).mono hle
   ·rintro ⟨Lc',h1,h2⟩
    refine ⟨Lc',⟨fun hm=>?_,h1⟩,h2⟩
    simp only [nE,if_neg e]
    exact hsh.1 (by simpa [mark,e] using hm)
 | .eff j R nx,sk,dn,acc,L,Lc,ho,hchk,hacc,⟨s,hs⟩,hsh,hst=>by
  obtain ⟨s0,r',o',hs0,rfl,hj,hv,hn⟩:=ho
  obtain ⟨c1,c0,c2,c3,c3',c4⟩:=ld hchk
  have hF:s0.isF=true:=by rcases hs0 with rfl | ⟨rfl,_⟩ | ⟨rfl,_⟩ <;> rfl
  by_cases e:j=k
  ·subst e
   have:o'=o:=by rw [hk] at hj;injection hj with hj;exact hj.symm
   subst this
   have hfr:∀x c,bc (cE l.toArray acc fr o'.after.toList) x=some c→VR τ c (ρ x):=by
    intro x c hx
    cases x with
    | tmp t=>
     obtain ⟨v,h1,h2⟩:=sj (ops:=l.toArray) (acc:=acc) (ε:=ε) hf o'.after.toList (fun e he hb=>hacc _ (c1 o' hk e (Array.mem_def.2 he) hb) (hd e (Array.mem_def.2 he) hb)) t c hx
     rw [hρ (.tmp t) v h1]
     exact h2
    | const v=>simp only [bc,Option.some.injEq] at hx;subst hx;rw [hρ (.const v) v rfl];exact .sc _
    | global g=>simp only [bc,Option.some.injEq] at hx;subst hx;rw [hρ (.global g) _ rfl];exact .sc _
    | func f=>simp only [bc,Option.some.injEq] at hx;subst hx;rw [hρ (.func f) _ rfl];exact .sc _
   have hLc:Lc=L:=by
    rcases hsh with ⟨h1,_⟩ | ⟨_,h2⟩
    ·rw [hSk] at h1;cases h1
    ·exact h2
   subst hLc
   have hnone:∀p∈r',mark S j p.1=false:=fun p hp=>by
    have h1:=c2 p hp
    cases hS:S p.1 with
    | false=>simp [mark,h1,hS]
    | true=>
     have:=eQ hc _ _ _ (c3 hF p hp) hS
     rw [hSk] at this
     cases this
   have hO:(∀B,AO P o' (cE l.toArray acc fr o'.after.toList) B Lc R)→gn P o' ρ w fun v w'=>∃τ' Lc',τ.le τ'∧iX τ' (mark S j) (nE ε j v) (.eff j R nx) Lc Lc'∧cK B τ' (Lc'++La) w':=by
    intro hO
    refine (AO.frame hO B τ ρ w hfr hst).mono ?_
    rintro v w' ⟨τ',c,L2,hle,hvr,hst',L',hR,rfl⟩
    exact ⟨τ',L',hle,.inl ⟨by simp [mark],c,L',hR,by simpa [nE] using hvr,iX.fresh _ r' _ L' (hn c L' hR) hnone⟩,hst'⟩
   unfold y0 at hv
   unfold Cn
   cases hg:o'.guard with
   | none=>rw [hg] at hv;exact hO hv
   | some q=>
    obtain ⟨g,want⟩:=q
    rw [hg] at hv
    obtain ⟨hej,_⟩:=gq l.toArray l okG j o' g want hk hg
    obtain ⟨e,he,hb,hei⟩:=j5.1 hej
    have hgv:VR τ (qw acc g) (ε g):=by rw [←hei];exact hacc _ (c1 o' hk e he hb) (hd e he hb)
    simp only at hv ⊢
    rcases hv with ⟨hy,hO'⟩ | ⟨⟨v,hy,hne⟩,hR⟩
    ·rw [hy] at hgv
     rw [hgv.sc_inv]
     exact ⟨fun _=>hO hO',fun h=>absurd rfl h⟩
    ·rw [hy] at hgv
     rw [hgv.sc_inv]
     refine ⟨fun h=>absurd h hne,fun _=>⟨Lc,.inl ⟨by simp [mark],.sc undef,Lc,hR,by simpa [nE] using VR.sc (σ:=τ) undef,iX.fresh _ r' _ Lc (hn _ _ hR) hnone⟩,hst⟩⟩
  ·have hmem:(k,s)∈r':=by
    rcases List.mem_cons.1 hs with h | h
    ·injection h with h _;exact absurd h.symm e
    ·exact h
   have hSj:S j=true:=by
    have hr:=c3 hF (k,s) hmem
    have:∀(n i:Nat),d9 l.toArray n i j=true→(∀o,l[i]?=some o→∀e∈o.after,Region.binds .any e=true→S e.on=true)→S j=true:=by
     intro n i h hd'
     cases n with
     | zero=>simp [d9] at h
     | succ n=>
      simp only [d9] at h
      split at h
      ·cases h
      ·rename_i oi hoi
       rw [List.any_eq_true] at h
       obtain ⟨ed,hed,h⟩:=h
       simp only [Bool.and_eq_true,Bool.or_eq_true,Nat.beq_eq] at h
       have hse:=hd' oi (by simpa using hoi) ed (Array.mem_def.2 hed) h.1
       rcases h.2 with h2 | h2
       ·rw [←h2];exact hse
       ·exact eQ hc n _ _ h2 hse
    exact this _ _ hr fun o' ho'=>by
     have:o'=o:=by rw [hk] at ho';injection ho' with h;exact h.symm
     subst this
     exact hd
   rcases hsh with ⟨h1,c,L',hR,hvr,h4⟩ | ⟨h1,_⟩
   ·refine (qi okG hk hc hSk hd hf hρ (nx c L') r' (j::dn) ((j,c)::acc) L' Lc (hn c L' hR) c4 ?_ ⟨s,hmem⟩ h4 hst).mono ?_ ?_
    ·intro i hi hSi
     rw [pI]
     by_cases hji:j=i
     ·subst hji;rw [if_pos rfl];exact hvr
     ·rw [if_neg hji]
      rcases List.mem_cons.1 hi with rfl | hi
      ·exact absurd rfl hji
      ·exact hacc i hi hSi
    ·intro h
     refine h.mono fun v w' ⟨τ',Lc',hle,h5,h6⟩=>⟨τ',Lc',hle,.inl ⟨by simp [mark,hSj],c,L',hR,?_,h5⟩,h6⟩
     simp only [nE,if_neg e]
     exact hvr.mono hle
    ·rintro ⟨Lc',h5,h6⟩
     refine ⟨Lc',.inl ⟨by simp [mark,hSj],c,L',hR,?_,h5⟩,h6⟩
     simp only [nE,if_neg e]
     exact hvr
   ·rw [hSj] at h1;cases h1
theorem t2:∀(pl:PlA) (sk:lE) (acc:bP) (L Lc:AL),cY P l fr fin pl sk acc L→(∀p∈sk,S p.1=true)→(∀p∈sk,∀q,bX acc p.1≠some q)→(sk.map (·.1)).Nodup→iX τ S ε pl L Lc→∃acc',fin.fin acc' Lc∧(∀p∈sk,VR τ (qw acc' p.1) (ε p.1))∧∀i,(∀p∈sk,p.1≠i)→bX acc' i=bX acc i
 | .fin,sk,acc,L,Lc,ho,_,_,_,h=>by
  obtain ⟨rfl,hf⟩:=ho
  have:Lc=L:=h
  subst this
  exact ⟨acc,hf,by simp,fun _ _=>rfl⟩
 | .val k u nx,sk,acc,L,Lc,ho,hS,hn',hnd,h=>by
  obtain ⟨s,r,o,rfl,_,_,hn⟩:=ho
  simp only [Mr,List.nodup_cons] at hnd
  have hne:∀p∈r,p.1≠k:=fun p hp e=>hnd.1 (by rw [←e];exact List.mem_map_of_mem hp)
  obtain ⟨acc',h1,h2,h3⟩:=t2 nx r ((k,u)::acc) L Lc hn (fun p hp=>hS p (Mu _ hp)) (fun p hp q=>by rw [ca,if_neg (hne p hp).symm];exact hn' p (Mu _ hp) q) hnd.2 h.2
  refine ⟨acc',h1,fun p hp=>?_,fun i hi=>?_⟩
  ·rcases List.mem_cons.1 hp with rfl | hp
   ·have:=h3 k hne
    rw [qw,this,ca,if_pos rfl]
    exact h.1 (hS (k,s) (List.mem_cons_self ..))
   ·exact h2 p hp
  ·rw [h3 i (fun p hp=>hi p (Mu _ hp)),ca,if_neg (hi (k,s) (List.mem_cons_self ..))]
 | .eff k R nx,sk,acc,L,Lc,ho,hS,hn',hnd,h=>by
  obtain ⟨s0,r,o,_,rfl,_,_,hn⟩:=ho
  simp only [Mr,List.nodup_cons] at hnd
  have hne:∀p∈r,p.1≠k:=fun p hp e=>hnd.1 (by rw [←e];exact List.mem_map_of_mem hp)
  rcases h with ⟨_,c,L',hR,hvr,h4⟩ | ⟨h1,_⟩
  ·obtain ⟨acc',h1,h2,h3⟩:=t2 (nx c L') r ((k,c)::acc) L' Lc (hn c L' hR) (fun p hp=>hS p (Mu _ hp)) (fun p hp q=>by rw [ca,if_neg (hne p hp).symm];exact hn' p (Mu _ hp) q) hnd.2 h4
   refine ⟨acc',h1,fun p hp=>?_,fun i hi=>?_⟩
   ·rcases List.mem_cons.1 hp with rfl | hp
    ·have:=h3 k hne
     rw [qw,this,ca,if_pos rfl]
     exact hvr
    ·exact h2 p hp
   ·rw [h3 i (fun p hp=>hi p (Mu _ hp)),ca,if_neg (hi (k,s0) (List.mem_cons_self ..))]
  ·rw [hS (k,s0) (List.mem_cons_self ..)] at h1;cases h1
end
end Go.Proofs.YtamjlkdanllgjaaGreatDoor
namespace Go.Proofs.YtamjlkdanllgjaaGreatDoor
open Go.RowKit
def ir (ops:Array Oper) (acc fr:bP):Nat→bP
 | 0=>fr
 | n+1=>match e9 ops n with
  | some t=>(match bX acc n with
   | some v=>(t,v)::ir ops acc fr n
   | none=>(t,.sc undef)::ir ops acc fr n)
  | none=>ir ops acc fr n
theorem rm {ops:Array Oper} {acc fr:bP} {ε:Nat→Value} {frC:Fr} {τ:bW} (hf:∀t c,bX fr t=some c→∃v,eF frC t=some v∧VR τ c v):∀(n:Nat),(∀i,i < n→VR τ (qw acc i) (ε i))→∀t c,bX (ir ops acc fr n) t=some c→∃v,eF (m7 ops ε frC n) t=some v∧VR τ c v
 | 0,_,t,c,h=>hf t c h
 | n+1,hv,t,c,h=>by
  have ih:=rm (ops:=ops) (acc:=acc) (ε:=ε) hf n (fun i hi=>hv i (by omega)) t c
  simp only [ir,m7] at h ⊢
  cases hd:e9 ops n with
  | none=>rw [hd] at h;exact ih h
  | some t'=>
   rw [hd] at h
   have key:∀u,qw acc n=u→bX ((t',u)::ir ops acc fr n) t=some c→∃v,eF ((t',ε n)::m7 ops ε frC n) t=some v∧VR τ c v:=by
    intro u hu h
    rw [ca] at h
    rw [gR]
    by_cases e1:t'=t
    ·rw [if_pos e1] at h ⊢
     injection h with h
     exact ⟨_,rfl,by rw [←h,←hu];exact hv n (by omega)⟩
    ·rw [if_neg e1] at h ⊢
     exact ih h
   simp only at h ⊢
   cases ha:bX acc n with
   | none=>rw [ha] at h;exact key _ (by simp [qw,ha]) h
   | some u=>rw [ha] at h;exact key _ (by simp [qw,ha]) h
def qY (fr:bP) (a:Act):Fr:=fr.map fun p=>(p.1,a.tmps.getD p.1 undef)
theorem pk (fr:bP) (a:Act) (t:Nat):eF (qY fr a) t=(bX fr t).map fun _=>a.tmps.getD t undef:=by
 induction fr with
 | nil=>rfl
 | cons p r ih=>
  obtain ⟨i,u⟩:=p
  show eF ((i,a.tmps.getD i undef)::qY r a) t=_
  rw [gR,ca]
  by_cases e:i=t
  ·subst e;simp
  ·rw [if_neg e,if_neg e];exact ih
section
variable {P:Program} {r:Option Nat} {Q:Exit→Act→World→Prop} {nt:Nat} {D:List Deferred} {fr:bP} {B:Bs} {l:List Oper}
def Ez (P:Program) (r:Option Nat) (l:List Oper) (n0:Nat) (Q:Exit→Act→World→Prop) (nt:Nat) (D:List Deferred) (fr:bP) (B:Bs) (al:Option (Nat×AB)) (acc:bP) (L:AL):Prop:=match al with
 | none=>bz P r l.toArray Q nt D (l.drop n0) (ir l.toArray acc fr n0) B L
 | some (k,ab)=>∀b,bz P r l.toArray Q nt D (l.drop n0) (ir l.toArray ((k,.sc (.pointer (some ⟨b,0,none⟩)))::acc) fr n0) B (L++[(b,ab)])
def Ic (al:Option (Nat×AB)) (S:Nat→Bool) (ε:Nat→Value) (La:AL):Prop:=match al with
 | none=>La=[]
 | some (k,ab)=>∃b,(S k=true→ε k= .pointer (some ⟨b,0,none⟩))∧La=if S k then [(b,ab)] else []
def IA (P:Program) (l:List Oper) (al:Option (Nat×AB)):Prop:=match al with
 | none=>True
 | some (k,ab)=>∃o,l[k]?=some o∧o.guard=none∧∀fr B L,AO P o fr B L (fun c L'=>∃b,c= .sc (.pointer (some ⟨b,0,none⟩))∧L'=(b,ab)::L)
def nK (al:Option (Nat×AB)):List Nat:=match al with | none=>[] | some (k,_)=>[k]
def rZ (n0:Nat) (sk:lE) (ks:List Nat):Bool:=((List.range n0).all fun k=>(sk.any fun p=>Nat.beq k p.1) || ks.any (Nat.beq k)) && (sk.all fun p=>Nat.blt p.1 n0 && !ks.any (Nat.beq p.1)) && ks.all fun k=>Nat.blt k n0
def DA (P:Program) (l:List Oper) (fr:bP) (fin:jz) (sk:lE) (acc:bP) (L:AL):Prop:=∃pl,cY P l fr fin pl sk acc L
theorem nJ:∀(sk:lE) (dn:List Nat),nI l dn sk=true→(sk.map (·.1)).Nodup
 | [],_,_=>by simp
 | (k,s)::r,dn,h=>by
  obtain ⟨_,_,c2,_,_,c4⟩:=ld h
  simp only [Mr,List.nodup_cons]
  refine ⟨fun hm=>?_,nJ r _ c4⟩
  obtain ⟨p,hp,he⟩:=List.mem_map.1 hm
  exact c2 p hp he
theorem lL {id:Nat} {L:AL} (gs:KpL) (n0:Nat) (sk:lE) (al:Option (Nat×AB)) (h:DA P l fr ⟨Ez P r l n0 Q nt D fr B al,gs⟩ sk [] L) (hal:IA P l al) (hn0:Nat.ble n0 l.length=true) (ht:lC l n0=true) (hck:nI l [] sk=true) (hcv:rZ n0 sk (nK al)=true) (hm:P.follows .mixedOrders=true) (ok:iP l=true) (hs:kK nt l=true):
  AT P r (.region id l.toArray true) Q nt D fr B L:=by
 obtain ⟨pl,hpl⟩:=h
 intro σ a w ha hw
 have hn0':n0≤l.length:=by simpa [Nat.ble_eq] using hn0
 have okG:iL l.toArray l=true:=by
  simp only [iP,Bool.and_eq_true] at ok
  exact ok.1.2
 simp only [rZ,Bool.and_eq_true,List.all_eq_true,List.mem_range,Bool.or_eq_true,List.any_eq_true] at hcv
 obtain ⟨⟨hcv1,hcv2⟩,hcv3⟩:=hcv
 have hlt:∀p∈sk,p.1 < n0:=fun p hp=>by have:=(hcv2 p hp).1;simpa [Nat.blt_eq] using this
 have hnal:∀p∈sk,∀k ab,al=some (k,ab)→p.1≠k:=fun p hp k ab hal e=>by
  have:=(hcv2 p hp).2
  rw [hal] at this
  simp [nK,e] at this
 have hf0:∀(τ:bW),σ.le τ→∀t c,bX fr t=some c→∃v,eF (qY fr a) t=some v∧VR τ c v:=fun τ hle t c hc=>⟨a.tmps.getD t undef,by rw [pk,hc];rfl,(ha.look t c hc).mono hle⟩
 refine Fw (D:=D) (fr:=qY fr a) (I:=fun w'=>w'=w) n0 (J:=fun S ε w'=>∃τ La Lc,σ.le τ∧cK B τ (Lc++La) w'∧iX τ S ε pl L Lc∧Ic al S ε La) hn0' ht hm ok hs ?_ ?_ ?_ a w ?_ rfl
 ·rintro w' n rfl
  refine ⟨σ,[],L,bW.le_refl _,by rw [List.append_nil];exact hw.drew n,iX.fresh pl sk _ L hpl (fun _ _=>rfl),?_⟩
  unfold Ic
  split
  ·rfl
  ·exact ⟨0,by simp,by simp⟩
 ·intro k o hk ho S ε hc hSk hd
  rcases hcv1 k hk with ⟨p,hp,he⟩ | ⟨k',hk',he⟩
  ·rw [Nat.beq_eq] at he
   have hks:∃s,(k,s)∈sk:=⟨p.2,by rw [he];exact hp⟩
   have hal':∀v La,Ic al S ε La→Ic al (mark S k) (nE ε k v) La:=by
    intro v La h
    unfold Ic at *
    split at h
    ·exact h
    ·rename_i k0 ab
     have hne:k0≠k:=fun e=>hnal p hp k0 ab rfl (by rw [←he,e])
     obtain ⟨b,h1,h2⟩:=h
     have m1:mark S k k0=S k0:=by simp [mark,hne]
     have m2:nE ε k v k0=ε k0:=by simp [nE,hne]
     exact ⟨b,by rw [m1,m2];exact h1,by rw [m1];exact h2⟩
   have step:∀(ρ:Operand→Value) (w':World),(∀x v,zU (oI l.toArray ε (qY fr a) o.after.toList) x=some v→ρ x=v)→∀τ La Lc,σ.le τ→cK B τ (Lc++La) w'→iX τ S ε pl L Lc→_:=fun ρ w' hρ τ La Lc hle hst hsh=>
    qi (B:=B) (La:=La) (w:=w') okG ho hc hSk hd (hf0 τ hle) hρ pl sk [] [] L Lc hpl hck (by simp) hks hsh hst
   unfold Cn at step
   cases hg:o.guard with
   | none=>
    simp only [hg] at step
    intro ρ w' hρ ⟨τ,La,Lc,hle,hst,hsh,hA⟩
    exact (step ρ w' hρ τ La Lc hle hst hsh).mono fun v w'' ⟨τ',Lc',h1,h2,h3⟩=>⟨τ',La,Lc',bW.le_trans hle h1,h3,h2,hal' v La hA⟩
   | some q=>
    obtain ⟨g,want⟩:=q
    simp only [hg] at step
    refine ⟨fun hy ρ w' hρ ⟨τ,La,Lc,hle,hst,hsh,hA⟩=>((step ρ w' hρ τ La Lc hle hst hsh).1 hy).mono fun v w'' ⟨τ',Lc',h1,h2,h3⟩=>⟨τ',La,Lc',bW.le_trans hle h1,h3,h2,hal' v La hA⟩,fun hne w' ⟨τ,La,Lc,hle,hst,hsh,hA⟩=>?_⟩
    classical
    obtain ⟨Lc',h2,h3⟩:=(step (fun x=>(zU (oI l.toArray ε (qY fr a) o.after.toList) x).getD undef) w' (fun x v hx=>by simp [hx]) τ La Lc hle hst hsh).2 hne
    exact ⟨τ,La,Lc',hle,h3,h2,hal' undef La hA⟩
  ·rw [Nat.beq_eq] at he
   subst he
   cases al with
   | none=>simp [nK] at hk'
   | some q=>
    obtain ⟨k0,ab⟩:=q
    simp only [nK,List.mem_singleton] at hk'
    subst hk'
    obtain ⟨o',ho',hg,hAO⟩:=hal
    have:o'=o:=by rw [ho] at ho';injection ho' with h;exact h.symm
    subst this
    simp only [hg]
    intro ρ w' hρ ⟨τ,La,Lc,hle,hst,hsh,b0,hA1,hA2⟩
    rw [hSk] at hA2
    simp only [Bool.false_eq_true,if_false] at hA2
    subst hA2
    refine (hAO [] B (Lc++[]) τ ρ w' (fun x c hx=>?_) hst).mono ?_
    ·cases x with
     | tmp t=>simp [bc,bX] at hx
     | const v=>simp only [bc,Option.some.injEq] at hx;subst hx;rw [hρ (.const v) v rfl];exact .sc _
     | global g=>simp only [bc,Option.some.injEq] at hx;subst hx;rw [hρ (.global g) _ rfl];exact .sc _
     | func f=>simp only [bc,Option.some.injEq] at hx;subst hx;rw [hρ (.func f) _ rfl];exact .sc _
    ·rintro v w'' ⟨τ',c,L',h1,h2,h3,b,rfl,rfl⟩
     have hv:=h2.sc_inv
     refine ⟨τ',[(b,ab)],Lc,bW.le_trans hle h1,?_,iX.congr pl sk _ L Lc hpl (fun p hp=>?_) (hsh.mono h1),b,fun _=>by simp [nE,hv],by simp [mark]⟩
     ·rw [List.append_nil] at h3
      exact h3.perm (List.perm_append_comm (l₁:=[_]))
     ·have:=hnal p hp _ ab rfl
      simp [mark,nE,this]
 ·intro ε a' w' ha' ⟨τ,La,Lc,hle,hst,hsh,hA⟩
  obtain ⟨acc',hf,hv,hacc⟩:=t2 pl sk [] L Lc hpl (fun p hp=>by simpa using hlt p hp) (by simp [bX]) (nJ sk [] hck) hsh
  have hag:∀(acc2:bP),(∀i,i < n0→VR τ (qw acc2 i) (ε i))→i6 τ nt D (ir l.toArray acc2 fr n0) a':=fun acc2 hall=>⟨ha'.size,ha'.defers,fun t c hc=>by
   obtain ⟨v,h1,h2⟩:=rm (ops:=l.toArray) (acc:=acc2) (ε:=ε) (hf0 τ hle) n0 hall t c hc
   rw [ha'.look t v h1]
   exact h2⟩
  dsimp only at hf
  unfold Ez at hf
  cases al with
  | none=>
   have:La=[]:=hA
   subst this
   rw [List.append_nil] at hst
   refine hf τ a' w' (hag acc' fun i hi=>?_) hst
   rcases hcv1 i hi with ⟨p,hp,he⟩ | ⟨k',hk',_⟩
   ·rw [Nat.beq_eq] at he;rw [he];exact hv p hp
   ·simp [nK] at hk'
  | some q=>
   obtain ⟨k0,ab⟩:=q
   have hk0:k0 < n0:=by have:=hcv3 k0 (by simp [nK]);simpa [Nat.blt_eq] using this
   obtain ⟨b,hA1,hA2⟩:=hA
   simp only [hk0,decide_true,if_true] at hA1 hA2
   subst hA2
   refine hf b τ a' w' (hag _ fun i hi=>?_) hst
   rw [pI]
   by_cases e:k0=i
   ·subst e
    rw [if_pos rfl,hA1 trivial]
    exact .sc _
   ·rw [if_neg e]
    rcases hcv1 i hi with ⟨p,hp,he⟩ | ⟨k',hk',he⟩
    ·rw [Nat.beq_eq] at he;rw [he];exact hv p hp
    ·rw [Nat.beq_eq] at he
     simp only [nK,List.mem_singleton] at hk'
     omega
 ·refine ⟨ha.size,ha.defers,fun t v hv=>?_⟩
  rw [pk] at hv
  cases hq:bX fr t with
  | none=>rw [hq] at hv;cases hv
  | some c=>rw [hq] at hv;simpa using hv
theorem bB {id:Nat} {L:AL} (n0:Nat) (sk:lE) (al:Option (Nat×AB)) (h:DA P l fr ⟨Ez P r l n0 Q nt D fr B al,[]⟩ sk [] L) (hal:IA P l al) (hn0:Nat.ble n0 l.length=true) (ht:lC l n0=true) (hck:nI l [] sk=true) (hcv:rZ n0 sk (nK al)=true) (hm:P.follows .mixedOrders=true) (ok:iP l=true) (hs:kK nt l=true):
  AT P r (.region id l.toArray true) Q nt D fr B L:=lL [] n0 sk al h hal hn0 ht hck hcv hm ok hs
end
end Go.Proofs.YtamjlkdanllgjaaGreatDoor
