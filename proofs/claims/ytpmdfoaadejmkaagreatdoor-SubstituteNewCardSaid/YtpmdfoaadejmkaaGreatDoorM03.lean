/-
  Cuts, makes, calls; what was written is not written any more.
-/
import Derived.Test.YtpmdfoaadejmkaaGreatDoorM02
namespace Go.Proofs.YtpmdfoaadejmkaaGreatDoor
open Go.RowKit
theorem VR.cut {σ:cF} {sz n cap lo hi m:Nat} {l:List (List AV)} {A:Option Addr} (h:VR σ (.imm sz l) (.slice A n cap)) (h1:lo≤hi) (h2:hi≤n) (h3:hi≤m) (h4:m≤cap):VR σ (.imm sz ((l.drop lo).take (hi - lo))) (.slice (if m=lo then A else A.map (·.add (lo * sz))) (hi - lo) (m - lo)):=by
 obtain ⟨A',cap',he,hc,hm,hs,ha,hx,hy⟩:=h.imm_inv
 cases he
 have hlen:((l.drop lo).take (hi - lo)).length=hi - lo:=by rw [List.length_take,List.length_drop];omega
 have key:VR σ (.imm sz ((l.drop lo).take (hi - lo))) (.slice (if m=lo then A else A.map (·.add (lo * sz))) ((l.drop lo).take (hi - lo)).length (m - lo)):=by
  have hAA:∀b' off',(if m=lo then A else A.map (·.add (lo * sz)))=some ⟨b',off',none⟩→lo < hi→∃off,A=some ⟨b',off,none⟩∧off'=off+lo * sz:=by
   intro b' off' hA hlt
   rw [if_neg (by omega)] at hA
   obtain ⟨b,off,rfl⟩:=ha (by intro e;subst e;simp at h2;omega)
   simp only [Option.map_some,dS,Option.some.injEq,Addr.mk.injEq] at hA
   exact ⟨off,by rw [hA.1],hA.2.1.symm⟩
  refine .imm sz _ _ (m - lo) (by rw [hlen];omega) (by omega) (fun e he=>hs e (List.mem_of_mem_drop (List.mem_of_mem_take he))) (fun hne=>?_) (fun i b off j hA hi' hj=>?_) fun i e b off j c u he hA hj hu=>?_
  ·have:0 < hi - lo:=by rw [←hlen];exact List.length_pos_iff.2 hne
   obtain ⟨b,off,rfl⟩:=ha (by intro e;subst e;simp at h2;omega)
   rw [if_neg (by omega)]
   exact ⟨b,off+lo * sz,by simp [dS]⟩
  ·rw [hlen] at hi'
   obtain ⟨off0,rfl,rfl⟩:=hAA b off hA (by omega)
   have:=hx (lo+i) b off0 j rfl (by omega) hj
   rwa [show off0+(lo+i) * sz+j=off0+lo * sz+i * sz+j by rw [Nat.add_mul];omega] at this
  ·have hi':i < hi - lo:=by rw [←hlen];exact (Np he).1
   obtain ⟨off0,rfl,rfl⟩:=hAA b off hA (by omega)
   rw [List.getElem?_take,if_pos hi',List.getElem?_drop] at he
   refine hy (lo+i) e b off0 j c u he rfl hj ?_
   rwa [show off0+(lo+i) * sz+j=off0+lo * sz+i * sz+j by rw [Nat.add_mul];omega]
 rwa [hlen] at key
section
variable {P:Program} {fr:cf} {B:Bs} {L:AL} {d:Option Tmp} {ty t t':TypeId} {pos:String} {af:Array Edge} {g:Option (Nat×Bool)} {x y z q:Operand} {u:AV}
theorem Jl {s e sz by_ hi:Nat} {l:List (List AV)} {k:IntKind} {a:Int} (hc:lw P t e sz by_) (hx:bE fr x=some u) (hu:u.im= .imm s l) (hs:Nat.beq s sz=true) (hy:bE fr y=some (.sc (.int k a))) (ha:a=(hi:Int)) (h:hi≤l.length):Av P ⟨d,.slice t x none (some y) none,ty,pos,af,g⟩ fr (.imm s (l.take hi)):=by
 intro σ ρ w hρ _
 subst ha
 rw [Nat.beq_eq] at hs
 subst hs
 have h1:=(hρ x u hx).im
 rw [hu] at h1
 obtain ⟨A,cap,hv,hcap,_⟩:=h1.imm_inv
 rw [hv] at h1
 have hvr:=h1.cut (lo:=0) (hi:=hi) (m:=cap) (Nat.zero_le _) h (by omega) (Nat.le_refl _)
 rw [List.drop_zero,Nat.sub_zero,Nat.sub_zero] at hvr
 haveI:=hc
 refine ⟨_,?_,hvr⟩
 have h2:hi≤cap:=by omega
 simp [execOp,hv,(hρ y _ hy).sc_inv,Instr.sliceAt,Instr.slice,Instr.sliceBounds,Instr.sliceBound,asIntOf,run_underlying hc.under,df (t:=t),h2]
theorem xR {s:ByteArray} {k:IntKind} {i:Int} {c:UInt8} (h:Dw P t) (hx:bE fr x=some (.sc (.string s))) (hy:bE fr y=some (.sc (.int k i))) (h0:0≤i) (hu:s[i.toNat]?=some c):Av P ⟨d,.index t x y,ty,pos,af,g⟩ fr (.sc (.int .u8 c.toNat)):=
 eH fun ρ w hρ=>by
  simp [execOp,hρ _ _ hx,hρ _ _ hy,Instr.index,asIntOf,run_underlying h.under,h0,hu]
theorem vO {b off n cap e sz by_:Nat} {k:IntKind} {i:Int} (h:lw P t e sz by_) (hx:bE fr x=some (.sc (.slice (some ⟨b,off,none⟩) n cap))) (hy:bE fr y=some (.sc (.int k i))) (h0:0≤i∧i < n):Av P ⟨d,.indexAddr t x y,ty,pos,af,g⟩ fr (.sc (.pointer (some ⟨b,off+i.toNat * sz,none⟩))):=
 eH fun ρ w hρ=>by
  haveI:=h
  simp [execOp,hρ _ _ hx,hρ _ _ hy,Instr.indexAt,asIntOf,run_underlying h.under,h0.1,h0.2,df (t:=t),dS]
theorem ua {e sz by_ n c:Nat} {k k':IntKind} {z:List Value} (hc:lw P t e sz by_) (hz:CZ P e z) (hsz:0 < sz) (hby:by_ * c≤281474976710656) (h63:c≤9223372036854775807) (hn:n≤c) (w:World) (ρ:Operand→Value) (hx:ρ x= .int k (n:Int)) (hy:ρ y= .int k' (c:Int)):
  (execOp ρ ⟨d,.makeSlice t x y,ty,pos,af,g⟩).run P w= .ok (.value (.slice (some ⟨w.heap.size,0,none⟩) n c)) (w.alloc (.cells ((List.replicate c z).flatten).toArray e)):=by
 obtain ⟨i,zv,hi,hs1,hs2,hzv,hzs⟩:=hc.info
 obtain ⟨zv',hz1,hz2⟩:=hz.run
 have hzz:zv=zv':=by
  have:=hz2 w
  simp [zeroValue,typeInfo,hi,hzv] at this
  exact this
 subst hzz
 have hb:(i.bytes:Int) * (c:Int)≤281474976710656:=by
  rw [hs2]
  have h:((by_ * c:Nat):Int)≤281474976710656:=by omega
  rwa [Int.natCast_mul] at h
 have hr:=run_make (P:=P) w t e i zv hc.under hi hzv k k' n c (by omega) (by omega) hb (by omega)
 simp only [Int.toNat_natCast] at hr
 have:=s8 zv.cells c (by omega)
 rw [hzs] at this
 have hl:zv.cells.toList=z:=by rw [hz1]
 rw [hl] at this
 have e1:madeCells zv.cells (c * i.size)=((List.replicate c z).flatten).toArray:=by rw [hs1,←this]
 rw [e1] at hr
 simp [execOp,hx,hy,hr]
theorem A6 {e sz by_ n:Nat} {k k':IntKind} {a b:Int} {z:List Value} (hc:lw P t e sz by_) (hz:CZ P e z) (h1:z.all (·.oneCell')=true) (hsz:0 < sz) (hx:bE fr x=some (.sc (.int k a))) (hy:bE fr y=some (.sc (.int k' b))) (ha:a=(n:Int)) (hb:b=(n:Int)) (hby:by_ * n≤281474976710656) (h63:n≤9223372036854775807):
  AO P ⟨d,.makeSlice t x y,ty,pos,af,g⟩ fr B L (fun c L'=>∃b,c= .sc (.slice (some ⟨b,0,none⟩) n n)∧L'=(b,.box ((List.replicate n (z.map .sc)).flatten) e)::L):=by
 intro σ ρ w hρ hw
 subst ha hb
 have hr:=ua (d:=d) (ty:=ty) (pos:=pos) (af:=af) (g:=g) hc hz hsz hby h63 (Nat.le_refl n) w ρ (hρ x _ hx).sc_inv (hρ y _ hy).sc_inv
 unfold j7
 rw [hr]
 have hfl:∀m,(List.replicate m (z.map AV.sc)).flatten=((List.replicate m z).flatten).map AV.sc:=by
  intro m
  induction m with
  | zero=>rfl
  | succ m ih=>rw [List.replicate_succ,List.replicate_succ,List.flatten_cons,List.flatten_cons,List.map_append,ih]
 refine ⟨σ,_,_,cF.le_refl _,.sc _,hw.alloc _ (.box ((List.replicate n (z.map .sc)).flatten) e) ⟨_,rfl,?_,fun u hu=>?_⟩,_,rfl,rfl⟩
 ·rw [hfl]
  refine ⟨by simp,fun i c u hc hu=>?_⟩
  rw [List.getElem?_map,hu] at hc
  simp at hc
  subst hc
  exact .sc u
 ·obtain ⟨q,hq,hu⟩:=List.mem_flatten.1 hu
  rw [List.eq_of_mem_replicate hq] at hu
  exact List.all_eq_true.1 h1 u hu
theorem E3 {e sz by_ n:Nat} {k k':IntKind} {b:Int} {z:List Value} (hc:lw P t e sz by_) (hz:CZ P e z) (hzl:z.length=sz) (hsz:0 < sz) (hx:bE fr x=some (.sc (.int k 0))) (hy:bE fr y=some (.sc (.int k' b))) (hb:b=(n:Int)) (hby:by_ * n≤281474976710656) (h63:n≤9223372036854775807):
  AO P ⟨d,.makeSlice t x y,ty,pos,af,g⟩ fr B L (fun c L'=>∃b,c= .vec (some (b,n)) sz []∧L'=(b,.vec e sz 0 n)::L):=by
 intro σ ρ w hρ hw
 subst hb
 have hr:=ua (n:=0) (d:=d) (ty:=ty) (pos:=pos) (af:=af) (g:=g) hc hz hsz hby h63 (Nat.zero_le n) w ρ (hρ x _ hx).sc_inv (hρ y _ hy).sc_inv
 unfold j7
 rw [hr]
 refine ⟨σ,_,_,cF.le_refl _,?_,hw.alloc _ (.vec e sz 0 n) ⟨_,rfl,by simp [hzl],Nat.zero_le _,by unfold maxLen;omega⟩,_,rfl,rfl⟩
 exact mA (l:=[]) (xs:=[]) (by simp) dI.nil (by simp) (Nat.zero_le _) (by unfold maxLen;omega) (by simp)
theorem Gg {f:FuncId} {args:Array Operand} {ts:Array TypeId} (hf:bS P f) (ρ:Operand→Value) (hρ:ρ (.func f)= .func (.func f) #[] #[]) (w:World):(execOp ρ ⟨d,.call ⟨.value (.func f),args,ts⟩,ty,pos,af,g⟩).run P w= .ok (.enter f (args.map ρ)) w:=by
 simp [execOp,resolve,hρ,Deferred.ofValue,invoke,hf.enters]
theorem r3 (Lc Lf:AL) {f:FuncId} {args:Array Operand} {ts:Array TypeId} {cs cs':List AV} {Post:AV→AL→Prop} [hf:bS P f] (hv:eP fr args.toList=some cs) (hcs:∀σ vs,dI σ cs vs→dI σ cs' vs) (hL:L.Perm (Lc++Lf)) (h:AC P f cs' Lc Post):
  AO P ⟨d,.call ⟨.value (.func f),args,ts⟩,ty,pos,af,g⟩ fr B L (fun c L'=>∃L1,Post c L1∧L'=L1++Lf):=by
 intro σ ρ w hρ hw0
 have hw:=hw0.perm hL
 unfold j7
 rw [Gg hf ρ (hρ _ _ rfl).sc_inv]
 have e:args.map ρ=(args.toList.map ρ).toArray:=by apply Array.toList_inj.1;simp
 simp only [e]
 refine (h σ w _ (hcs _ _ (fL hρ _ _ hv)) hw.enter).mono fun en w' ⟨v,τ,c,L',h1,h2,h3,h4⟩=>⟨v,h1,τ,c,L'++Lf,h3.grow,h2,hw.leave h3,L',h4,rfl⟩
theorem E1 {f:FuncId} {args:Array Operand} {ts:Array TypeId} {cs:List AV} [hf:bS P f] (hv:eP fr args.toList=some cs) (h:bV P f (cs.map AV.im) u):
  AO P ⟨d,.call ⟨.value (.func f),args,ts⟩,ty,pos,af,g⟩ fr B L (fun c L'=>c=u∧L'=L):=by
 intro σ ρ w hρ hw
 refine (r3 [] L hv (fun σ vs h=>h.im) (Nn _) h σ ρ w hρ hw).mono fun v w' ⟨τ,c,L',h1,h2,h3,L1,h4,h5⟩=>⟨τ,c,L,h1,h2,?_,h4,rfl⟩
 subst h5
 exact h3.sublist (List.sublist_append_right ..)
end
section
variable {P:Program} {r:Option Nat} {ops:Array Oper} {Q:Exit→Act→World→Prop} {nt:Nat} {D:List Deferred} {fr fr':cf} {B:Bs} {L L':AL} {rest:List Oper} {cd:Code}
def lP (nt:Nat) (D:List Deferred) (B:Bs) (fr:cf) (L:AL) (fr':cf) (L':AL):Prop:=∀σ a w,k6 σ nt D fr a→dw B σ L w→∃τ,k6 τ nt D fr' a∧dw B τ L' w
theorem aL (h:lP nt D B fr L fr' L') (k:bP P r ops Q nt D rest fr' B L'):bP P r ops Q nt D rest fr B L:=fun σ a w ha hw=>by
 obtain ⟨τ,h1,h2⟩:=h σ a w ha hw
 exact k τ a w h1 h2
theorem bU (h:lP nt D B fr L fr' L') (k:AT P r cd Q nt D fr' B L'):AT P r cd Q nt D fr B L:=fun σ a w ha hw=>by
 obtain ⟨τ,h1,h2⟩:=h σ a w ha hw
 exact k τ a w h1 h2
theorem bf {e:Exit} (h:lP nt D B fr L fr' L') (k:AX P e Q nt D fr' B L'):AX P e Q nt D fr B L:=fun σ a w ha hw=>by
 obtain ⟨τ,h1,h2⟩:=h σ a w ha hw
 exact k τ a w h1 h2
theorem bH {t:Nat} {c c':AV} (hl:cB fr t=some c) (h:∀σ v,VR σ c v→VR σ c' v):lP nt D B fr L ((t,c')::fr) L:=fun σ a w ha hw=>⟨σ,⟨ha.size,ha.defers,fun t' v' hl'=>by
  rw [cJ] at hl'
  by_cases e:t=t'
  ·subst e;simp only [if_true,Option.some.injEq] at hl';subst hl';exact h _ _ (ha.look t c hl)
  ·rw [if_neg e] at hl';exact ha.look t' v' hl'⟩,hw⟩
theorem cW {σ:cF} {v:Value} (sz:Nat) (h:VR σ (.sc (.slice none 0 0)) v):VR σ (.vec none sz []) v:=by
 rw [h.sc_inv];exact .vecN sz
theorem jm {σ:cF} {v:Value} (sz:Nat) (h:VR σ (.sc (.slice none 0 0)) v):VR σ (.imm sz []) v:=(cW sz h).im
theorem xA {t b e sz n:Nat} {cs:List AV} {l:List (List AV)} (i:Nat) (hl:cB fr t=some (.sc (.slice (some ⟨b,0,none⟩) n n))) (hL:L[i]?=some (b,.box cs e)) (hc:cs=l.flatten) (hs:∀q∈l,q.length=sz) (hn:l.length=n) (h63:n≤9223372036854775807):lP nt D B fr L ((t,.vec (some (b,n)) sz l)::fr) ((b,.vec e sz n n)::L.eraseIdx i):=by
 intro σ a w ha hw0
 have hw:=hw0.perm (fq hL)
 obtain ⟨o,ho,vs,rfl,hvs,h1⟩:=hw.here _ (List.mem_cons_self ..)
 have hfree:=hw.free _ (List.mem_cons_self ..)
 have hvl:vs.length=n * sz:=by rw [←hvs.1,hc,fP l hs,hn]
 have hst:dw B σ ((b,.vec e sz 0 n)::L.eraseIdx i) w:=by
  refine ⟨hw.os,hw.tape,hw.output,hw.size,hw.old,fun p hp=>?_,fun p hp=>?_,by simpa using hw.apart,hw.froz,fun p hp off hm=>?_,hw.grow,hw.same⟩
  ·rcases List.mem_cons.1 hp with rfl | hp'
   ·exact ⟨_,ho,_,rfl,by simp [hvl],Nat.zero_le _,by unfold maxLen;omega⟩
   ·exact hw.here p (Nt _ hp')
  ·rcases List.mem_cons.1 hp with rfl | hp'
   ·exact hw.mine (b,.box cs e) (List.mem_cons_self ..)
   ·exact hw.mine p (Nt _ hp')
  ·rcases List.mem_cons.1 hp with rfl | hp'
   ·exact hfree off trivial
   ·exact hw.free p (Nt _ hp') off hm
 obtain ⟨hst',hle⟩:=hst.freezeHead (n':=n) (xs:=vs) (fun j u hj=>by rw [dc ho];simpa using hj) hvl (Nat.zero_le _) (Nat.le_refl _)
 refine ⟨_,?_,hst'⟩
 have hv:VR (σ.add b vs) (.vec (some (b,n)) sz l) (.slice (some ⟨b,0,none⟩) n n):=by
  have:=mA (σ:=σ.add b vs) (b:=b) (cap:=n) hs (by rw [←hc];exact hvs.mono hle) h1 (by omega) (by unfold maxLen;omega) (fun j u hj=>cF.add_at hj)
  rwa [hn] at this
 have ha':=ha.mono hle
 refine ⟨ha'.size,ha'.defers,fun t' v' hl'=>?_⟩
 rw [cJ] at hl'
 by_cases e:t=t'
 ·subst e
  simp only [if_true,Option.some.injEq] at hl'
  subst hl'
  rw [(ha.look t _ hl).sc_inv]
  exact hv
 ·rw [if_neg e] at hl'
  exact ha'.look t' v' hl'
end
inductive Ak where
 | v | l | k | e | f | a
def Ak.isF:Ak→Bool | .e=>true | .a=>true | .f=>true | _=>false
inductive M4 where
 | cell (q:Nat×Nat×AV)
 | blk (b:Nat) (x:AB)
abbrev KpL:=List M4
def M4.ok:M4→AL→Prop
 | .cell q,L=>∃cs e,(q.1,AB.box cs e)∈L∧cs[q.2.1]?=some q.2.2
 | .blk b x,L=>(b,x)∈L
structure jR where
 fin:cf→AL→Prop
 gs:KpL:=[]
def fm (gs:KpL) (L:AL):Prop:=∀q∈gs,q.ok L
theorem wI {gs:KpL} {L:AL} (h:fm gs L) (X:AL):fm gs (X++L):=fun q hq=>by
 have k:=h q hq
 cases q with
 | cell q=>
  obtain ⟨cs,e,h1,h2⟩:=k
  exact show ∃cs e,(q.1,AB.box cs e)∈X++L∧cs[q.2.1]?=some q.2.2 from ⟨cs,e,List.mem_append_right _ h1,h2⟩
 | blk b x=>exact show (b,x)∈X++L from List.mem_append_right _ k
abbrev n7:=List (Nat×Ak)
inductive PlA:Type 1 where
 | fin
 | val (k:Nat) (u:AV) (nx:PlA)
 | eff (k:Nat) (R:AV→AL→Prop) (nx:AV→AL→PlA)
def rc (acc:cf) (i:Nat):AV:=(cB acc i).getD (.sc undef)
theorem s5 (k:Nat) (u:AV) (acc:cf) (i:Nat):rc ((k,u)::acc) i=if k=i then u else rc acc i:=by
 unfold rc
 rw [cJ]
 split <;> rfl
def cK (ops:Array Oper) (acc fr:cf):List Edge→cf
 | []=>fr
 | e::r=>bif Region.binds .any e then (match eT ops e.on with
  | some t=>(match cB acc e.on with
   | some v=>(t,v)::cK ops acc fr r
   | none=>(t,.sc undef)::cK ops acc fr r)
  | none=>cK ops acc fr r) else cK ops acc fr r
theorem uM {ops:Array Oper} {acc fr:cf} {ε:Nat→Value} {frC:Fr} {τ:cF} (hf:∀t c,cB fr t=some c→∃v,fG frC t=some v∧VR τ c v):∀(es:List Edge),(∀e∈es,Region.binds .any e=true→VR τ (rc acc e.on) (ε e.on))→∀t c,cB (cK ops acc fr es) t=some c→∃v,fG (ra ops ε frC es) t=some v∧VR τ c v
 | [],_,t,c,h=>hf t c h
 | e::r,he,t,c,h=>by
  have ih:=uM (ops:=ops) (acc:=acc) (ε:=ε) hf r (fun e' h'=>he e' (Nt _ h')) t c
  simp only [cK,ra] at h ⊢
  cases hb:Region.binds .any e with
  | false=>rw [hb] at h;simp only [cond_false] at h ⊢;exact ih h
  | true=>
   rw [hb] at h
   simp only [cond_true] at h ⊢
   have hv:=he e (List.mem_cons_self ..) hb
   cases hd:eT ops e.on with
   | none=>rw [hd] at h;exact ih h
   | some t'=>
    rw [hd] at h
    have key:∀u,rc acc e.on=u→cB ((t',u)::cK ops acc fr r) t=some c→∃v,fG ((t',ε e.on)::ra ops ε frC r) t=some v∧VR τ c v:=by
     intro u hu h
     rw [cJ] at h
     rw [jB]
     by_cases e1:t'=t
     ·rw [if_pos e1] at h ⊢
      injection h with h
      exact ⟨_,rfl,by rw [←h,←hu];exact hv⟩
     ·rw [if_neg e1] at h ⊢
      exact ih h
    simp only at h ⊢
    cases ha:cB acc e.on with
    | none=>rw [ha] at h;exact key _ (by simp [rc,ha]) h
    | some u=>rw [ha] at h;exact key _ (by simp [rc,ha]) h
section
variable (P:Program) (l:List Oper) (fr:cf) (fin:jR)
def Bj (o:Oper) (acc:cf) (L:AL) (R:AV→AL→Prop):Prop:=match o.guard with
 | none=>∀B,AO P o (cK l.toArray acc fr o.after.toList) B L R
 | some (j,want)=>(rc acc j= .sc (.bool want)∧∀B,AO P o (cK l.toArray acc fr o.after.toList) B L R)∨((∃v,rc acc j= .sc v∧v≠ .bool want)∧R (.sc undef) L)
def dh:PlA→n7→cf→AL→Prop
 | .fin,sk,acc,L=>sk=[]∧fin.fin acc L
 | .val k u nx,sk,acc,L=>∃s r o,sk=(k,s)::r∧l[k]?=some o∧((s= .v∧∀L,Bj P l fr o acc L (fun c L'=>c=u∧L'=L))∨(s= .l∧Bj P l fr o acc L (fun c L'=>c=u∧L'=L))∨(s= .k∧fm fin.gs L∧∀L,fm fin.gs L→Bj P l fr o acc L (fun c L'=>c=u∧L'=L)))∧dh nx r ((k,u)::acc) L
 | .eff k R nx,sk,acc,L=>∃s r o,(s= .e∨(s= .a∧∀c L',R c L'→∃X,L'=X++L)∨(s= .f∧∀c L',R c L'→fm fin.gs L→fm fin.gs L'))∧sk=(k,s)::r∧l[k]?=some o∧Bj P l fr o acc L R∧∀c L',R c L'→dh (nx c L') r ((k,c)::acc) L'
end
def kR (τ:cF) (S:Nat→Bool) (ε:Nat→Value):PlA→AL→AL→Prop
 | .fin,L,Lc=>Lc=L
 | .val k u nx,L,Lc=>(S k=true→VR τ u (ε k))∧kR τ S ε nx L Lc
 | .eff k R nx,L,Lc=>(S k=true∧∃c L',R c L'∧VR τ c (ε k)∧kR τ S ε (nx c L') L' Lc)∨(S k=false∧Lc=L)
def Ak.isE:Ak→Bool | .e=>true | .f=>true | _=>false
def Ak.isX:Ak→Bool | .e=>true | _=>false
def qc (l:List Oper):List Nat→n7→Bool
 | _,[]=>true
 | dn,(k,s)::r=>(match l[k]? with | some o=>Eg dn o.after.toList | none=>false) && !dn.any (Nat.beq k) && !r.any (fun p=>Nat.beq k p.1) && (match s with | .v=>true | .l=>r.all (fun p=> !p.2.isE || dW l.toArray 8 p.1 k) | .k=>r.all (fun p=> !p.2.isX || dW l.toArray 8 p.1 k) | .f=>(r.all fun p=>dW l.toArray 8 p.1 k) | .e=>(r.all fun p=>dW l.toArray 8 p.1 k) | .a=>r.all fun p=>dW l.toArray 8 p.1 k) && qc l (k::dn) r
section
variable {P:Program} {l:List Oper} {fr:cf} {fin:jR} {B:Bs} {τ τ':cF} {S S':Nat→Bool} {ε ε':Nat→Value} {La:AL} {w:World}
theorem ny {dn:List Nat} {k:Nat} {s:Ak} {r:n7} (h:qc l dn ((k,s)::r)=true):(∀o,l[k]?=some o→∀e∈o.after,Region.binds .any e=true→e.on∈dn)∧k∉dn∧(∀p∈r,p.1≠k)∧(s.isF=true→∀p∈r,dW l.toArray 8 p.1 k=true)∧(∀p∈r,(s= .l→p.2.isE=true→dW l.toArray 8 p.1 k=true)∧(s= .k→p.2= .e→dW l.toArray 8 p.1 k=true))∧qc l (k::dn) r=true:=by
 simp only [qc,Bool.and_eq_true] at h
 obtain ⟨⟨⟨⟨h1,h0⟩,h2⟩,h3⟩,h4⟩:=h
 refine ⟨fun o ho e he hb=>?_,fun hm=>?_,fun p hp e=>?_,fun hs p hp=>?_,fun p hp=>⟨fun hs he=>?_,fun hs he=>?_⟩,h4⟩
 ·rw [ho] at h1
  simp only [Eg,List.all_eq_true] at h1
  have:=h1 e (by simpa using he)
  rw [hb] at this
  simp only [Bool.not_true,Bool.false_or,List.any_eq_true] at this
  obtain ⟨x,hx,hxe⟩:=this
  rw [Nat.beq_eq] at hxe
  rw [hxe];exact hx
 ·have:dn.any (Nat.beq k)=true:=List.any_eq_true.2 ⟨k,hm,by rw [Nat.beq_eq]⟩
  rw [this] at h0
  cases h0
 ·have:(r.any fun p=>Nat.beq k p.1)=true:=List.any_eq_true.2 ⟨p,hp,by rw [Nat.beq_eq];exact e.symm⟩
  rw [this] at h2
  cases h2
 ·cases s with
  | e=>exact List.all_eq_true.1 h3 p hp
  | a=>exact List.all_eq_true.1 h3 p hp
  | f=>exact List.all_eq_true.1 h3 p hp
  | _=>cases hs
 ·subst hs
  have:=List.all_eq_true.1 h3 p hp
  rw [he] at this
  simpa using this
 ·subst hs
  have:=List.all_eq_true.1 h3 p hp
  rw [he] at this
  simpa [Ak.isX] using this
theorem kR.mono (hle:τ.le τ'):∀(pl:PlA) (L Lc:AL),kR τ S ε pl L Lc→kR τ' S ε pl L Lc
 | .fin,L,Lc,h=>h
 | .val k u nx,L,Lc,h=>⟨fun hs=>(h.1 hs).mono hle,kR.mono hle nx L Lc h.2⟩
 | .eff k R nx,L,Lc,h=>by
  rcases h with ⟨h1,c,L',h2,h3,h4⟩ | h
  ·exact .inl ⟨h1,c,L',h2,h3.mono hle,kR.mono hle _ _ _ h4⟩
  ·exact .inr h
theorem kR.congr:∀(pl:PlA) (sk:n7) (acc:cf) (L Lc:AL),dh P l fr fin pl sk acc L→(∀p∈sk,S' p.1=S p.1∧ε' p.1=ε p.1)→kR τ S ε pl L Lc→kR τ S' ε' pl L Lc
 | .fin,sk,acc,L,Lc,_,_,h=>h
 | .val k u nx,sk,acc,L,Lc,ho,hc,h=>by
  obtain ⟨s,r,o,rfl,_,_,hn⟩:=ho
  have hk:=hc (k,s) (List.mem_cons_self ..)
  refine ⟨fun hs=>?_,kR.congr nx r _ L Lc hn (fun p hp=>hc p (Nt _ hp)) h.2⟩
  rw [hk.1] at hs
  rw [hk.2]
  exact h.1 hs
 | .eff k R nx,sk,acc,L,Lc,ho,hc,h=>by
  obtain ⟨s0,r,o,_,rfl,_,_,hn⟩:=ho
  have hk:=hc (k,s0) (List.mem_cons_self ..)
  rcases h with ⟨h1,c,L',h2,h3,h4⟩ | ⟨h1,h2⟩
  ·refine .inl ⟨by rw [hk.1];exact h1,c,L',h2,by rw [hk.2];exact h3,kR.congr _ r _ _ Lc (hn c L' h2) (fun p hp=>hc p (Nt _ hp)) h4⟩
  ·exact .inr ⟨by rw [hk.1];exact h1,h2⟩
theorem kR.fresh:∀(pl:PlA) (sk:n7) (acc:cf) (L:AL),dh P l fr fin pl sk acc L→(∀p∈sk,S p.1=false)→kR τ S ε pl L L
 | .fin,sk,acc,L,_,_=>rfl
 | .val k u nx,sk,acc,L,ho,hc=>by
  obtain ⟨s,r,o,rfl,_,_,hn⟩:=ho
  exact ⟨fun hs=>(by rw [hc (k,s) (List.mem_cons_self ..)] at hs;cases hs),kR.fresh nx r _ L hn fun p hp=>hc p (Nt _ hp)⟩
 | .eff k R nx,sk,acc,L,ho,hc=>by
  obtain ⟨s0,r,o,_,rfl,_,_,hn⟩:=ho
  exact .inr ⟨hc (k,s0) (List.mem_cons_self ..),rfl⟩
theorem kR.noEff:∀(pl:PlA) (sk:n7) (acc:cf) (L Lc:AL),dh P l fr fin pl sk acc L→(∀p∈sk,p.2.isE=true→S p.1=false)→kR τ S ε pl L Lc→∃X,Lc=X++L
 | .fin,sk,acc,L,Lc,_,_,h=>⟨[],h⟩
 | .val k u nx,sk,acc,L,Lc,ho,hc,h=>by
  obtain ⟨s,r,o,rfl,_,_,hn⟩:=ho
  exact kR.noEff nx r _ L Lc hn (fun p hp=>hc p (Nt _ hp)) h.2
 | .eff k R nx,sk,acc,L,Lc,ho,hc,h=>by
  obtain ⟨s0,r,o,hs0,rfl,_,_,hn⟩:=ho
  rcases h with ⟨h1,c,L',hR,_,h4⟩ | ⟨h1,h2⟩
  ·rcases hs0 with rfl | ⟨rfl,hX⟩ | ⟨rfl,_⟩
   ·rw [hc (k,.e) (List.mem_cons_self ..) rfl] at h1;cases h1
   rotate_left
   ·rw [hc (k,.f) (List.mem_cons_self ..) rfl] at h1;cases h1
   ·obtain ⟨X0,rfl⟩:=hX c L' hR
    obtain ⟨X1,rfl⟩:=kR.noEff (nx c (X0++L)) r _ (X0++L) Lc (hn c _ hR) (fun p hp=>hc p (Nt _ hp)) h4
    exact ⟨X1++X0,by rw [List.append_assoc]⟩
  ·exact ⟨[],h2⟩
theorem kR.keep:∀(pl:PlA) (sk:n7) (acc:cf) (L Lc:AL),dh P l fr fin pl sk acc L→(∀p∈sk,p.2= .e→S p.1=false)→fm fin.gs L→kR τ S ε pl L Lc→fm fin.gs Lc
 | .fin,sk,acc,L,Lc,_,_,hk,h=>by
  have:Lc=L:=h
  rw [this];exact hk
 | .val k u nx,sk,acc,L,Lc,ho,hc,hk,h=>by
  obtain ⟨s,r,o,rfl,_,_,hn⟩:=ho
  exact kR.keep nx r _ L Lc hn (fun p hp=>hc p (Nt _ hp)) hk h.2
 | .eff k R nx,sk,acc,L,Lc,ho,hc,hk,h=>by
  obtain ⟨s0,r,o,hs0,rfl,_,_,hn⟩:=ho
  rcases h with ⟨h1,c,L',hR,_,h4⟩ | ⟨h1,h2⟩
  ·refine kR.keep (nx c L') r _ L' Lc (hn c _ hR) (fun p hp=>hc p (Nt _ hp)) ?_ h4
   rcases hs0 with rfl | ⟨rfl,hX⟩ | ⟨rfl,hK⟩
   ·rw [hc (k,.e) (List.mem_cons_self ..) rfl] at h1;cases h1
   ·obtain ⟨X0,rfl⟩:=hX c L' hR
    exact wI hk X0
   ·exact hK c L' hR hk
  ·rw [h2];exact hk
theorem AO.frame {o:Oper} {L Lf:AL} {R:AV→AL→Prop} (h:∀B,AO P o fr B L R) (B:Bs):AO P o fr B (L++Lf) (fun c L''=>∃L',R c L'∧L''=L'++Lf):=by
 intro σ ρ w hρ hw
 refine (h _ σ ρ w hρ hw.enter).mono fun v w' ⟨τ,c,L',h1,h2,h3,h4⟩=>⟨τ,c,L'++Lf,h1,h2,hw.leave h3,L',h4,rfl⟩
theorem AO.ext {fr:cf} {u:AV} {o:Oper} {L:AL} (h:∀B,AO P o fr B L (fun c L'=>c=u∧L'=L)) (X:AL) (B:Bs):AO P o fr B (X++L) (fun c L'=>c=u∧L'=X++L):=by
 intro σ ρ w hρ hw
 refine (AO.frame (Lf:=X) h B σ ρ w hρ (hw.perm List.perm_append_comm)).mono fun v w' ⟨τ,c,L2,h1,h2,h3,L',⟨h4,h5⟩,h6⟩=>⟨τ,c,X++L,h1,h2,?_,h4,rfl⟩
 subst h6;subst h5
 exact h3.perm List.perm_append_comm
theorem Bj.ext {acc:cf} {u:AV} {o:Oper} {L:AL} (h:Bj P l fr o acc L (fun c L'=>c=u∧L'=L)) (X:AL):Bj P l fr o acc (X++L) (fun c L'=>c=u∧L'=X++L):=by
 unfold Bj at h ⊢
 split at h
 ·intro B;exact AO.ext h X B
 ·rcases h with ⟨h1,h2⟩ | ⟨h1,h2⟩
  ·exact .inl ⟨h1,fun B=>AO.ext h2 X B⟩
  ·exact .inr ⟨h1,h2.1,rfl⟩
theorem sM {frC:Fr} {k:Nat} {o:Oper} {ρ:Operand→Value} (okG:kE l.toArray l=true) (hk:l[k]?=some o) (hc:pg l.toArray S) (hSk:S k=false) (hd:∀e∈o.after,Region.binds .any e=true→S e.on=true)
  (hf:∀t c,cB fr t=some c→∃v,fG frC t=some v∧VR τ c v) (hρ:∀x v,Dt (ra l.toArray ε frC o.after.toList) x=some v→ρ x=v):
  ∀(pl:PlA) (sk:n7) (dn:List Nat) (acc:cf) (L Lc:AL),dh P l fr fin pl sk acc L→qc l dn sk=true→(∀j∈dn,S j=true→VR τ (rc acc j) (ε j))→(∃s,(k,s)∈sk)→kR τ S ε pl L Lc→dw B τ (Lc++La) w→
  Cn o ε (j7 P o ρ w fun v w'=>∃τ' Lc',τ.le τ'∧kR τ' (mark S k) (pX ε k v) pl L Lc'∧dw B τ' (Lc'++La) w') (∃Lc',kR τ (mark S k) (pX ε k undef) pl L Lc'∧dw B τ (Lc'++La) w)
 | .fin,sk,dn,acc,L,Lc,ho,_,_,⟨s,hs⟩,_,_=>by
  obtain ⟨rfl,_⟩:=ho
  simp at hs
 | .val j u nx,sk,dn,acc,L,Lc,ho,hchk,hacc,⟨s,hs⟩,hsh,hst=>by
  obtain ⟨s',r',o',rfl,hj,hv,hn⟩:=ho
  obtain ⟨c1,c0,c2,c3,c3',c4⟩:=ny hchk
  by_cases e:j=k
  ·subst e
   have:o'=o:=by rw [hk] at hj;injection hj with hj;exact hj.symm
   subst this
   have hfr:∀x c,bE (cK l.toArray acc fr o'.after.toList) x=some c→VR τ c (ρ x):=by
    intro x c hx
    cases x with
    | tmp t=>
     obtain ⟨v,h1,h2⟩:=uM (ops:=l.toArray) (acc:=acc) (ε:=ε) hf o'.after.toList (fun e he hb=>hacc _ (c1 o' hk e (Array.mem_def.2 he) hb) (hd e (Array.mem_def.2 he) hb)) t c hx
     rw [hρ (.tmp t) v h1]
     exact h2
    | const v=>simp only [bE,Option.some.injEq] at hx;subst hx;rw [hρ (.const v) v rfl];exact .sc _
    | global g=>simp only [bE,Option.some.injEq] at hx;subst hx;rw [hρ (.global g) _ rfl];exact .sc _
    | func f=>simp only [bE,Option.some.injEq] at hx;subst hx;rw [hρ (.func f) _ rfl];exact .sc _
   have hnew:∀v,kR τ (mark S j) (pX ε j v) nx L Lc:=fun v=>kR.congr nx r' _ L Lc hn (fun p hp=>by
    have:=c2 p hp
    simp [mark,pX,this]) hsh.2
   have hO:(∀B,AO P o' (cK l.toArray acc fr o'.after.toList) B Lc (fun c L'=>c=u∧L'=Lc))→j7 P o' ρ w fun v w'=>∃τ' Lc',τ.le τ'∧kR τ' (mark S j) (pX ε j v) (.val j u nx) L Lc'∧dw B τ' (Lc'++La) w':=by
    intro hO
    refine (AO.frame hO B τ ρ w hfr hst).mono ?_
    rintro v w' ⟨τ',c,L2,hle,hvr,hst',L',⟨rfl,rfl⟩,rfl⟩
    exact ⟨τ',_,hle,⟨fun _=>by simpa [pX] using hvr,(hnew v).mono hle⟩,hst'⟩
   have hL:s'= .l→∃X,Lc=X++L:=fun hs'=>kR.noEff nx r' _ L Lc hn (fun p hp he=>by
    cases hS:S p.1 with
    | false=>rfl
    | true=>
     have:=fU hc _ _ _ ((c3' p hp).1 hs' he) hS
     rw [hSk] at this
     cases this) hsh.2
   have hv':Bj P l fr o' acc Lc (fun c L'=>c=u∧L'=Lc):=by
    rcases hv with ⟨_,h⟩ | ⟨hs',h⟩ | ⟨hs',hk1,h⟩
    ·exact h Lc
    ·obtain ⟨X,rfl⟩:=hL hs';exact h.ext X
    ·refine h Lc (kR.keep nx r' _ L Lc hn (fun p hp he=>?_) hk1 hsh.2)
     cases hS:S p.1 with
     | false=>rfl
     | true=>
      have:=fU hc _ _ _ ((c3' p hp).2 hs' he) hS
      rw [hSk] at this
      cases this
   unfold Bj at hv'
   unfold Cn
   cases hg:o'.guard with
   | none=>rw [hg] at hv';exact hO hv'
   | some q=>
    obtain ⟨g,want⟩:=q
    rw [hg] at hv'
    obtain ⟨hej,_⟩:=iH l.toArray l okG j o' g want hk hg
    obtain ⟨e,he,hb,hei⟩:=kZ.1 hej
    have hgv:VR τ (rc acc g) (ε g):=by rw [←hei];exact hacc _ (c1 o' hk e he hb) (hd e he hb)
    simp only at hv' ⊢
    rcases hv' with ⟨hy,hO'⟩ | ⟨⟨v,hy,hne⟩,hu,_⟩
    ·rw [hy] at hgv
     rw [hgv.sc_inv]
     exact ⟨fun _=>hO hO',fun h=>absurd rfl h⟩
    ·rw [hy] at hgv
     rw [hgv.sc_inv]
     refine ⟨fun h=>absurd h hne,fun _=>⟨Lc,⟨fun _=>?_,hnew undef⟩,hst⟩⟩
     rw [←hu]
     simpa [pX] using VR.sc (σ:=τ) undef
  ·have hmem:(k,s)∈r':=by
    rcases List.mem_cons.1 hs with h | h
    ·injection h with h _;exact absurd h.symm e
    ·exact h
   refine (sM okG hk hc hSk hd hf hρ nx r' (j::dn) ((j,u)::acc) L Lc hn c4 ?_ ⟨s,hmem⟩ hsh.2 hst).mono ?_ ?_
   ·intro i hi hSi
    rw [s5]
    by_cases hji:j=i
    ·subst hji;rw [if_pos rfl];exact hsh.1 hSi
    ·rw [if_neg hji]
     rcases List.mem_cons.1 hi with rfl | hi
     ·exact absurd rfl hji
     ·exact hacc i hi hSi
   ·intro h
    refine h.mono fun v w' ⟨τ',Lc',hle,h1,h2⟩=>⟨τ',Lc',hle,⟨fun hm=>?_,h1⟩,h2⟩
    simp only [pX,if_neg e]
    exact (hsh.1 (by simpa [mark,e] using hm)).mono hle
   ·rintro ⟨Lc',h1,h2⟩
    refine ⟨Lc',⟨fun hm=>?_,h1⟩,h2⟩
    simp only [pX,if_neg e]
    exact hsh.1 (by simpa [mark,e] using hm)
 | .eff j R nx,sk,dn,acc,L,Lc,ho,hchk,hacc,⟨s,hs⟩,hsh,hst=>by
  obtain ⟨s0,r',o',hs0,rfl,hj,hv,hn⟩:=ho
  obtain ⟨c1,c0,c2,c3,c3',c4⟩:=ny hchk
  have hF:s0.isF=true:=by rcases hs0 with rfl | ⟨rfl,_⟩ | ⟨rfl,_⟩ <;> rfl
  by_cases e:j=k
  ·subst e
   have:o'=o:=by rw [hk] at hj;injection hj with hj;exact hj.symm
   subst this
   have hfr:∀x c,bE (cK l.toArray acc fr o'.after.toList) x=some c→VR τ c (ρ x):=by
    intro x c hx
    cases x with
    | tmp t=>
     obtain ⟨v,h1,h2⟩:=uM (ops:=l.toArray) (acc:=acc) (ε:=ε) hf o'.after.toList (fun e he hb=>hacc _ (c1 o' hk e (Array.mem_def.2 he) hb) (hd e (Array.mem_def.2 he) hb)) t c hx
     rw [hρ (.tmp t) v h1]
     exact h2
    | const v=>simp only [bE,Option.some.injEq] at hx;subst hx;rw [hρ (.const v) v rfl];exact .sc _
    | global g=>simp only [bE,Option.some.injEq] at hx;subst hx;rw [hρ (.global g) _ rfl];exact .sc _
    | func f=>simp only [bE,Option.some.injEq] at hx;subst hx;rw [hρ (.func f) _ rfl];exact .sc _
   have hLc:Lc=L:=by
    rcases hsh with ⟨h1,_⟩ | ⟨_,h2⟩
    ·rw [hSk] at h1;cases h1
    ·exact h2
   subst hLc
   have hnone:∀p∈r',mark S j p.1=false:=fun p hp=>by
    have h1:=c2 p hp
    cases hS:S p.1 with
    | false=>simp [mark,h1,hS]
    | true=>
     have:=fU hc _ _ _ (c3 hF p hp) hS
     rw [hSk] at this
     cases this
   have hO:(∀B,AO P o' (cK l.toArray acc fr o'.after.toList) B Lc R)→j7 P o' ρ w fun v w'=>∃τ' Lc',τ.le τ'∧kR τ' (mark S j) (pX ε j v) (.eff j R nx) Lc Lc'∧dw B τ' (Lc'++La) w':=by
    intro hO
    refine (AO.frame hO B τ ρ w hfr hst).mono ?_
    rintro v w' ⟨τ',c,L2,hle,hvr,hst',L',hR,rfl⟩
    exact ⟨τ',L',hle,.inl ⟨by simp [mark],c,L',hR,by simpa [pX] using hvr,kR.fresh _ r' _ L' (hn c L' hR) hnone⟩,hst'⟩
   unfold Bj at hv
   unfold Cn
   cases hg:o'.guard with
   | none=>rw [hg] at hv;exact hO hv
   | some q=>
    obtain ⟨g,want⟩:=q
    rw [hg] at hv
    obtain ⟨hej,_⟩:=iH l.toArray l okG j o' g want hk hg
    obtain ⟨e,he,hb,hei⟩:=kZ.1 hej
    have hgv:VR τ (rc acc g) (ε g):=by rw [←hei];exact hacc _ (c1 o' hk e he hb) (hd e he hb)
    simp only at hv ⊢
    rcases hv with ⟨hy,hO'⟩ | ⟨⟨v,hy,hne⟩,hR⟩
    ·rw [hy] at hgv
     rw [hgv.sc_inv]
     exact ⟨fun _=>hO hO',fun h=>absurd rfl h⟩
    ·rw [hy] at hgv
     rw [hgv.sc_inv]
     refine ⟨fun h=>absurd h hne,fun _=>⟨Lc,.inl ⟨by simp [mark],.sc undef,Lc,hR,by simpa [pX] using VR.sc (σ:=τ) undef,kR.fresh _ r' _ Lc (hn _ _ hR) hnone⟩,hst⟩⟩
  ·have hmem:(k,s)∈r':=by
    rcases List.mem_cons.1 hs with h | h
    ·injection h with h _;exact absurd h.symm e
    ·exact h
   have hSj:S j=true:=by
    have hr:=c3 hF (k,s) hmem
    have:∀(n i:Nat),dW l.toArray n i j=true→(∀o,l[i]?=some o→∀e∈o.after,Region.binds .any e=true→S e.on=true)→S j=true:=by
     intro n i h hd'
     cases n with
     | zero=>simp [dW] at h
     | succ n=>
      simp only [dW] at h
      split at h
      ·cases h
      ·rename_i oi hoi
       rw [List.any_eq_true] at h
       obtain ⟨ed,hed,h⟩:=h
       simp only [Bool.and_eq_true,Bool.or_eq_true,Nat.beq_eq] at h
       have hse:=hd' oi (by simpa using hoi) ed (Array.mem_def.2 hed) h.1
       rcases h.2 with h2 | h2
       ·rw [←h2];exact hse
       ·exact fU hc n _ _ h2 hse
    exact this _ _ hr fun o' ho'=>by
     have:o'=o:=by rw [hk] at ho';injection ho' with h;exact h.symm
     subst this
     exact hd
   rcases hsh with ⟨h1,c,L',hR,hvr,h4⟩ | ⟨h1,_⟩
   ·refine (sM okG hk hc hSk hd hf hρ (nx c L') r' (j::dn) ((j,c)::acc) L' Lc (hn c L' hR) c4 ?_ ⟨s,hmem⟩ h4 hst).mono ?_ ?_
    ·intro i hi hSi
     rw [s5]
     by_cases hji:j=i
     ·subst hji;rw [if_pos rfl];exact hvr
     ·rw [if_neg hji]
      rcases List.mem_cons.1 hi with rfl | hi
      ·exact absurd rfl hji
      ·exact hacc i hi hSi
    ·intro h
     refine h.mono fun v w' ⟨τ',Lc',hle,h5,h6⟩=>⟨τ',Lc',hle,.inl ⟨by simp [mark,hSj],c,L',hR,?_,h5⟩,h6⟩
     simp only [pX,if_neg e]
     exact hvr.mono hle
    ·rintro ⟨Lc',h5,h6⟩
     refine ⟨Lc',.inl ⟨by simp [mark,hSj],c,L',hR,?_,h5⟩,h6⟩
     simp only [pX,if_neg e]
     exact hvr
   ·rw [hSj] at h1;cases h1
theorem vu:∀(pl:PlA) (sk:n7) (acc:cf) (L Lc:AL),dh P l fr fin pl sk acc L→(∀p∈sk,S p.1=true)→(∀p∈sk,∀q,cB acc p.1≠some q)→(sk.map (·.1)).Nodup→kR τ S ε pl L Lc→∃acc',fin.fin acc' Lc∧(∀p∈sk,VR τ (rc acc' p.1) (ε p.1))∧∀i,(∀p∈sk,p.1≠i)→cB acc' i=cB acc i
 | .fin,sk,acc,L,Lc,ho,_,_,_,h=>by
  obtain ⟨rfl,hf⟩:=ho
  have:Lc=L:=h
  subst this
  exact ⟨acc,hf,by simp,fun _ _=>rfl⟩
 | .val k u nx,sk,acc,L,Lc,ho,hS,hn',hnd,h=>by
  obtain ⟨s,r,o,rfl,_,_,hn⟩:=ho
  simp only [Nq,List.nodup_cons] at hnd
  have hne:∀p∈r,p.1≠k:=fun p hp e=>hnd.1 (by rw [←e];exact List.mem_map_of_mem hp)
  obtain ⟨acc',h1,h2,h3⟩:=vu nx r ((k,u)::acc) L Lc hn (fun p hp=>hS p (Nt _ hp)) (fun p hp q=>by rw [cJ,if_neg (hne p hp).symm];exact hn' p (Nt _ hp) q) hnd.2 h.2
  refine ⟨acc',h1,fun p hp=>?_,fun i hi=>?_⟩
  ·rcases List.mem_cons.1 hp with rfl | hp
   ·have:=h3 k hne
    rw [rc,this,cJ,if_pos rfl]
    exact h.1 (hS (k,s) (List.mem_cons_self ..))
   ·exact h2 p hp
  ·rw [h3 i (fun p hp=>hi p (Nt _ hp)),cJ,if_neg (hi (k,s) (List.mem_cons_self ..))]
 | .eff k R nx,sk,acc,L,Lc,ho,hS,hn',hnd,h=>by
  obtain ⟨s0,r,o,_,rfl,_,_,hn⟩:=ho
  simp only [Nq,List.nodup_cons] at hnd
  have hne:∀p∈r,p.1≠k:=fun p hp e=>hnd.1 (by rw [←e];exact List.mem_map_of_mem hp)
  rcases h with ⟨_,c,L',hR,hvr,h4⟩ | ⟨h1,_⟩
  ·obtain ⟨acc',h1,h2,h3⟩:=vu (nx c L') r ((k,c)::acc) L' Lc (hn c L' hR) (fun p hp=>hS p (Nt _ hp)) (fun p hp q=>by rw [cJ,if_neg (hne p hp).symm];exact hn' p (Nt _ hp) q) hnd.2 h4
   refine ⟨acc',h1,fun p hp=>?_,fun i hi=>?_⟩
   ·rcases List.mem_cons.1 hp with rfl | hp
    ·have:=h3 k hne
     rw [rc,this,cJ,if_pos rfl]
     exact hvr
    ·exact h2 p hp
   ·rw [h3 i (fun p hp=>hi p (Nt _ hp)),cJ,if_neg (hi (k,s0) (List.mem_cons_self ..))]
  ·rw [hS (k,s0) (List.mem_cons_self ..)] at h1;cases h1
end
def jD (ops:Array Oper) (acc fr:cf):Nat→cf
 | 0=>fr
 | n+1=>match eT ops n with
  | some t=>(match cB acc n with
   | some v=>(t,v)::jD ops acc fr n
   | none=>(t,.sc undef)::jD ops acc fr n)
  | none=>jD ops acc fr n
theorem tL {ops:Array Oper} {acc fr:cf} {ε:Nat→Value} {frC:Fr} {τ:cF} (hf:∀t c,cB fr t=some c→∃v,fG frC t=some v∧VR τ c v):∀(n:Nat),(∀i,i < n→VR τ (rc acc i) (ε i))→∀t c,cB (jD ops acc fr n) t=some c→∃v,fG (ov ops ε frC n) t=some v∧VR τ c v
 | 0,_,t,c,h=>hf t c h
 | n+1,hv,t,c,h=>by
  have ih:=tL (ops:=ops) (acc:=acc) (ε:=ε) hf n (fun i hi=>hv i (by omega)) t c
  simp only [jD,ov] at h ⊢
  cases hd:eT ops n with
  | none=>rw [hd] at h;exact ih h
  | some t'=>
   rw [hd] at h
   have key:∀u,rc acc n=u→cB ((t',u)::jD ops acc fr n) t=some c→∃v,fG ((t',ε n)::ov ops ε frC n) t=some v∧VR τ c v:=by
    intro u hu h
    rw [cJ] at h
    rw [jB]
    by_cases e1:t'=t
    ·rw [if_pos e1] at h ⊢
     injection h with h
     exact ⟨_,rfl,by rw [←h,←hu];exact hv n (by omega)⟩
    ·rw [if_neg e1] at h ⊢
     exact ih h
   simp only at h ⊢
   cases ha:cB acc n with
   | none=>rw [ha] at h;exact key _ (by simp [rc,ha]) h
   | some u=>rw [ha] at h;exact key _ (by simp [rc,ha]) h
def tp (fr:cf) (a:Act):Fr:=fr.map fun p=>(p.1,a.tmps.getD p.1 undef)
theorem rI (fr:cf) (a:Act) (t:Nat):fG (tp fr a) t=(cB fr t).map fun _=>a.tmps.getD t undef:=by
 induction fr with
 | nil=>rfl
 | cons p r ih=>
  obtain ⟨i,u⟩:=p
  show fG ((i,a.tmps.getD i undef)::tp r a) t=_
  rw [jB,cJ]
  by_cases e:i=t
  ·subst e;simp
  ·rw [if_neg e,if_neg e];exact ih
section
variable {P:Program} {r:Option Nat} {Q:Exit→Act→World→Prop} {nt:Nat} {D:List Deferred} {fr:cf} {B:Bs} {l:List Oper}
def ES (P:Program) (r:Option Nat) (l:List Oper) (n0:Nat) (Q:Exit→Act→World→Prop) (nt:Nat) (D:List Deferred) (fr:cf) (B:Bs) (al:Option (Nat×AB)) (acc:cf) (L:AL):Prop:=match al with
 | none=>bP P r l.toArray Q nt D (l.drop n0) (jD l.toArray acc fr n0) B L
 | some (k,ab)=>∀b,bP P r l.toArray Q nt D (l.drop n0) (jD l.toArray ((k,.sc (.pointer (some ⟨b,0,none⟩)))::acc) fr n0) B (L++[(b,ab)])
def Kz (al:Option (Nat×AB)) (S:Nat→Bool) (ε:Nat→Value) (La:AL):Prop:=match al with
 | none=>La=[]
 | some (k,ab)=>∃b,(S k=true→ε k= .pointer (some ⟨b,0,none⟩))∧La=if S k then [(b,ab)] else []
def KZ (P:Program) (l:List Oper) (al:Option (Nat×AB)):Prop:=match al with
 | none=>True
 | some (k,ab)=>∃o,l[k]?=some o∧o.guard=none∧∀fr B L,AO P o fr B L (fun c L'=>∃b,c= .sc (.pointer (some ⟨b,0,none⟩))∧L'=(b,ab)::L)
def qg (al:Option (Nat×AB)):List Nat:=match al with | none=>[] | some (k,_)=>[k]
def uw (n0:Nat) (sk:n7) (ks:List Nat):Bool:=((List.range n0).all fun k=>(sk.any fun p=>Nat.beq k p.1) || ks.any (Nat.beq k)) && (sk.all fun p=>Nat.blt p.1 n0 && !ks.any (Nat.beq p.1)) && ks.all fun k=>Nat.blt k n0
def DA (P:Program) (l:List Oper) (fr:cf) (fin:jR) (sk:n7) (acc:cf) (L:AL):Prop:=∃pl,dh P l fr fin pl sk acc L
theorem qd:∀(sk:n7) (dn:List Nat),qc l dn sk=true→(sk.map (·.1)).Nodup
 | [],_,_=>by simp
 | (k,s)::r,dn,h=>by
  obtain ⟨_,_,c2,_,_,c4⟩:=ny h
  simp only [Nq,List.nodup_cons]
  refine ⟨fun hm=>?_,qd r _ c4⟩
  obtain ⟨p,hp,he⟩:=List.mem_map.1 hm
  exact c2 p hp he
theorem dM {id:Nat} {L:AL} (gs:KpL) (n0:Nat) (sk:n7) (al:Option (Nat×AB)) (h:DA P l fr ⟨ES P r l n0 Q nt D fr B al,gs⟩ sk [] L) (hal:KZ P l al) (hn0:Nat.ble n0 l.length=true) (ht:nW l n0=true) (hck:qc l [] sk=true) (hcv:uw n0 sk (qg al)=true) (hm:P.follows .mixedOrders=true) (ok:kJ l=true) (hs:mU nt l=true):
  AT P r (.region id l.toArray true) Q nt D fr B L:=by
 obtain ⟨pl,hpl⟩:=h
 intro σ a w ha hw
 have hn0':n0≤l.length:=by simpa [Nat.ble_eq] using hn0
 have okG:kE l.toArray l=true:=by
  simp only [kJ,Bool.and_eq_true] at ok
  exact ok.1.2
 simp only [uw,Bool.and_eq_true,List.all_eq_true,List.mem_range,Bool.or_eq_true,List.any_eq_true] at hcv
 obtain ⟨⟨hcv1,hcv2⟩,hcv3⟩:=hcv
 have hlt:∀p∈sk,p.1 < n0:=fun p hp=>by have:=(hcv2 p hp).1;simpa [Nat.blt_eq] using this
 have hnal:∀p∈sk,∀k ab,al=some (k,ab)→p.1≠k:=fun p hp k ab hal e=>by
  have:=(hcv2 p hp).2
  rw [hal] at this
  simp [qg,e] at this
 have hf0:∀(τ:cF),σ.le τ→∀t c,cB fr t=some c→∃v,fG (tp fr a) t=some v∧VR τ c v:=fun τ hle t c hc=>⟨a.tmps.getD t undef,by rw [rI,hc];rfl,(ha.look t c hc).mono hle⟩
 refine Iw (D:=D) (fr:=tp fr a) (I:=fun w'=>w'=w) n0 (J:=fun S ε w'=>∃τ La Lc,σ.le τ∧dw B τ (Lc++La) w'∧kR τ S ε pl L Lc∧Kz al S ε La) hn0' ht hm ok hs ?_ ?_ ?_ a w ?_ rfl
 ·rintro w' n rfl
  refine ⟨σ,[],L,cF.le_refl _,by rw [List.append_nil];exact hw.drew n,kR.fresh pl sk _ L hpl (fun _ _=>rfl),?_⟩
  unfold Kz
  split
  ·rfl
  ·exact ⟨0,by simp,by simp⟩
 ·intro k o hk ho S ε hc hSk hd
  rcases hcv1 k hk with ⟨p,hp,he⟩ | ⟨k',hk',he⟩
  ·rw [Nat.beq_eq] at he
   have hks:∃s,(k,s)∈sk:=⟨p.2,by rw [he];exact hp⟩
   have hal':∀v La,Kz al S ε La→Kz al (mark S k) (pX ε k v) La:=by
    intro v La h
    unfold Kz at *
    split at h
    ·exact h
    ·rename_i k0 ab
     have hne:k0≠k:=fun e=>hnal p hp k0 ab rfl (by rw [←he,e])
     obtain ⟨b,h1,h2⟩:=h
     have m1:mark S k k0=S k0:=by simp [mark,hne]
     have m2:pX ε k v k0=ε k0:=by simp [pX,hne]
     exact ⟨b,by rw [m1,m2];exact h1,by rw [m1];exact h2⟩
   have step:∀(ρ:Operand→Value) (w':World),(∀x v,Dt (ra l.toArray ε (tp fr a) o.after.toList) x=some v→ρ x=v)→∀τ La Lc,σ.le τ→dw B τ (Lc++La) w'→kR τ S ε pl L Lc→_:=fun ρ w' hρ τ La Lc hle hst hsh=>
    sM (B:=B) (La:=La) (w:=w') okG ho hc hSk hd (hf0 τ hle) hρ pl sk [] [] L Lc hpl hck (by simp) hks hsh hst
   unfold Cn at step
   cases hg:o.guard with
   | none=>
    simp only [hg] at step
    intro ρ w' hρ ⟨τ,La,Lc,hle,hst,hsh,hA⟩
    exact (step ρ w' hρ τ La Lc hle hst hsh).mono fun v w'' ⟨τ',Lc',h1,h2,h3⟩=>⟨τ',La,Lc',cF.le_trans hle h1,h3,h2,hal' v La hA⟩
   | some q=>
    obtain ⟨g,want⟩:=q
    simp only [hg] at step
    refine ⟨fun hy ρ w' hρ ⟨τ,La,Lc,hle,hst,hsh,hA⟩=>((step ρ w' hρ τ La Lc hle hst hsh).1 hy).mono fun v w'' ⟨τ',Lc',h1,h2,h3⟩=>⟨τ',La,Lc',cF.le_trans hle h1,h3,h2,hal' v La hA⟩,fun hne w' ⟨τ,La,Lc,hle,hst,hsh,hA⟩=>?_⟩
    classical
    obtain ⟨Lc',h2,h3⟩:=(step (fun x=>(Dt (ra l.toArray ε (tp fr a) o.after.toList) x).getD undef) w' (fun x v hx=>by simp [hx]) τ La Lc hle hst hsh).2 hne
    exact ⟨τ,La,Lc',hle,h3,h2,hal' undef La hA⟩
  ·rw [Nat.beq_eq] at he
   subst he
   cases al with
   | none=>simp [qg] at hk'
   | some q=>
    obtain ⟨k0,ab⟩:=q
    simp only [qg,List.mem_singleton] at hk'
    subst hk'
    obtain ⟨o',ho',hg,hAO⟩:=hal
    have:o'=o:=by rw [ho] at ho';injection ho' with h;exact h.symm
    subst this
    simp only [hg]
    intro ρ w' hρ ⟨τ,La,Lc,hle,hst,hsh,b0,hA1,hA2⟩
    rw [hSk] at hA2
    simp only [Bool.false_eq_true,if_false] at hA2
    subst hA2
    refine (hAO [] B (Lc++[]) τ ρ w' (fun x c hx=>?_) hst).mono ?_
    ·cases x with
     | tmp t=>simp [bE,cB] at hx
     | const v=>simp only [bE,Option.some.injEq] at hx;subst hx;rw [hρ (.const v) v rfl];exact .sc _
     | global g=>simp only [bE,Option.some.injEq] at hx;subst hx;rw [hρ (.global g) _ rfl];exact .sc _
     | func f=>simp only [bE,Option.some.injEq] at hx;subst hx;rw [hρ (.func f) _ rfl];exact .sc _
    ·rintro v w'' ⟨τ',c,L',h1,h2,h3,b,rfl,rfl⟩
     have hv:=h2.sc_inv
     refine ⟨τ',[(b,ab)],Lc,cF.le_trans hle h1,?_,kR.congr pl sk _ L Lc hpl (fun p hp=>?_) (hsh.mono h1),b,fun _=>by simp [pX,hv],by simp [mark]⟩
     ·rw [List.append_nil] at h3
      exact h3.perm (List.perm_append_comm (l₁:=[_]))
     ·have:=hnal p hp _ ab rfl
      simp [mark,pX,this]
 ·intro ε a' w' ha' ⟨τ,La,Lc,hle,hst,hsh,hA⟩
  obtain ⟨acc',hf,hv,hacc⟩:=vu pl sk [] L Lc hpl (fun p hp=>by simpa using hlt p hp) (by simp [cB]) (qd sk [] hck) hsh
  have hag:∀(acc2:cf),(∀i,i < n0→VR τ (rc acc2 i) (ε i))→k6 τ nt D (jD l.toArray acc2 fr n0) a':=fun acc2 hall=>⟨ha'.size,ha'.defers,fun t c hc=>by
   obtain ⟨v,h1,h2⟩:=tL (ops:=l.toArray) (acc:=acc2) (ε:=ε) (hf0 τ hle) n0 hall t c hc
   rw [ha'.look t v h1]
   exact h2⟩
  dsimp only at hf
  unfold ES at hf
  cases al with
  | none=>
   have:La=[]:=hA
   subst this
   rw [List.append_nil] at hst
   refine hf τ a' w' (hag acc' fun i hi=>?_) hst
   rcases hcv1 i hi with ⟨p,hp,he⟩ | ⟨k',hk',_⟩
   ·rw [Nat.beq_eq] at he;rw [he];exact hv p hp
   ·simp [qg] at hk'
  | some q=>
   obtain ⟨k0,ab⟩:=q
   have hk0:k0 < n0:=by have:=hcv3 k0 (by simp [qg]);simpa [Nat.blt_eq] using this
   obtain ⟨b,hA1,hA2⟩:=hA
   simp only [hk0,decide_true,if_true] at hA1 hA2
   subst hA2
   refine hf b τ a' w' (hag _ fun i hi=>?_) hst
   rw [s5]
   by_cases e:k0=i
   ·subst e
    rw [if_pos rfl,hA1 trivial]
    exact .sc _
   ·rw [if_neg e]
    rcases hcv1 i hi with ⟨p,hp,he⟩ | ⟨k',hk',he⟩
    ·rw [Nat.beq_eq] at he;rw [he];exact hv p hp
    ·rw [Nat.beq_eq] at he
     simp only [qg,List.mem_singleton] at hk'
     omega
 ·refine ⟨ha.size,ha.defers,fun t v hv=>?_⟩
  rw [rI] at hv
  cases hq:cB fr t with
  | none=>rw [hq] at hv;cases hv
  | some c=>rw [hq] at hv;simpa using hv
theorem bv {id:Nat} {L:AL} (n0:Nat) (sk:n7) (al:Option (Nat×AB)) (h:DA P l fr ⟨ES P r l n0 Q nt D fr B al,[]⟩ sk [] L) (hal:KZ P l al) (hn0:Nat.ble n0 l.length=true) (ht:nW l n0=true) (hck:qc l [] sk=true) (hcv:uw n0 sk (qg al)=true) (hm:P.follows .mixedOrders=true) (ok:kJ l=true) (hs:mU nt l=true):
  AT P r (.region id l.toArray true) Q nt D fr B L:=dM [] n0 sk al h hal hn0 ht hck hcv hm ok hs
end
end Go.Proofs.YtpmdfoaadejmkaaGreatDoor
