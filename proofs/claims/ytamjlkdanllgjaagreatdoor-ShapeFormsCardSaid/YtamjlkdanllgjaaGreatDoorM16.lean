/-
  Calls of function values that hold arguments, too.
-/
import Derived.Test.YtamjlkdanllgjaaGreatDoorM12
import Derived.Test.YtamjlkdanllgjaaGreatDoorM06
import Derived.WalkSpells
import Derived.Test.YtamjlkdanllgjaaGreatDoorM15
import Derived.Test.YtamjlkdanllgjaaGreatDoorM00
namespace Go.Proofs.YtamjlkdanllgjaaGreatDoor
open Go.RowKit
def gF (P:Program) (u:AV) (args:List AV) (L:AL) (Post:AV→AL→Prop):Prop:=(∃f caps,bC P f∧jB u=some (f,caps)∧AC P f (args++caps) L Post)∨∃f fs caps,bC P f∧u= .fnB f fs caps∧AC P f (fs++(args++caps)) L Post
theorem gF.fn {P:Program} {f:FuncId} {caps args:List AV} {L:AL} {Post:AV→AL→Prop} [h:bC P f] (k:AC P f (args++caps) L Post):gF P (.fn f caps) args L Post:= .inl ⟨f,caps,h,rfl,k⟩
theorem gF.fn0 {P:Program} {f:FuncId} {args:List AV} {L:AL} {Post:AV→AL→Prop} [h:bC P f] (k:AC P f (args++[]) L Post):gF P (.sc (.func (.func f) #[] #[])) args L Post:= .inl ⟨f,[],h,rfl,k⟩
theorem gF.fnB {P:Program} {f:FuncId} {fs caps args:List AV} {L:AL} {Post:AV→AL→Prop} [h:bC P f] (k:AC P f (fs++(args++caps)) L Post):gF P (.fnB f fs caps) args L Post:= .inr ⟨f,fs,caps,h,rfl,k⟩
def KL (u:AV):Bool:=match u with
 | .fn _ _=>true
 | .fnB _ _ _=>true
 | .sc _=>true
 | _=>false
section
variable {P:Program} {r:Option Nat} {ops:Array Oper} {Q:Exit→Act→World→Prop} {nt:Nat} {D:List Deferred} {fr:bP} {B:Bs} {L:AL} {rest:List Oper} {d:Nat} {ty t:TypeId} {pos:String} {af:Array Edge} {x y z:Operand} {u:AV} {g:Option (Nat×Bool)}
theorem An (Lc Lf:AL) {d:Option Tmp} {f:FuncId} {args:Array Operand} {ts:Array TypeId} {cs fs caps:List AV} {Post:AV→AL→Prop} [hf:bC P f] (hx:bc fr x=some (.fnB f fs caps)) (hv:eM fr args.toList=some cs) (hL:L.Perm (Lc++Lf)) (h:AC P f (fs++(cs++caps)) Lc Post):
  AO P ⟨d,.call ⟨.value x,args,ts⟩,ty,pos,af,g⟩ fr B L (fun c L'=>∃L1,Post c L1∧L'=L1++Lf):=by
 intro σ ρ w hρ hw0
 have hw:=hw0.perm hL
 obtain ⟨qs,ws,hw1,hw0',hw2⟩:=(hρ x _ hx).fnB_inv
 have hvs:=eN hρ _ _ hv
 have e:args.map ρ=(args.toList.map ρ).toArray:=by apply Array.toList_inj.1;simp
 unfold gn
 rw [show (execOp ρ ⟨d,.call ⟨.value x,args,ts⟩,ty,pos,af,g⟩).run P w= .ok (.enter f (qs++(args.toList.map ρ++ws)).toArray) w by
  simp [execOp,resolve,hw1,Deferred.ofValue,invoke,hf.enters]]
 have happ:∀{ps bs:List AV} {us vs:List Value},cR σ ps us→cR σ bs vs→cR σ (ps++bs) (us++vs):=by
  intro ps bs us vs ha hb
  refine ⟨by rw [List.length_append,List.length_append,ha.1,hb.1],fun i c u hc hu=>?_⟩
  have hq:=ha.1
  by_cases hi:i < ps.length
  ·rw [List.getElem?_append_left hi] at hc
   rw [List.getElem?_append_left (by omega)] at hu
   exact ha.2 i c u hc hu
  ·rw [List.getElem?_append_right (by omega)] at hc
   rw [List.getElem?_append_right (by omega),←hq] at hu
   exact hb.2 _ c u hc hu
 have hall:=happ hw0' (happ hvs hw2)
 refine (h σ w _ hall hw.enter).mono fun en w' ⟨v,τ,c,L',h1,h2,h3,h4⟩=>⟨v,h1,τ,c,L'++Lf,h3.grow,h2,hw.leave h3,L',h4,rfl⟩
theorem gp {args:Array Operand} {ts:Array TypeId} {cs:List AV} {Post:AV→AL→Prop} (Lc Lf:AL) (hc:gF P u cs Lc Post) (hx:bc fr x=some u) (hv:eM fr args.toList=some cs) (hL:L.Perm (Lc++Lf)) (hn:Oper.noDefer ⟨some d,.call ⟨.value x,args,ts⟩,ty,pos,af,none⟩=true) (hd:Nat.ble nt d=false) (h:∀c L1,Post c L1→bz P r ops Q nt D rest ((d,c)::fr) B (L1++Lf)):
  bz P r ops Q nt D (⟨some d,.call ⟨.value x,args,ts⟩,ty,pos,af,none⟩::rest) fr B L:=by
 rcases hc with ⟨f,caps,hf,hu,hc⟩ | ⟨f,fs,caps,hf,rfl,hc⟩
 ·exact ce hd hn (tC Lc Lf hx hu hv hL hc) fun c L' ⟨L1,h1,h2⟩=>by subst h2;exact h c L1 h1
 ·exact ce hd hn (An Lc Lf hx hv hL hc) fun c L' ⟨L1,h1,h2⟩=>by subst h2;exact h c L1 h1
end
end Go.Proofs.YtamjlkdanllgjaaGreatDoor
namespace Go.Proofs.YtamjlkdanllgjaaGreatDoor
open Go.RowKit
section
variable {P:Program} {tt:TT} {r:Option Nat} {ops:Array Oper} {Q:Exit→Act→World→Prop} {nt:Nat} {D:List Deferred} {fr:bP} {B:Bs} {L:AL} {rest:List Oper} {d:Nat} {ty t t':TypeId} {pos:String} {af:Array Edge} {x y z:Operand} {u:AV} {g:Option (Nat×Bool)}
theorem Aq {dd:Option Tmp} {e sz by_ s:Nat} {l:List (List AV)} (hc:jE P t e sz by_) (hx:bc fr x=some u) (hu:u.im= .imm s l) (hy:bc fr y=some (.sc (.slice none 0 0))):
  AO P ⟨dd,.binOp .eql t x y t',ty,pos,af,g⟩ fr B L (fun c L'=>∃b,c= .sc (.bool b)∧(b=true→l=[])∧L'=L):=by
 intro σ ρ w hρ hw
 have hxv:=(hρ x u hx).im
 rw [hu] at hxv
 have hyv:=(hρ y _ hy).sc_inv
 have key:∀v,VR σ (.imm s l) v→∃A cap,v= .slice A l.length cap∧(l≠[]→∃b off,A=some ⟨b,off,none⟩):=by
  intro v hv
  cases hv with
  | imm sz l A cap h1 h2 h3 ha hx2 h4=>exact ⟨A,cap,rfl,ha⟩
 obtain ⟨A,cap,hval,ha⟩:=key _ hxv
 ·have hrun:=Lib.run_eql_slice_nil (P:=P) w t e A l.length cap 0 0 hc.under
  unfold gn
  rw [show (execOp ρ ⟨dd,.binOp .eql t x y t',ty,pos,af,g⟩).run P w= .ok (.value (.bool A.isNone)) w by
   simp [execOp,hval,hyv,eqGuard,hrun]]
  refine ⟨σ,.sc _,L,bW.le_refl σ,.sc _,hw,A.isNone,rfl,fun h=>?_,rfl⟩
  cases A with
  | none=>exact Decidable.byContradiction fun hn=>by obtain ⟨b,o,hh⟩:=ha hn;cases hh
  | some a=>cases h
theorem sF (ok:dG P tt) {e sz by_ s:Nat} {l:List (List AV)} (ht:iS tt t=some (e,sz,by_)) (hx:bc fr x=some u) (hu:iE u=some (s,l)) (hy:bc fr y=some (.sc (.slice none 0 0))) (hd:Nat.ble nt d=false) (h:∀b,(b=true→l=[])→bz P r ops Q nt D rest ((d,.sc (.bool b))::fr) B L):
  bz P r ops Q nt D (⟨some d,.binOp .eql t x y t',ty,pos,af,none⟩::rest) fr B L:=
 ce hd rfl (Aq (bv ok ht).1 hx (d8 hu) hy) fun c L' ⟨b,h1,h2,h3⟩=>by subst h1;subst h3;exact h b h2
end
section
variable {P:Program} {nt:Nat} {fr:bP} {B:Bs} {L L':AL}
theorem ff (L':AL) {fn:Func} {Post:AV→AL→Prop} {cs:List AV} (hr:l4 P fr L fn.results.toList cs) (hs:L'.Sublist L) (h:Post (oz cs) L'):AX P .ret (bodyPost P fn (gL B Post)) nt [] fr B L:=by
 intro σ a w ha hw
 obtain ⟨v,h1,h2⟩:=ie ha hw hr
 exact ⟨ha.defers,v,h1,v,σ,oz cs,L',rfl,h2,hw.sublist hs,h⟩
end
end Go.Proofs.YtamjlkdanllgjaaGreatDoor
namespace Go.Proofs.YtamjlkdanllgjaaGreatDoor
open Go.RowKit
attribute [local irreducible] AT bz AX AO Av Kt aZ cY DA cu
set_option maxRecDepth 8000
theorem vz (run:List aM) (hr:run.length≤1000000):AC Tryz.prog 141 [.imm 6 (run.map cg)] [] fun c L=>∃q,cS q run∧c=cG q run∧L=dw q run:=by
 refine aI Tryz.func141 rfl Tryz.ntmps141 rfl fun B=>?_
 have hml:(run.map cg).length=run.length:=Mv ..
 repeat' (first|refine ae ?_|refine a6 ?_|refine a8 ?_|refine aa ?_|refine LR a7 LL ?_)
 refine sF a7 rfl rfl rfl rfl rfl fun b hb=>?_
 repeat' (first|refine a8 ?_|refine aa ?_)
 cases b with
 | true=>
  have hn:run=[]:=by simpa using hb rfl
  subst hn
  repeat' (first|refine ae ?_|refine a6 ?_|refine am ?_|refine a8 ?_|refine az ?_|refine aa ?_|refine LR a7 LL ?_|refine bI rfl ?_)
  refine br (bE (t:=2) (c':= .imm 6 []) rfl fun σ v h=>dW 6 h) ?_
  exact MA LL ⟨none,⟨fun _=>rfl,fun m h=>by cases h⟩,rfl,rfl⟩
 | false=>
  repeat' (first|refine ae ?_|refine a6 ?_|refine aq ?_|refine a8 ?_|refine LR a7 LL ?_|refine Hw (d:=5) a7 rfl rfl fun _=>?_|refine bo rfl ?_)
  rename_i b5
  refine iH a7 0 rfl rfl rfl rfl (f9 rfl rfl) rfl (Nat.zero_le _) (Nat.le_refl _) (Nat.zero_le _) (by rw [hml];unfold maxLen;omega) (by rw [hml];omega) rfl fun b' cs' cap' e1 e2 e3 e4 e5=>?_
  repeat' (first|refine am ?_|refine a8 ?_|refine aa ?_|refine LR a7 LL ?_)
  have hcs:cs'=bO run++cs'.drop (run.length * 6):=by
   conv=>lhs;rw [←List.take_append_drop (run.length * 6) cs']
   rw [Nat.zero_add,hml] at e2
   rw [e2]
   rfl
  refine MA LL ⟨some ⟨b',cap',cs'.drop (run.length * 6)⟩,⟨fun h=>(by cases h),fun m hm=>?_⟩,?_,?_⟩
  ·cases hm
   dsimp only
   rw [←hcs]
   exact ⟨by omega,e4,e1⟩
  ·unfold cG
   dsimp only
   rw [Nat.zero_add,hml]
  ·unfold dw
   dsimp only
   rw [←hcs]
   rfl
theorem pn {R:List aM}:∀{l:List Nat},R.length≤(eW l R).length+l.length
 | []=>by simp [eW]
 | z::l=>by
  have:=pn (R:=R) (l:=l)
  have h2:(eW l R).length≤((eW l R).eraseIdx z).length+1:=by rw [List.length_eraseIdx];split <;> omega
  rw [eW,List.length_cons]
  omega
theorem xJ {run:List aM} {p:Nat} {q:List Nat} (h:rX run (p::q)):p+q.length≤(p::q).getLastD p∧(p::q).getLastD p < run.length∧(q≠[]↔p < (p::q).getLastD p):=by
  have key:∀(q:List Nat) (p:Nat),(p::q).Pairwise (· < ·)→p+q.length≤(p::q).getLast (by simp):=by
    intro q
    induction q with
    | nil=>intro p _;simp
    | cons a q ih=>
      intro p hp
      obtain ⟨h1,h2⟩:=List.pairwise_cons.1 hp
      have:=ih a h2
      have:=h1 a (by simp)
      rw [List.getLast_cons (by simp),List.length_cons]
      omega
  have hk:=key q p h.inc
  have he:(p::q).getLastD p=(p::q).getLast (by simp):=by rw [List.getLastD_eq_getLast?,List.getLast?_eq_some_getLast (by simp)];rfl
  rw [he]
  refine ⟨hk,h.lt _ (List.getLast_mem _),fun hq=>?_,fun hq e=>?_⟩
  · have:0 < q.length:=List.length_pos_iff.2 hq
    omega
  · subst e
    simp at hq
theorem qn {l:b6} {r:bh} {run:List aM} {p:Nat} {q:List Nat} (h:rX run (p::q)):run.length - 1 - (p::q).getLastD p≤(fW l r (p::q) run).length:=by
 obtain ⟨h1,h2,_⟩:=xJ h
 unfold fW
 split
 ·unfold eU;split <;> (try split) <;> (try split) <;> (try rw [List.length_set]) <;> omega
 split
 ·unfold gX
  split
  ·omega
  ·split
   ·omega
   ·simp only [List.length_append,List.length_take,List.length_drop,Mv,List.headD_cons]
    omega
 split
 ·unfold mg
  split
  ·rename_i heq _
   cases heq
   split
   ·rename_i x hx
    have key:∀y:aM,run.length - 1 - (p::q).getLastD p≤(eW q (run.set p y)).length:=fun y=>by
     have:=pn (R:=run.set p y) (l:=q)
     rw [List.length_set] at this
     omega
    exact key _
   ·omega
  ·omega
 split
 ·unfold rF;split <;> (try rw [List.length_set]) <;> omega
 ·omega
theorem Bc {ms:List Bool} {ls:List b6} {k:Nat} {l:b6} (hk:l.Kind≠4) {r:bh} {run:List aM} {p:Nat} {q:List Nat} (h:rX run (p::q)):run.length - 1 - (p::q).getLastD p≤(iA ms ls k l r (p::q) run).length:=by
 cases k with
 | zero=>rw [iA];exact qn h
 | succ k=>rw [iA];dsimp only;rw [if_neg hk];exact qn h
set_option maxRecDepth 8000
theorem wi {p:Nat} {q:List Nat}:(df (p::q))[(((p::q).length:Int) - 1).toNat]?=some [aF ((p::q).getLastD p:Nat)]:=by
 have he:(p::q).getLastD p=(p::q).getLast (by simp):=by rw [List.getLastD_eq_getLast?,List.getLast?_eq_some_getLast (by simp)];rfl
 have hi:(((p::q).length:Int) - 1).toNat=(p::q).length - 1:=by omega
 rw [hi,he]
 unfold df
 refine bH ?_
 rw [List.getElem?_map,←List.getLast?_eq_getElem?,List.getLast?_eq_some_getLast (by simp)]
 rfl
section
variable {E:ot} (hE:lF E) (wb:Nat)
include hE
set_option maxHeartbeats 8000000 in
theorem Jd (e:oB) (he:e∈E.lks) (h1:1≤e.l.Kind) (h6:e.l.Kind≤6) (forms:List Int) (q0:Option f0) (run0:List aM) (hq0:cS q0 run0) (hr0:run0.length≤1000000):
  AC Tryz.prog 222 [eZ wb,.iptr (f4 e),.imm 1 (aT forms)] (iv wb E q0 run0) (fZ wb E (tg E.ms E.ls e.l forms run0.length 0 run0)):=by
 refine aI Tryz.func222 rfl Tryz.ntmps222 rfl fun B=>?_
 have hau:=hE.auto e he h1 h6
 repeat' (first|refine ae ?_|refine a6 ?_|refine ar ?_|refine a8 ?_|refine aa ?_|refine LR a7 LL ?_)
 refine aN [0,1,2] (α:=Nat×Nat×Option f0×List aM) (fun s=>[(6,aF s.1)]) (fun s=>cS s.2.2.1 s.2.2.2∧s.2.2.2.length≤1000000∧s.1≤1000001∧s.2.2.2.length - s.1≤s.2.1∧tg E.ms E.ls e.l forms s.2.1 s.1 s.2.2.2=tg E.ms E.ls e.l forms run0.length 0 run0) (fun s=>iv wb E s.2.2.1 s.2.2.2) (fun s=>s.2.1) (0,run0.length,q0,run0) rfl ⟨rfl,trivial⟩ ⟨hq0,hr0,by dsimp only;omega,by dsimp only;omega,rfl⟩ (fun _ _ h=>h) ?_
 rintro ⟨i,k,q,run⟩ ⟨hq,hr,hi1,hk,hv⟩
 dsimp only at hq hr hi1 hk hv ⊢
 try dsimp only [Mt,Ms,Mr,Mn]
 repeat' (first|refine ae ?_|refine a6 ?_|refine LR a7 LL ?_|(apply bL;first|refine LV a7 0 LO ?_|refine LV a7 1 LO ?_|refine LV a7 2 LO ?_|refine LV a7 3 LO ?_|refine LW a7 0 LO ?_|refine LW a7 1 LO ?_|refine LW a7 2 LO ?_|refine LZ a7 1 LM (by assumption) rfl ?_|refine LZ a7 0 LM (by assumption) rfl ?_|fail)|fail)
 refine lr a7 rfl hq rfl rfl ?_
 repeat' (first|refine a8 ?_|refine aa ?_|refine LR a7 LL ?_)
 refine aB rfl (fun h=>?_) (fun h=>?_)
 ·have hi:i < run.length:=by have:=Mz h;omega
  obtain ⟨k,rfl⟩:∃j,k=j+1:=⟨k - 1,by omega⟩
  rw [tg,if_pos hi] at hv
  have hma:=pP E e hau wb q run hq hr i (by omega) forms
  clear h
  repeat' (first|refine ae ?_|refine a6 ?_|refine ar ?_|refine aq ?_|refine a8 ?_|refine LR a7 LL ?_)
  refine aW (iv wb E q run) [] hma rfl rfl (by rw [List.append_nil];exact Mp _) rfl fun c L1 ⟨hc,hL⟩=>?_
  subst hc;subst hL
  unfold jZ
  cases hmv:ej E.ms e.l run i forms with
  | none=>
   rw [hmv] at hv
   dsimp only at hv ⊢
   repeat' (first|refine ae ?_|refine a6 ?_|refine a8 ?_|refine aa ?_|refine LR a7 LL ?_)
   refine wc Tryz.underlying389 rfl rfl rfl rfl ?_
   repeat' (first|refine ae ?_|refine a6 ?_|refine aO ?_|refine a8 ?_|refine av ?_|refine aC ?_|refine aa ?_|refine LR a7 LL ?_|(apply aY;refine aX ?_)|refine bI rfl ?_)
   exact aE (i+1,k,q,run) rfl ⟨by rw [Mw];rfl,trivial⟩ ⟨hq,hr,by dsimp only;omega,by dsimp only;omega,hv⟩ (by dsimp only;omega) (fun _ _ h=>by rw [List.append_nil] at h;exact h)
  | some r=>
   rw [hmv] at hv
   dsimp only at hv ⊢
   obtain ⟨hps,hrm,hin,_,hhd⟩:=HN hmv
   have hro:=hE.rule e he r hrm hin
   have hdo:=Bd hE wb 4 0 rfl e r (dm E.ms e.l run i r) q run he h1 h6 hro hps hq hr
   generalize dm E.ms e.l run i r=ps at *
   obtain ⟨p,ps',rfl⟩:=List.exists_cons_of_ne_nil hps.some_
   simp only [List.head?_cons,Option.some.injEq] at hhd
   subst hhd
   obtain ⟨l1,l2,l3⟩:=xJ hps
   have hlg:=wi (p:=p) (q:=ps')
   have hnl:=kH (p::ps')
   have hlen:=kv (ms:=E.ms) (ls:=E.ls) 4 e.l r (p::ps') run
   have hr2:=hlen.big hr
   have hleft:e.l.Kind≠4→run.length - 1 - (p::ps').getLastD p≤(iA E.ms E.ls 4 e.l r (p::ps') run).length:=fun h4=>Bc h4 hps
   have hpl1:(p::ps').length=ps'.length+1:=rfl
   have hlen1:(1 < ((df (p::ps')).length:Int))↔p < (p::ps').getLastD p:=by
    rw [hnl,hpl1,←l3,←List.length_pos_iff]
    omega
   have hpair:e.l.Kind=6→(iA E.ms E.ls 4 e.l r (p::ps') run).length=run.length:=fun h6=>by
    rw [iA]
    dsimp only
    rw [if_neg (by omega)]
    unfold fW
    rw [if_neg (by omega),if_neg (by omega),if_neg (by omega),if_pos h6]
    unfold rF
    split
    ·rw [List.length_set]
    ·rfl
   generalize iA E.ms E.ls 4 e.l r (p::ps') run=run2 at *
   generalize (p::ps').getLastD p=last at *
   repeat' (first|refine ae ?_|refine a6 ?_|refine a8 ?_|refine aa ?_|refine LR a7 LL ?_)
   refine wc Tryz.underlying389 rfl rfl rfl rfl ?_
   repeat' (first|refine ae ?_|refine a6 ?_|refine aq ?_|refine a8 ?_|refine aa ?_|refine LR a7 LL ?_|(apply aY;refine aX ?_)|refine bo rfl ?_)
   refine aK a7 ?_ (hl:=by rw [hnl];exact hlg) (h0:=by rw [hnl,hpl1];omega)
   repeat' (first|refine ae ?_|refine a6 ?_|refine a8 ?_|refine aa ?_|refine LR a7 LL ?_|(apply bL;first|refine LV a7 0 LO ?_|refine LV a7 1 LO ?_|refine LV a7 2 LO ?_|refine LV a7 3 LO ?_|refine LW a7 0 LO ?_|refine LW a7 1 LO ?_|refine LW a7 2 LO ?_|refine LZ a7 1 LM (by assumption) rfl ?_|refine LZ a7 0 LM (by assumption) rfl ?_|fail)|fail)
   refine lr a7 rfl hq rfl rfl ?_
   repeat' (first|refine ae ?_|refine a6 ?_|refine a8 ?_|refine aa ?_|refine LR a7 LL ?_|(apply aY;refine aX ?_)|fail)
   refine aW (iv wb E q run) [] hdo rfl rfl (by rw [List.append_nil]) rfl fun c L1 ⟨q',g1,g2⟩=>?_
   subst g2
   repeat' (first|refine ae ?_|refine a6 ?_|refine a8 ?_|refine aa ?_|refine LR a7 LL ?_|(apply bL;first|refine LV a7 0 LO ?_|refine LV a7 1 LO ?_|refine LV a7 2 LO ?_|refine LV a7 3 LO ?_|refine LW a7 0 LO ?_|refine LW a7 1 LO ?_|refine LW a7 2 LO ?_|refine LZ a7 1 LM (by assumption) rfl ?_|refine LZ a7 0 LM (by assumption) rfl ?_|fail)|fail)
   refine lr a7 rfl g1 rfl rfl ?_
   repeat' (first|refine ae ?_|refine a6 ?_|refine ar ?_|refine a8 ?_|refine aa ?_|refine LR a7 LL ?_|(apply aY;refine aX ?_)|fail)
   refine aB rfl (fun h4=>?_) (fun h4=>?_)
   ·have hk4:e.l.Kind=4:=Mz h4
    unfold rE at hv
    rw [if_pos hk4] at hv
    repeat' (first|refine a6 ?_|refine a8 ?_|refine aP ?_|refine aa ?_|refine LR a7 LL ?_|(apply aY;refine aX ?_)|fail)
    refine aE (max (run2.length - (run.length - 1 - last)) (p+1),k,q',run2) rfl ⟨?_,trivial⟩ ⟨g1,hr2,by dsimp only;omega,by dsimp only;omega,hv⟩ (by dsimp only;omega) (fun _ _ h=>by rw [List.append_nil] at h;exact h)
    show some (AV.sc (.int .i64 (max ((run2.length:Int) - ((run.length:Int) - 1 - last)) ((p:Int)+1))))=some (aF ((max (run2.length - (run.length - 1 - last)) (p+1):Nat):Int))
    rw [show max ((run2.length:Int) - ((run.length:Int) - 1 - last)) ((p:Int)+1)=((max (run2.length - (run.length - 1 - last)) (p+1):Nat):Int) by omega]
   ·have hk4:e.l.Kind≠4:=My h4
    have hlf:=hleft hk4
    repeat' (first|refine ae ?_|refine a6 ?_|refine LR a7 LL ?_)
    refine bN [0,1,2,9,11] (e.l.Kind=6∧p < last) rfl (fun Q' K=>?_) (fun hC=>?_) (fun hC=>?_)
    ·repeat' (first|refine aa ?_|refine LR a7 LL ?_|refine MB LL ?_|refine MC LN ?_|refine MD LM (fun _=>?_) (fun _=>?_))
     all_goals exact K _ _ rfl rfl (by rw [←hlen1];simp_all)
    ·unfold rE at hv
     rw [if_neg hk4,if_pos hC] at hv
     repeat' (first|refine a6 ?_|refine a8 ?_|refine aP ?_|refine aa ?_|refine LR a7 LL ?_)
     refine aE (last,k,q',run2) rfl ⟨rfl,trivial⟩ ⟨g1,hr2,by dsimp only;omega,by have:=hpair hC.1;dsimp only;omega,hv⟩ (by dsimp only;omega) (fun _ _ h=>by rw [List.append_nil] at h;exact h)
    ·unfold rE at hv
     rw [if_neg hk4,if_neg hC] at hv
     repeat' (first|refine a6 ?_|refine aq ?_|refine a8 ?_|refine aP ?_|refine aa ?_|refine LR a7 LL ?_)
     refine aE (run2.length - (run.length - 1 - last),k,q',run2) rfl ⟨?_,trivial⟩ ⟨g1,hr2,by dsimp only;omega,by dsimp only;omega,hv⟩ (by dsimp only;omega) (fun _ _ h=>by rw [List.append_nil] at h;exact h)
     show some (AV.sc (.int .i64 ((run2.length:Int) - ((run.length:Int) - 1 - last))))=some (aF ((run2.length - (run.length - 1 - last):Nat):Int))
     rw [show (run2.length:Int) - ((run.length:Int) - 1 - last)=((run2.length - (run.length - 1 - last):Nat):Int) by omega]
 ·have hi:run.length≤i:=by have:=My h;omega
  have hrun:run=tg E.ms E.ls e.l forms run0.length 0 run0:=by
   rw [←hv]
   cases k with
   | zero=>rw [tg]
   | succ k=>rw [tg,if_neg (by omega)]
  repeat' (first|refine aO ?_|refine av ?_|refine aC ?_|refine aA ?_)
  exact bT rfl ⟨q,by rw [←hrun];exact hq,by rw [←hrun];rfl⟩
set_option maxHeartbeats 8000000 in
theorem Be (e:oB) (he:e∈E.lks) (h1:1≤e.l.Kind) (h6:e.l.Kind≤6) (forms:List Int) (q0:Option f0) (run0:List aM) (hq0:cS q0 run0) (hr0:run0.length≤1000000):
  AC Tryz.prog 223 [eZ wb,.iptr (f4 e),.imm 1 (aT forms)] (iv wb E q0 run0) (fZ wb E (jv E.ms E.ls e.l forms run0.length run0)):=by
 refine aI Tryz.func223 rfl Tryz.ntmps223 rfl fun B=>?_
 have hau:=hE.auto e he h1 h6
 repeat' (first|refine ae ?_|refine a6 ?_|refine LR a7 LL ?_|(apply bL;first|refine LV a7 0 LO ?_|refine LV a7 1 LO ?_|refine LV a7 2 LO ?_|refine LV a7 3 LO ?_|refine LW a7 0 LO ?_|refine LW a7 1 LO ?_|refine LW a7 2 LO ?_|refine LZ a7 1 LM (by assumption) rfl ?_|refine LZ a7 0 LM (by assumption) rfl ?_|fail)|fail)
 refine lr a7 rfl hq0 rfl rfl ?_
 repeat' (first|refine ar ?_|refine a8 ?_|refine aa ?_|refine LR a7 LL ?_|(apply aY;refine aX ?_)|fail)
 refine aN [0,1,2] (α:=Nat×Option f0×List aM) (fun s=>[(6,aF ((s.1:Int) - 1))]) (fun s=>cS s.2.1 s.2.2∧s.2.2.length≤1000000∧s.1≤1000000∧jv E.ms E.ls e.l forms s.1 s.2.2=jv E.ms E.ls e.l forms run0.length run0) (fun s=>iv wb E s.2.1 s.2.2) (fun s=>s.1) (run0.length,q0,run0) rfl ⟨rfl,trivial⟩ ⟨hq0,hr0,hr0,rfl⟩ (fun _ _ h=>h) ?_
 rintro ⟨n,q,run⟩ ⟨hq,hr,hn1,hv⟩
 dsimp only at hq hr hn1 hv ⊢
 try dsimp only [Mt,Ms,Mr,Mn]
 repeat' (first|refine ae ?_|refine a6 ?_|refine a8 ?_|refine aa ?_|refine LR a7 LL ?_)
 refine aB rfl (fun h=>?_) (fun h=>?_)
 ·have hn0:0 < n:=by have:=Mz h;omega
  obtain ⟨i,rfl⟩:∃j,n=j+1:=⟨n - 1,by omega⟩
  rw [jv] at hv
  have hi0:((i+1:Nat):Int) - 1=(i:Int):=by omega
  have hma:=pP E e hau wb q run hq hr i (by omega) forms
  clear h
  rw [hi0]
  repeat' (first|refine ae ?_|refine a6 ?_|refine ar ?_|refine aq ?_|refine a8 ?_|refine LR a7 LL ?_)
  refine aW (iv wb E q run) [] hma rfl rfl (by rw [List.append_nil];exact Mp _) rfl fun c L1 ⟨hc,hL⟩=>?_
  subst hc;subst hL
  unfold jZ
  cases hmv:ej E.ms e.l run i forms with
  | none=>
   rw [hmv] at hv
   dsimp only at hv ⊢
   repeat' (first|refine ae ?_|refine a6 ?_|refine a8 ?_|refine aa ?_|refine LR a7 LL ?_)
   refine sH Tryz.underlying389 rfl rfl rfl rfl ?_
   repeat' (first|refine a6 ?_|refine aq ?_|refine a8 ?_|refine aP ?_|refine aa ?_|refine LR a7 LL ?_|(apply aY;refine aX ?_)|refine bo rfl ?_)
   exact aE (i,q,run) rfl ⟨rfl,trivial⟩ ⟨hq,hr,by dsimp only;omega,hv⟩ (by dsimp only;omega) (fun _ _ h=>by rw [List.append_nil] at h;exact h)
  | some r=>
   rw [hmv] at hv
   dsimp only at hv ⊢
   obtain ⟨hps,hrm,hin,_,hhd⟩:=HN hmv
   have hro:=hE.rule e he r hrm hin
   have hdo:=Bd hE wb 4 0 rfl e r (dm E.ms e.l run i r) q run he h1 h6 hro hps hq hr
   have hr2:=(kv (ms:=E.ms) (ls:=E.ls) 4 e.l r (dm E.ms e.l run i r) run).big hr
   repeat' (first|refine ae ?_|refine a6 ?_|refine a8 ?_|refine aa ?_|refine LR a7 LL ?_)
   refine sH Tryz.underlying389 rfl rfl rfl rfl ?_
   repeat' (first|refine a6 ?_|refine a8 ?_|refine aa ?_|refine LR a7 LL ?_|refine bI rfl ?_)
   refine aW (iv wb E q run) [] hdo rfl rfl (by rw [List.append_nil]) rfl fun c L1 ⟨q',g1,g2⟩=>?_
   subst g2
   repeat' (first|refine a6 ?_|refine a8 ?_|refine aP ?_|refine aa ?_|refine LR a7 LL ?_|(apply aY;refine aX ?_)|fail)
   exact aE (i,q',_) rfl ⟨rfl,trivial⟩ ⟨g1,hr2,by dsimp only;omega,hv⟩ (by dsimp only;omega) (fun _ _ h=>by rw [List.append_nil] at h;exact h)
 ·have hn0:n=0:=by have:=My h;omega
  subst hn0
  have hrun:run=jv E.ms E.ls e.l forms run0.length run0:=by rw [←hv,jv]
  repeat' (first|refine aO ?_|refine av ?_|refine aC ?_|refine aA ?_)
  exact bT rfl ⟨q,by rw [←hrun];exact hq,by rw [←hrun];rfl⟩
end
end Go.Proofs.YtamjlkdanllgjaaGreatDoor
namespace Go.Proofs.YtamjlkdanllgjaaGreatDoor
open Go.RowKit
section
variable {nt:Nat} {fr:bP} {B:Bs} {L:AL} {D:List Deferred}
theorem cP {t b e sz n cap:Nat} {cs:List AV} {l:List (List AV)} (i:Nat) (hl:bX fr t=some (.sc (.slice (some ⟨b,0,none⟩) n cap))) (hL:L[i]?=some (b,.box cs e)) (hc:cs.take (n * sz)=l.flatten) (hcl:n * sz≤cs.length) (hs:∀q∈l,q.length=sz) (hn:l.length=n) (hnc:n≤cap) (hm:cap≤maxLen):lb nt D B fr L ((t,.imm sz l)::fr) (L.eraseIdx i):=by
 intro σ a w ha hw0
 have hw:=hw0.perm (eS hL)
 obtain ⟨o,ho,vs,rfl,hvs,h1⟩:=hw.here _ (List.mem_cons_self ..)
 have hfree:=hw.free _ (List.mem_cons_self ..)
 have hvl:vs.length=cs.length:=hvs.1.symm
 have hst:cK B σ ((b,.vec e cs.length 0 1)::L.eraseIdx i) w:=by
  refine ⟨hw.os,hw.tape,hw.output,hw.size,hw.old,fun p hp=>?_,fun p hp=>?_,by simpa using hw.apart,hw.froz,fun p hp off hm=>?_,hw.grow,hw.same⟩
  ·rcases List.mem_cons.1 hp with rfl | hp'
   ·exact ⟨_,ho,_,rfl,by simp [hvl],Nat.zero_le _,by unfold maxLen;omega⟩
   ·exact hw.here p (Mu _ hp')
  ·rcases List.mem_cons.1 hp with rfl | hp'
   ·exact hw.mine (b,.box cs e) (List.mem_cons_self ..)
   ·exact hw.mine p (Mu _ hp')
  ·rcases List.mem_cons.1 hp with rfl | hp'
   ·exact hfree off trivial
   ·exact hw.free p (Mu _ hp') off hm
 obtain ⟨hst',hle⟩:=hst.freezeHead (n':=1) (xs:=vs) (fun j u hj=>by rw [cI ho];simpa using hj) (by omega) (Nat.zero_le _) (Nat.le_refl _)
 have hv:VR (σ.add b vs) (.vec (some (b,cap)) sz l) (.slice (some ⟨b,0,none⟩) n cap):=by
  have:=km (σ:=σ.add b vs) (b:=b) (cap:=cap) hs (by rw [←hc];exact (eR hvs _).mono hle) (fun u hu=>h1 u (List.mem_of_mem_take hu)) (by omega) hm (fun j u hj=>bW.add_at (by
   rw [List.getElem?_take] at hj
   split at hj
   ·exact hj
   ·cases hj))
  rwa [hn] at this
 refine ⟨_,?_,hst'.sublist (.cons _ (List.Sublist.refl _))⟩
 have ha':=ha.mono hle
 refine ⟨ha'.size,ha'.defers,fun t' v' hl'=>?_⟩
 rw [ca] at hl'
 by_cases e:t=t'
 ·subst e
  simp only [if_true,Option.some.injEq] at hl'
  subst hl'
  rw [(ha.look t _ hl).sc_inv]
  exact hv.im
 ·rw [if_neg e] at hl'
  exact ha'.look t' v' hl'
end
end Go.Proofs.YtamjlkdanllgjaaGreatDoor
namespace Go.Proofs.YtamjlkdanllgjaaGreatDoor
open Go.RowKit
attribute [local irreducible] AT bz AX AO Av Kt aZ cY DA cu
set_option maxRecDepth 8000
theorem tG (k:Int):bD Tryz.prog 138 [aF k] (cw (decide (1≤k∧k≤6))):=by
 refine aI Tryz.func138 rfl Tryz.ntmps138 rfl fun B=>?_
 repeat' (first|refine ae ?_|refine a6 ?_|refine am ?_|refine a8 ?_|refine aa ?_|refine LR a7 LL ?_|refine MB LL ?_|refine MC LN ?_|refine MD LM (fun _=>?_) (fun _=>?_))
 all_goals exact MA LL (by simp_all <;> omega)
instance (k:Int):AD Tryz.prog 138 [aF k] (cw (decide (1≤k∧k≤6))):=⟨tG k⟩
section
variable {nt:Nat} {fr:bP} {B:Bs} {D:List Deferred}
theorem kN {t:Nat} {q:Option f0} {run:List aM} {Lf:AL} (hq:cS q run) (hl:bX fr t=some (cG q run)):lb nt D B fr (dw q run++Lf) ((t,.imm 6 (run.map cg))::fr) Lf:=by
 cases q with
 | none=>
  have he:=hq.emp rfl
  subst he
  exact bE hl fun σ v h=>h
 | some m=>
  obtain ⟨h1,h2,h3⟩:=hq.fit m rfl
  have hfl:=cJ run
  have hcl:run.length * 6≤(bO run++m.junk).length:=by rw [List.length_append];omega
  have htk:(bO run++m.junk).take (run.length * 6)=(run.map cg).flatten:=by
   have:=na run m.junk (Nat.le_refl _)
   rw [List.take_length] at this
   exact this
  exact cP (sz:=6) (n:=run.length) (cap:=m.cap) (l:=run.map cg) 0 hl rfl htk hcl (fun e he=>by obtain ⟨z,_,rfl⟩:=List.mem_map.1 he;rfl) (Mv ..) h1 h2
end
section
variable {E:ot} (hE:lF E)
include hE
end
def ny (ap:Int→List aM→List Int→List aM):List Int→List (List Int)→List aM→List aM
 | [],_,run=>run
 | n::ns,fs,run=>ny ap ns (fs.drop 1) (ap n run (fs.headD []))
structure L6 (u:AV) (ap:Int→List aM→List Int→List aM):Prop where
 ac:∀(n:Int) (run:List aM) (forms:List Int),run.length≤1000000→AC Tryz.prog 140 [u,aF n,.imm 6 (run.map cg),.imm 1 (aT forms)] [cX] fun c L=>c= .imm 6 ((ap n run forms).map cg)∧L=[cX]
 len:∀(n:Int) (run:List aM) (forms:List Int),run.length≤1000000→(ap n run forms).length≤1000000
theorem sN {ms:List Bool} {ls:List b6} {l:b6} {forms:List Int}:∀(k i:Nat) (run:List aM),fM run.length (tg ms ls l forms k i run).length
 | 0,_,_=>by unfold fM;rw [tg];omega
 | k+1,i,run=>by
  rw [tg]
  split
  ·split
   ·exact sN k (i+1) run
   ·exact (kv 4 l _ _ run).trans (sN k _ _)
  ·unfold fM;omega
theorem n4 {ms:List Bool} {ls:List b6} {l:b6} {forms:List Int}:∀(k:Nat) (run:List aM),fM run.length (jv ms ls l forms k run).length
 | 0,_=>by unfold fM;rw [jv];omega
 | i+1,run=>by
  rw [jv]
  split
  ·exact n4 i run
  ·exact (kv 4 l _ _ run).trans (n4 i _)
theorem vm {ms:List Bool} {ls:List b6} {n:Int} {run:List aM} {forms:List Int}:fM run.length (dB ms ls n run forms).length:=by
 have hs:fM run.length run.length:=by unfold fM;omega
 unfold dB
 split
 ·exact hs
 ·split
  ·exact hs
  ·split
   ·exact hs
   ·split
    ·exact n4 _ _
    ·exact sN _ _ _
def K6:AV→Bool
 | .iptr _=>true
 | .sc (.pointer none)=>true
 | _=>false
end Go.Proofs.YtamjlkdanllgjaaGreatDoor
namespace Go.Proofs.YtamjlkdanllgjaaGreatDoor
open Go.RowKit
attribute [local irreducible] AT bz AX AO Av Kt aZ cY DA cu
set_option maxRecDepth 8000
section
variable {E:ot} (hE:lF E)
include hE
set_option maxHeartbeats 8000000 in
theorem yc (n:Int) (run:List aM) (hr:run.length≤1000000) (forms:List Int):AC Tryz.prog 140 [.iptr (dZ E),aF n,.imm 6 (run.map cg),.imm 1 (aT forms)] [cX] fun c L=>∃q,cS q (dB E.ms E.ls n run forms)∧c=cG q (dB E.ms E.ls n run forms)∧L=dw q (dB E.ms E.ls n run forms)++[cX]:=by
 refine aI Tryz.func140 rfl Tryz.ntmps140 rfl fun B=>?_
 have hll:=qW E
 have hcl:=vz run hr
 repeat' (first|refine ae ?_|refine a6 ?_|refine a8 ?_|refine aa ?_|refine LR a7 LL ?_)
 refine aW [] [cX] hcl rfl rfl (Mp _) rfl fun c L1 ⟨q,hq,hc,hL⟩=>?_
 subst hc;subst hL
 repeat' (first|fail)
 refine c5 (u:= .agg [.iptr (dZ E),cG q run]) (lz a7 (by cases q <;> rfl)) rfl rfl ?_
 repeat' (first|refine ae ?_|refine a6 ?_|refine a8 ?_|refine aa ?_|refine LR a7 LL ?_|refine xy (d:=15) fun _=>?_|fail)
 refine wc Tryz.underlying146 rfl rfl rfl rfl ?_
 by_cases hin:0≤n∧n < E.lks.length
 ·obtain ⟨e,he⟩:∃e,E.lks[n.toNat]?=some e:=⟨_,Ia (by omega)⟩
  have heg:(E.lks.map f4)[n.toNat]?=some (f4 e):=by simp [he]
  have hem:=Mx he
  refine bN [0,1,3,9] (¬(1≤e.l.Kind∧e.l.Kind≤6)) rfl (fun Q' K=>?_) (fun hC=>?_) (fun hC=>?_)
  ·repeat' (first|refine aa ?_|refine LR a7 LL ?_|refine MB LL ?_|refine MC LN ?_|(apply aL;first|refine aK a7 ?_|refine aH a7 ?_)|(apply bk;refine b9 ?_)|refine MD LM (fun _=>?_) (fun _=>?_))
   all_goals exact K _ _ rfl rfl (by simp_all <;> omega)
  ·have hv:dB E.ms E.ls n run forms=run:=by
    unfold dB
    rw [if_neg (by omega),List.getElem?_map,he]
    show (if e.l.Kind < 1∨6 < e.l.Kind then run else _)=run
    rw [if_pos (by omega)]
   rw [hv]
   repeat' (first|refine ae ?_|refine a6 ?_|refine am ?_|refine a8 ?_|refine az ?_|refine aa ?_|refine LR a7 LL ?_|(apply bL;first|refine LV a7 0 LO ?_|refine LV a7 1 LO ?_|refine LV a7 2 LO ?_|refine LV a7 3 LO ?_|refine LW a7 0 LO ?_|refine LW a7 1 LO ?_|refine LW a7 2 LO ?_|refine LZ a7 1 LM (by assumption) rfl ?_|refine LZ a7 0 LM (by assumption) rfl ?_|fail)|fail)
   refine cL (List.sublist_cons_self ..) ?_
   exact MA LL ⟨q,hq,rfl,rfl⟩
  ·have hC:1≤e.l.Kind∧e.l.Kind≤6:=Classical.not_not.1 hC
   have hv:dB E.ms E.ls n run forms=if e.l.Kind=5 then jv E.ms E.ls e.l forms run.length run else tg E.ms E.ls e.l forms run.length 0 run:=by
    unfold dB
    rw [if_neg (by omega),List.getElem?_map,he]
    show (if e.l.Kind < 1∨6 < e.l.Kind then run else _)=_
    rw [if_neg (by omega)]
   rw [hv]
   rename_i wb _
   have hdn:=Be hE wb e hem hC.1 hC.2 forms q run hq hr
   have hon:=Jd hE wb e hem hC.1 hC.2 forms q run hq hr
   repeat' (first|refine ae ?_|refine a6 ?_|refine aq ?_|refine a8 ?_|refine aa ?_|refine LR a7 LL ?_|(apply aL;first|refine aK a7 ?_|refine aH a7 ?_)|fail)
   refine aB rfl (fun h5=>?_) (fun h5=>?_)
   ·rw [if_pos (Mz h5)]
    repeat' (first|refine ae ?_|refine a6 ?_|refine a8 ?_|refine aa ?_|refine LR a7 LL ?_|(apply aL;first|refine aK a7 ?_|refine aH a7 ?_)|fail)
    refine gp (iv wb E q run) [] (gF.fnB (f:=223) (fs:=[eZ wb]) (caps:=[]) hdn) rfl rfl (by rw [List.append_nil];exact Mp _) rfl rfl fun c L1 ⟨q',g1,g2⟩=>?_
    subst g2
    repeat' (first|refine ae ?_|refine a6 ?_|refine am ?_|refine a8 ?_|refine aa ?_|refine LR a7 LL ?_|(apply bL;first|refine LV a7 0 LO ?_|refine LV a7 1 LO ?_|refine LV a7 2 LO ?_|refine LV a7 3 LO ?_|refine LW a7 0 LO ?_|refine LW a7 1 LO ?_|refine LW a7 2 LO ?_|refine LZ a7 1 LM (by assumption) rfl ?_|refine LZ a7 0 LM (by assumption) rfl ?_|fail)|fail)
    refine br (b8 (List.Perm.of_eq (List.append_nil _))) ?_
    refine cL (List.sublist_cons_self ..) ?_
    exact MA LL ⟨q',g1,rfl,rfl⟩
   ·rw [if_neg (My h5)]
    repeat' (first|refine ae ?_|refine a6 ?_|refine aq ?_|refine a8 ?_|refine LR a7 LL ?_|(apply aL;first|refine aK a7 ?_|refine aH a7 ?_)|fail)
    refine gp (iv wb E q run) [] (gF.fnB (f:=222) (fs:=[eZ wb]) (caps:=[]) hon) rfl rfl (by rw [List.append_nil];exact Mp _) rfl rfl fun c L1 ⟨q',g1,g2⟩=>?_
    subst g2
    repeat' (first|refine ae ?_|refine a6 ?_|refine am ?_|refine a8 ?_|refine aa ?_|refine LR a7 LL ?_|(apply bL;first|refine LV a7 0 LO ?_|refine LV a7 1 LO ?_|refine LV a7 2 LO ?_|refine LV a7 3 LO ?_|refine LW a7 0 LO ?_|refine LW a7 1 LO ?_|refine LW a7 2 LO ?_|refine LZ a7 1 LM (by assumption) rfl ?_|refine LZ a7 0 LM (by assumption) rfl ?_|fail)|fail)
    refine br (b8 (List.Perm.of_eq (List.append_nil _))) ?_
    refine cL (List.sublist_cons_self ..) ?_
    exact MA LL ⟨q',g1,rfl,rfl⟩
 ·have hv:dB E.ms E.ls n run forms=run:=by
   unfold dB
   by_cases h0:n < 0
   ·rw [if_pos h0]
   ·rw [if_neg h0,List.getElem?_eq_none (by rw [Mv];omega)]
  rw [hv]
  refine bN [0,1,3,9] True rfl (fun Q' K=>?_) (fun hC=>?_) (fun hC=>absurd trivial hC)
  ·repeat' (first|refine aa ?_|refine LR a7 LL ?_|refine MB LL ?_|refine MC LN ?_|refine MD LM (fun _=>?_) (fun _=>?_))
   all_goals first | exact K _ _ rfl rfl (by simp_all <;> omega) | (exfalso;simp_all <;> omega)
  ·repeat' (first|refine ae ?_|refine a6 ?_|refine am ?_|refine a8 ?_|refine az ?_|refine aa ?_|refine LR a7 LL ?_|(apply bL;first|refine LV a7 0 LO ?_|refine LV a7 1 LO ?_|refine LV a7 2 LO ?_|refine LV a7 3 LO ?_|refine LW a7 0 LO ?_|refine LW a7 1 LO ?_|refine LW a7 2 LO ?_|refine LZ a7 1 LM (by assumption) rfl ?_|refine LZ a7 0 LM (by assumption) rfl ?_|fail)|fail)
   refine cL (List.sublist_cons_self ..) ?_
   exact MA LL ⟨q,hq,rfl,rfl⟩
end
structure Kw (u:AV) (ap:Int→List aM→List Int→List aM):Prop where
 ac:∀(n:Int) (run:List aM) (forms:List Int),run.length≤1000000→AC Tryz.prog 140 [u,aF n,.imm 6 (run.map cg),.imm 1 (aT forms)] [cX] fun c L=>∃q,cS q (ap n run forms)∧c=cG q (ap n run forms)∧L=dw q (ap n run forms)++[cX]
 len:∀(n:Int) (run:List aM) (forms:List Int),run.length≤1000000→(ap n run forms).length≤1000000
theorem Li {E:ot} (hE:lF E):Kw (.iptr (dZ E)) (dB E.ms E.ls):=⟨fun n run forms hr=>yc hE n run hr forms,fun _ _ _ hr=>vm.big hr⟩
set_option maxHeartbeats 4000000 in
theorem Fa (cs:List AV) {ap:Int→List aM→List Int→List aM} (h:Kw (.iptr cs) ap) (ns:List Int) (fs:List (List Int)) (q:Option f0) (run:List aM) (hq:cS q run) (hr:run.length≤1000000):AC Tryz.prog 62 [.iptr cs,.imm 1 (aT ns),.imm 1 (bj fs),cG q run] (dw q run++[cX]) fun c L=>∃q',cS q' (ny ap ns fs run)∧c=cG q' (ny ap ns fs run)∧L=dw q' (ny ap ns fs run)++[cX]:=by
 refine aI Tryz.func62 rfl Tryz.ntmps62 rfl fun B=>?_
 refine cF 1 rfl rfl fun hlen=>?_
 refine cm (kN (t:=3) hq rfl) ?_
 have hcl:=vz run hr
 have hnl:=b7 ns
 rw [hnl] at hlen
 have hfl:=c8 fs
 repeat' (first|refine ae ?_|refine a6 ?_|refine a8 ?_|refine aa ?_|refine LR a7 LL ?_)
 refine aW [] [cX] hcl rfl rfl (Mp _) rfl fun c L1 ⟨q',hq',hc,hL⟩=>?_
 subst hc;subst hL
 repeat' (first|refine ae ?_|refine a6 ?_|refine ar ?_|refine a8 ?_|refine aa ?_|refine LR a7 LL ?_)
 refine aN [2,9,17,18] (α:=Nat×Option f0×List aM) (fun s=>[(19,aF s.1),(3,cG s.2.1 s.2.2)]) (fun s=>s.1≤ns.length∧cS s.2.1 s.2.2∧s.2.2.length≤1000000∧ny ap (ns.drop s.1) (fs.drop s.1) s.2.2=ny ap ns fs run) (fun s=>dw s.2.1 s.2.2++[cX]) (fun s=>ns.length - s.1) (0,q',run) rfl ⟨rfl,rfl,trivial⟩ ⟨Nat.zero_le _,hq',hr,rfl⟩ (fun _ _ h=>h) ?_
 rintro ⟨k,q1,run1⟩ ⟨hk,hq1,hr1,hv⟩
 dsimp only at hk hq1 hr1 hv ⊢
 try dsimp only [Mt,Ms,Mr,Mn]
 repeat' (first|refine ae ?_|refine a6 ?_|refine a8 ?_|refine aa ?_|refine LR a7 LL ?_)
 refine aB rfl (fun h0=>?_) (fun h0=>?_)
 ·have hk2:k < ns.length:=by have:=Mz h0;omega
  obtain ⟨n,hn⟩:∃n,ns[k]?=some n:=⟨_,Ia hk2⟩
  have hng:=bH hn
  rw [List.drop_eq_getElem_cons hk2,(Mq hn).2,ny,List.drop_drop] at hv
  clear h0
  refine cm (kN (t:=3) hq1 rfl) ?_
  repeat' (first|refine ae ?_|refine a6 ?_|refine ar ?_|refine aq ?_|refine a8 ?_|refine aa ?_|refine LR a7 LL ?_|(apply aL;first|refine aK a7 ?_|refine aH a7 ?_)|fail)
  refine aB rfl (fun h1=>?_) (fun h1=>?_)
  ·have hf:k < fs.length:=by have:=Mz h1;omega
   obtain ⟨f,hfg⟩:∃f,fs[k]?=some f:=⟨_,Ia hf⟩
   have hfgg:=gh hfg
   have hh:(fs.drop k).headD []=f:=by rw [List.drop_eq_getElem_cons hf,(Mq hfg).2];rfl
   rw [hh] at hv
   have hap:=h.ac n run1 f hr1
   clear h1
   repeat' (first|refine a6 ?_|refine a8 ?_|refine aa ?_|refine LR a7 LL ?_|(apply aL;first|refine aK a7 ?_|refine aH a7 ?_)|fail)
   refine gp [cX] [] (gF.fnB (f:=140) (fs:=[.iptr cs]) (caps:=[]) hap) rfl rfl (Mp _) rfl rfl fun c L1 ⟨q2,hq2,hc,hL⟩=>?_
   subst hc;subst hL
   repeat' (first|refine a6 ?_|refine a8 ?_|refine aP ?_|refine aa ?_|refine LR a7 LL ?_|(apply aY;refine aX ?_)|fail)
   exact aE (k+1,q2,_) rfl ⟨by rw [Mw];rfl,rfl,trivial⟩ ⟨hk2,hq2,h.len _ _ _ hr1,hv⟩ (by dsimp only;omega) (fun _ _ h=>by rw [List.append_nil] at h;exact h)
  ·have hf:fs.length≤k:=by have:=My h1;omega
   have hh:(fs.drop k).headD []=[]:=by rw [List.drop_eq_nil_of_le hf];rfl
   rw [hh] at hv
   have hap:=AC.args (a:=[.iptr cs,aF n,.imm 6 (run1.map cg),.sc (.slice none 0 0)]) (h.ac n run1 [] hr1) ⟨d4.refl _,d4.refl _,d4.refl _,d4.nil 1,trivial⟩
   clear h1
   repeat' (first|refine a6 ?_|refine aq ?_|refine a8 ?_|refine LR a7 LL ?_)
   refine gp [cX] [] (gF.fnB (f:=140) (fs:=[.iptr cs]) (caps:=[]) hap) rfl rfl (Mp _) rfl rfl fun c L1 ⟨q2,hq2,hc,hL⟩=>?_
   subst hc;subst hL
   repeat' (first|refine a6 ?_|refine a8 ?_|refine aP ?_|refine aa ?_|refine LR a7 LL ?_|(apply aY;refine aX ?_)|fail)
   exact aE (k+1,q2,_) rfl ⟨by rw [Mw];rfl,rfl,trivial⟩ ⟨hk2,hq2,h.len _ _ _ hr1,hv⟩ (by dsimp only;omega) (fun _ _ h=>by rw [List.append_nil] at h;exact h)
 ·have hk2:k=ns.length:=by have:=My h0;omega
  subst hk2
  rw [List.drop_length] at hv
  have hv2:run1=ny ap ns fs run:=hv
  repeat' (first|refine ae ?_|refine a6 ?_|refine am ?_|refine aO ?_|refine a8 ?_|refine av ?_|refine aC ?_|refine aA ?_|refine aa ?_|refine LR a7 LL ?_)
  exact MA LL ⟨q1,by rw [←hv2];exact hq1,by rw [←hv2],by rw [←hv2]⟩
end Go.Proofs.YtamjlkdanllgjaaGreatDoor
namespace Go.Proofs.YtamjlkdanllgjaaGreatDoor
def cO (r:Int):Int:=if 57344≤r∧r≤57599 then 1 else if 57600≤r∧r≤57855 then 2 else if 57856≤r∧r≤58111 then 3 else if 58112≤r∧r≤58367 then 4 else if 58368≤r∧r≤58623 then 5 else 0
def pi (r:Int):Int:=if cO r=3 then bits .and .i64 r 15 else 0
def m9 (rs:List Int):Nat→Nat→Nat→List (Nat×Nat)
 | 0,a,i=>if a < i then [(a,i)] else []
 | k+1,a,i=>if i=a∨cO (rs.getD i 0)=3 then m9 rs k a (i+1) else (a,i)::m9 rs k i (i+1)
def dk (rs:List Int):List (Nat×Nat):=m9 rs rs.length 0 0
def pA (key:Nat→Int) (x:Nat) (p:List Nat):Nat→Nat
 | 0=>0
 | j+1=>if key x < key (p.getD j 0) then pA key x p j else j+1
def vU (key:Nat→Int) (p:List Nat) (x:Nat):List Nat:=p.take (pA key x p p.length)++x::p.drop (pA key x p p.length)
def eI (key:Nat→Int) (l:List Nat):List Nat:=l.foldl (vU key) []
def kS (rs:List Int) (a:Nat):Int:=pi (rs.getD a 0)
def cC (rs:List Int) (g:Nat×Nat):List Nat:=if g.1 < g.2∧cO (rs.getD g.1 0)≠3 then g.1::eI (kS rs) (List.range' (g.1+1) (g.2 - (g.1+1))) else eI (kS rs) (List.range' g.1 (g.2 - g.1))
def om (rs:List Int) (s:List Nat×(Nat×Nat)) (g:Nat×Nat):List Nat×(Nat×Nat):=
 let k:=cO (rs.getD g.1 0)
 let t:=if k=5 then s else (s.1++cC rs s.2,(0,0))
 if k=4 then (t.1,g) else (t.1++cC rs g,t.2)
def dv (rs:List Int):List Nat:=
 let s:=(dk rs).foldl (om rs) ([],(0,0))
 s.1++cC rs s.2
theorem yP (key:Nat→Int) (p:List Nat) (x:Nat):(vU key p x).Perm (p++[x]):=by
 unfold vU
 generalize pA key x p p.length=j
 have h:(p.take j++x::p.drop j).Perm (x::(p.take j++p.drop j)):=List.perm_middle
 rw [List.take_append_drop] at h
 exact h.trans (List.perm_append_comm (l₁:=[x]))
theorem kM (key:Nat→Int) (l:List Nat):(eI key l).Perm l:=by
 have:∀(l p:List Nat),(l.foldl (vU key) p).Perm (p++l):=by
  intro l
  induction l with
  | nil=>intro p;simp
  | cons x r ih=>
   intro p
   rw [List.foldl_cons]
   refine (ih _).trans ?_
   refine ((yP key p x).append_right r).trans ?_
   simp
 simpa [eI] using this l []
theorem mw {a b:Nat} (h:a < b):List.range' a (b - a)=a::List.range' (a+1) (b - (a+1)):=by
 rw [show b - a=(b - (a+1))+1 by omega,List.range'_succ]
theorem oa (rs:List Int) (g:Nat×Nat):(cC rs g).Perm (List.range' g.1 (g.2 - g.1)):=by
 unfold cC
 split
 ·rename_i h
  rw [mw h.1]
  exact (kM _ _).cons _
 ·exact kM _ _
theorem ek (rs:List Int) (g:Nat×Nat):(cC rs g).length=g.2 - g.1:=by rw [(oa rs g).length_eq,List.length_range']
theorem lx {rs:List Int} {g:Nat×Nat} {x:Nat} (h:x∈cC rs g):g.1≤x∧x < g.2:=by
 have:=(oa rs g).mem_iff.1 h
 rw [List.mem_range'_1] at this
 omega
def Ga:Nat→List (Nat×Nat)→Nat→Prop
 | a,[],n=>a=n
 | a,g::r,n=>g.1=a∧a < g.2∧Ga g.2 r n
theorem ni (rs:List Int):∀(k a i:Nat),a≤i→(a=i→k=0∨i=a)→(a < i∨k=0∨a=i)→Ga a (m9 rs k a i) (i+k)
 | 0,a,i,h,_,_=>by
  unfold m9
  split
  ·exact ⟨rfl,by assumption,rfl⟩
  ·show a=i+0
   omega
 | k+1,a,i,h,h1,h2=>by
  unfold m9
  split
  ·have:=ni rs k a (i+1) (by omega) (by omega) (by omega)
   rwa [show i+1+k=i+(k+1) by omega] at this
  ·rename_i hn
   have:=ni rs k i (i+1) (by omega) (by omega) (by omega)
   rw [show i+1+k=i+(k+1) by omega] at this
   exact ⟨rfl,by simp only;omega,this⟩
theorem fL (rs:List Int):Ga 0 (dk rs) rs.length:=by
 have:=ni rs rs.length 0 0 (Nat.le_refl _) (by omega) (by omega)
 rwa [Nat.zero_add] at this
theorem lU {n:Nat}:∀{l:List (Nat×Nat)} {a:Nat},Ga a l n→∀g∈l,a≤g.1∧g.1 < g.2∧g.2≤n
 | [],_,_,g,h=>by cases h
 | x::r,a,⟨h1,h2,h3⟩,g,h=>by
  have hle:∀{l:List (Nat×Nat)} {a:Nat},Ga a l n→a≤n:=by
   intro l
   induction l with
   | nil=>intro a h;exact Nat.le_of_eq h
   | cons y s ih=>intro a h;have:=ih h.2.2;have:=h.2.1;have:=h.1;omega
  rcases List.mem_cons.1 h with rfl | h
  ·exact ⟨by omega,by omega,hle h3⟩
  ·have:=lU h3 g h
   omega
structure tk (n a:Nat) (s:List Nat×(Nat×Nat)):Prop where
 le:s.2.1≤s.2.2
 len:s.1.length+(s.2.2 - s.2.1)=a
 mem:∀x∈s.1,x < n
 top:s.2.2≤n
theorem xR {rs:List Int} {n a:Nat} {s:List Nat×(Nat×Nat)} {g:Nat×Nat} (h:tk n a s) (h1:g.1=a) (h2:a < g.2) (h3:g.2≤n):tk n g.2 (om rs s g):=by
 have hm:∀x∈cC rs s.2,x < n:=fun x hx=>by have:=(lx hx).2;have:=h.top;omega
 have hg:∀x∈cC rs g,x < n:=fun x hx=>by have:=(lx hx).2;omega
 have hl:=ek rs s.2
 have hl2:=ek rs g
 have:=h.len
 have:=h.le
 unfold om
 by_cases k5:cO (rs.getD g.1 0)=5
 ·simp only [k5,if_true]
  refine ⟨h.le,?_,?_,h.top⟩
  ·simp;omega
  ·intro x hx
   rcases Mo hx with hx | hx
   ·exact h.mem x hx
   ·exact hg x hx
 ·simp only [k5,if_false]
  split
  ·refine ⟨by simp only;omega,?_,?_,h3⟩
   ·simp;omega
   ·intro x hx
    rcases Mo hx with hx | hx
    ·exact h.mem x hx
    ·exact hm x hx
  ·refine ⟨Nat.le_refl _,?_,?_,Nat.zero_le _⟩
   ·simp;omega
   ·intro x hx
    rcases Mo hx with hx | hx
    ·rcases Mo hx with hx | hx
     ·exact h.mem x hx
     ·exact hm x hx
    ·exact hg x hx
theorem xi {rs:List Int} {n:Nat}:∀{l:List (Nat×Nat)} {a:Nat} {s:List Nat×(Nat×Nat)},tk n a s→Ga a l n→tk n n (l.foldl (om rs) s)
 | [],a,s,h,hc=>by cases hc;exact h
 | g::r,a,s,h,hc=>by
  rw [List.foldl_cons]
  have:=lU hc g (List.mem_cons_self ..)
  exact xi (xR h hc.1 hc.2.1 this.2.2) hc.2.2
theorem iN (rs:List Int):(dv rs).length=rs.length∧∀x∈dv rs,x < rs.length:=by
 have h:=xi (rs:=rs) (n:=rs.length) (s:=([],(0,0))) ⟨Nat.le_refl _,rfl,(fun x hx=>by cases hx),Nat.zero_le _⟩ (fL rs)
 unfold dv
 refine ⟨?_,fun x hx=>?_⟩
 ·have:=h.len
  have:=h.le
  simp [ek]
  omega
 ·rcases Mo hx with hx | hx
  ·exact h.mem x hx
  ·have:=(lx hx).2
   have:=h.top
   omega
def nX (rs fs:List Int) (a b:Nat):List Int:=
 if cO (rs.getD a 0)=2∧(cO (rs.getD b 0)=1∨cO (rs.getD b 0)=2) then (fs.set b 4).set a (if (fs.set b 4).getD a 0=4 then 3 else 2) else fs
def uN (rs:List Int) (s:List Int×Option Nat) (i:Nat):List Int×Option Nat:=
 let k:=cO (rs.getD i 0)
 if k=3 then s else
  let f:=if k=1∨k=2 then s.1.set i 1 else s.1
  (match s.2 with | some a=>nX rs f a i | none=>f,some i)
def g9 (rs:List Int) (i:Nat):List Int×Option Nat:=(List.range i).foldl (uN rs) (List.replicate rs.length 0,none)
def ei (rs:List Int):List Int:=(g9 rs rs.length).1
theorem nV (rs:List Int) (i:Nat):g9 rs (i+1)=uN rs (g9 rs i) i:=by
 unfold g9
 rw [List.range_succ,List.foldl_append]
 rfl
structure Gb (n i:Nat) (s:List Int×Option Nat):Prop where
 len:s.1.length=n
 mem:∀x∈s.1,0≤x∧x≤4
 at_:∀a,s.2=some a→a < i
theorem lp {l:List Int} {i:Nat} {v x:Int} (h:x∈l.set i v):x∈l∨x=v:=by
 obtain ⟨j,hj⟩:=List.mem_iff_getElem?.1 h
 by_cases e:i=j
 ·subst e
  by_cases hi:i < l.length
  ·rw [List.getElem?_set_self hi] at hj
   exact .inr (Option.some.inj hj).symm
  ·rw [List.getElem?_eq_none (by simpa using hi)] at hj
   cases hj
 ·rw [List.getElem?_set_ne e] at hj
  exact .inl (Mx hj)
theorem BK (rs fs:List Int) (a b:Nat):(nX rs fs a b).length=fs.length:=by
 unfold nX;split <;> simp
theorem BL {rs fs:List Int} {a b:Nat} (h:∀x∈fs,0≤x∧x≤4):∀x∈nX rs fs a b,0≤x∧x≤4:=by
 intro x hx
 unfold nX at hx
 split at hx
 ·rcases lp hx with hx | hx
  ·rcases lp hx with hx | hx
   ·exact h x hx
   ·subst hx;decide
  ·subst hx;split <;> decide
 ·exact h x hx
theorem D9 {rs:List Int} {n i:Nat} {s:List Int×Option Nat} (h:Gb n i s):Gb n (i+1) (uN rs s i):=by
 unfold uN
 dsimp only
 split
 ·exact ⟨h.len,h.mem,fun a ha=>Nat.lt_succ_of_lt (h.at_ a ha)⟩
 ·have hm:∀x∈(if cO (rs.getD i 0)=1∨cO (rs.getD i 0)=2 then s.1.set i 1 else s.1),0≤x∧x≤4:=by
   intro x hx
   split at hx
   ·rcases lp hx with hx | hx
    ·exact h.mem x hx
    ·subst hx;decide
   ·exact h.mem x hx
  have hl:(if cO (rs.getD i 0)=1∨cO (rs.getD i 0)=2 then s.1.set i 1 else s.1).length=n:=by
   rw [←h.len];split <;> simp
  refine ⟨?_,?_,fun a ha=>by cases ha;exact Nat.lt_succ_self _⟩
  ·cases s.2 with
   | none=>exact hl
   | some a=>dsimp only;rw [BK];exact hl
  ·cases s.2 with
   | none=>exact hm
   | some a=>exact BL hm
theorem kB (rs:List Int):∀i,Gb rs.length i (g9 rs i)
 | 0=>⟨by simp [g9],by simp [g9],by simp [g9]⟩
 | i+1=>by rw [nV];exact D9 (kB rs i)
theorem rl (rs:List Int):(ei rs).length=rs.length:=(kB rs rs.length).len
theorem yK {rs:List Int}:∀x∈ei rs,0≤x∧x≤4:=(kB rs rs.length).mem
end Go.Proofs.YtamjlkdanllgjaaGreatDoor
