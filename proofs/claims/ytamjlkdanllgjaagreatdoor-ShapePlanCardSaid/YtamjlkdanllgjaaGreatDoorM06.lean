/-
  More steps: make, what is told in another way.
-/
import Derived.Test.YtamjlkdanllgjaaGreatDoorM05
import Derived.Test.YtamjlkdanllgjaaGreatDoorM04
import Derived.Laws.StructEq
namespace Go.Proofs.YtamjlkdanllgjaaGreatDoor
open Go.RowKit
section
variable {P:Program} {tt:TT} {r:Option Nat} {ops:Array Oper} {Q:Exit→Act→World→Prop} {nt:Nat} {D:List Deferred} {fr:bZ} {B:Bs} {L:AL} {rest:List Oper} {d:Nat} {ty t:TypeId} {pos:String} {af:Array Edge} {x y z:Operand} {u:AV}
theorem ej (ok:eh P tt) (n:Nat) {e sz by_:Nat} {k k':IntKind} {a b:Int} {zs:List Value} (ht:jW tt t=some (e,sz,by_)) (hz:zI tt e=some zs) (h1:zs.all (·.oneCell')=true) (hx:bw fr x=some (.sc (.int k a))) (hy:bw fr y=some (.sc (.int k' b))) (ha:a=(n:Int)) (hb:b=(n:Int)) (hby:by_ * n≤281474976710656) (h63:n≤9223372036854775807) (hd:Nat.ble nt d=false)
  (h:∀b,bF P r ops Q nt D rest ((d,.sc (.slice (some ⟨b,0,none⟩) n n))::fr) B ((b,.box ((List.replicate n (zs.map .sc)).flatten) e)::L)):bF P r ops Q nt D (⟨some d,.makeSlice t x y,ty,pos,af,none⟩::rest) fr B L:=
 cn hd rfl (zk (bE ok ht).1 (eA ok hz) h1 (bE ok ht).2 hx hy ha hb hby h63) fun c L' ⟨b,h1,h2⟩=>by subst h1;subst h2;exact h b
theorem bh {f:FuncId} {args:Array Operand} {ts:Array TypeId} {cs ds:List AV} {Post:AV→AL→Prop} [bK P f] (Lc Lf:AL) (hc:AC P f ds Lc Post) (hv:eB fr args.toList=some cs) (hi:lq cs=some ds) (hL:L.Perm (Lc++Lf)) (hd:Nat.ble nt d=false) (h:∀c L1,Post c L1→bF P r ops Q nt D rest ((d,c)::fr) B (L1++Lf)):
  bF P r ops Q nt D (⟨some d,.call ⟨.value (.func f),args,ts⟩,ty,pos,af,none⟩::rest) fr B L:=by
 have hc':=hc
 rw [←iw hi] at hc'
 refine cn hd rfl (mZ Lc Lf hv (fun σ vs h=>h.im) hL hc') fun c L' hh=>?_
 obtain ⟨L1,h1,h2⟩:=hh
 subst h2
 exact h c L1 h1
theorem qy {σ0:cm} {l:Nat} {args:Array Operand} {ts:Array TypeId} {cs ds:List AV} {Post:AV→AL→Prop} (Lc Lf:AL) (hB:σ0.le B.σ) (hc:AY P σ0 l ds Lc Post) (hz:bw fr z=some (.sc (.func (.yield l) #[] #[]))) (hv:eB fr args.toList=some cs) (hi:lq cs=some ds) (hL:L.Perm (Lc++Lf)) (hn:Oper.noDefer ⟨some d,.call ⟨.value z,args,ts⟩,ty,pos,af,none⟩=true) (hd:Nat.ble nt d=false) (h:∀c L1,Post c L1→bF P r ops Q nt D rest ((d,c)::fr) B (L1++Lf)):
  bF P r ops Q nt D (⟨some d,.call ⟨.value z,args,ts⟩,ty,pos,af,none⟩::rest) fr B L:=by
 have hc':=hc
 rw [←iw hi] at hc'
 refine cn hd hn (Dt hB Lc Lf hz hv (fun σ vs h=>h.im) hL hc') fun c L' hh=>?_
 obtain ⟨L1,h1,h2⟩:=hh
 subst h2
 exact h c L1 h1
theorem du {e:Exit} {L':AL} (hs:L'.Sublist L) (h:AX P e Q nt D fr B L'):AX P e Q nt D fr B L:=fun σ a w ha hw=>h σ a w ha (hw.sublist hs)
end
theorem It {σ:cm} {cs cs':List AV} {vs:List Value} (hl:cs.length=cs'.length) (h:∀(i:Nat) c c',cs[i]?=some c→cs'[i]?=some c'→∀v,VR σ c v→VR σ c' v) (hv:d4 σ cs vs):d4 σ cs' vs:=by
 refine ⟨hl.symm.trans hv.1,fun i c' u hc hu=>?_⟩
 have hi:i < cs.length:=by rw [hl];exact (Ol hc).1
 exact h i _ c' (Oz hi) hc _ (hv.2 i _ u (Oz hi) hu)
theorem bB {nt:Nat} {D:List Deferred} {B:Bs} {fr:bZ} {L:AL} (i:Nat) {b:Nat} {cs cs':List AV} {e:TypeId} (hL:L[i]?=some (b,.box cs e)) (h:∀σ vs,d4 σ cs vs→d4 σ cs' vs):mq nt D B fr L fr (fN L i (.box cs' e)):=by
 intro σ a w ha hw0
 have hw:=hw0.perm (fC hL)
 obtain ⟨o,ho,vs,rfl,hvs,h1⟩:=hw.here _ (List.mem_cons_self ..)
 refine ⟨σ,ha,dg.perm (L:=(b,.box cs' e)::L.eraseIdx i) ?_ (sV _ hL)⟩
 refine ⟨hw.os,hw.tape,hw.output,hw.size,hw.old,fun p hp=>?_,fun p hp=>?_,by simpa using hw.apart,hw.froz,fun p hp off hm=>?_,hw.grow,hw.same⟩
 ·rcases List.mem_cons.1 hp with rfl | hp'
  ·exact ⟨_,ho,vs,rfl,h σ vs hvs,h1⟩
  ·exact hw.here p (Ot _ hp')
 ·rcases List.mem_cons.1 hp with rfl | hp'
  ·exact hw.mine (b,.box cs e) (List.mem_cons_self ..)
  ·exact hw.mine p (Ot _ hp')
 ·rcases List.mem_cons.1 hp with rfl | hp'
  ·exact hw.free (b,.box cs e) (List.mem_cons_self ..) off trivial
  ·exact hw.free p (Ot _ hp') off hm
theorem gu {cs:List AV} {k:Nat} {c:AV}:eR cs k [c]=cs.set k c:=rfl
end Go.Proofs.YtamjlkdanllgjaaGreatDoor
namespace Go.Proofs.YtamjlkdanllgjaaGreatDoor
open Go.RowKit
def kW (u:AV):Option (FuncId×List AV):=match u with
 | .fn f cs=>some (f,cs)
 | .sc (.func (.func f) a b)=>match a.toList with
  | []=>match b.toList with
   | []=>some (f,[])
   | _=>none
  | _=>none
 | _=>none
theorem Eb {u:AV} {f:FuncId} {cs:List AV} (h:kW u=some (f,cs)) {σ:cm} {v:Value} (hv:VR σ u v):VR σ (.fn f cs) v:=by
 unfold kW at h
 split at h
 ·cases h;exact hv
 ·rename_i a b
  split at h
  ·rename_i ha
   split at h
   ·rename_i hb
    cases h
    have e1:a=#[]:=by apply Array.toList_inj.1;simpa using ha
    have e2:b=#[]:=by apply Array.toList_inj.1;simpa using hb
    subst e1;subst e2
    rw [hv.sc_inv]
    exact .fn f [] [] rfl (fun i c u h=>by simp at h)
   ·cases h
  ·cases h
 ·cases h
section
variable {P:Program} {r:Option Nat} {ops:Array Oper} {Q:Exit→Act→World→Prop} {nt:Nat} {D:List Deferred} {fr:bZ} {B:Bs} {L:AL} {rest:List Oper} {d:Nat} {ty t:TypeId} {pos:String} {af:Array Edge} {x y z:Operand} {u:AV} {g:Option (Nat×Bool)}
theorem vy (Lc Lf:AL) {d:Option Tmp} {f:FuncId} {args:Array Operand} {ts:Array TypeId} {cs caps:List AV} {Post:AV→AL→Prop} [hf:bK P f] (hx:bw fr x=some u) (hu:kW u=some (f,caps)) (hv:eB fr args.toList=some cs) (hL:L.Perm (Lc++Lf)) (h:AC P f (cs++caps) Lc Post):
  AO P ⟨d,.call ⟨.value x,args,ts⟩,ty,pos,af,g⟩ fr B L (fun c L'=>∃L1,Post c L1∧L'=L1++Lf):=by
 intro σ ρ w hρ hw0
 have hw:=hw0.perm hL
 obtain ⟨ws,hw1,hw2⟩:=(Eb hu (hρ x _ hx)).fn_inv
 have hvs:=fh hρ _ _ hv
 have e:args.map ρ=(args.toList.map ρ).toArray:=by apply Array.toList_inj.1;simp
 unfold i8
 rw [show (execOp ρ ⟨d,.call ⟨.value x,args,ts⟩,ty,pos,af,g⟩).run P w= .ok (.enter f (args.toList.map ρ++ws).toArray) w by
  simp [execOp,resolve,hw1,Deferred.ofValue,invoke,hf.enters]]
 have hall:d4 σ (cs++caps) (args.toList.map ρ++ws):=by
  refine ⟨by rw [List.length_append,List.length_append,hvs.1,hw2.1],fun i c u hc hu=>?_⟩
  have hq:=hvs.1
  by_cases hi:i < cs.length
  ·rw [List.getElem?_append_left hi] at hc
   rw [List.getElem?_append_left (by omega)] at hu
   exact hvs.2 i c u hc hu
  ·rw [List.getElem?_append_right (by omega)] at hc
   rw [List.getElem?_append_right (by omega),←hq] at hu
   exact hw2.2 _ c u hc hu
 refine (h σ w _ hall hw.enter).mono fun en w' ⟨v,τ,c,L',h1,h2,h3,h4⟩=>⟨v,h1,τ,c,L'++Lf,h3.grow,h2,hw.leave h3,L',h4,rfl⟩
theorem dO {f:FuncId} {args:Array Operand} {ts:Array TypeId} {cs caps:List AV} {Post:AV→AL→Prop} [bK P f] (Lc Lf:AL) (hc:AC P f (cs++caps) Lc Post) (hx:bw fr x=some u) (hu:kW u=some (f,caps)) (hv:eB fr args.toList=some cs) (hL:L.Perm (Lc++Lf)) (hn:Oper.noDefer ⟨some d,.call ⟨.value x,args,ts⟩,ty,pos,af,none⟩=true) (hd:Nat.ble nt d=false) (h:∀c L1,Post c L1→bF P r ops Q nt D rest ((d,c)::fr) B (L1++Lf)):
  bF P r ops Q nt D (⟨some d,.call ⟨.value x,args,ts⟩,ty,pos,af,none⟩::rest) fr B L:=
 cn hd hn (vy Lc Lf hx hu hv hL hc) fun c L' ⟨L1,h1,h2⟩=>by subst h2;exact h c L1 h1
end
theorem j3.shadow2 {σ:cm} {nt:Nat} {D:List Deferred} {fr:bZ} {a:Act} {t:Nat} {v:AV} (h:j3 σ nt D fr a) (hl:VR σ v (a.tmps.getD t undef)):j3 σ nt D ((t,v)::fr) a:=
 ⟨h.size,h.defers,fun t' v' hl'=>by
  rw [ck] at hl'
  by_cases e:t=t'
  ·subst e;simp only [if_true,Option.some.injEq] at hl';subst hl';exact hl
  ·rw [if_neg e] at hl';exact h.look t' v' hl'⟩
theorem da {P:Program} {r:Option Nat} {ops:Array Oper} {Q:Exit→Act→World→Prop} {nt:Nat} {D:List Deferred} {fr fr0:bZ} {B:Bs} {L:AL} {rest:List Oper} {t:Nat} (ks:List Nat) (C:Prop) [Decidable C] (hks:fL fr ks=some fr0) (h:∀Q',(∀fr' b,fL fr' ks=some fr0→ce fr' t=some (.sc (.bool b))→(b=true↔C)→AX P .normal Q' nt D fr' B L)→bF P r ops Q' nt D rest fr B L) (k:AX P .normal Q nt D ((t,.sc (.bool (decide C)))::fr0) B L):bF P r ops Q nt D rest fr B L:=by
 refine h Q fun fr' b hk hb hC=>fun σ a w ha hw=>k σ a w ?_ hw
 have hb':b=decide C:=by
  by_cases hc:C
  ·rw [decide_eq_true hc,hC.2 hc]
  ·rw [decide_eq_false hc]
   cases b with
   | true=>exact absurd (hC.1 rfl) hc
   | false=>rfl
 subst hb'
 exact (ha.weak (ea _ hk)).shadow2 (ha.look t _ hb)
theorem AC.frame {P:Program} {f:FuncId} {args:List AV} {L Lf:AL} {Post:AV→AL→Prop} (h:AC P f args L Post):AC P f args (L++Lf) fun c L'=>∃L1,Post c L1∧L'=L1++Lf:=by
 intro σ w vs hv hs
 refine (h σ w vs hv hs.enter).mono fun en w' ⟨v,τ,c,L',h1,h2,h3,h4⟩=>⟨v,τ,c,L'++Lf,h1,h2,hs.leave h3,L',h4,rfl⟩
theorem Iv.perm {P:Program} {σ0:cm} {f:FuncId} {args:List AV} {L L2:AL} {Post:AV→AL→Prop} (h:Iv P σ0 f args L Post) (hp:L2.Perm L):Iv P σ0 f args L2 Post:=by
 intro σ w vs hle hv hs
 refine (h σ w vs hle hv ?_).mono fun en w' ⟨v,τ,c,L',h1,h2,h3,h4⟩=>⟨v,τ,c,L',h1,h2,?_,h4⟩
 ·have:=hs.perm hp
  exact ⟨this.os,this.tape,this.output,this.size,fun k h1 h2=>this.old k h1 (fun h3=>h2 ((hp.map _).mem_iff.1 h3)),this.here,fun p hp'=>(this.mine p hp').imp id (fun h3=>(hp.map _).mem_iff.1 h3),this.apart,this.froz,this.free,this.grow,fun b h1 h2=>this.same b h1 (fun h3=>h2 ((hp.map _).mem_iff.1 h3))⟩
 ·exact ⟨h3.os,h3.tape,h3.output,h3.size,fun k h1 h2=>h3.old k h1 (fun h3=>h2 ((hp.map _).mem_iff.2 h3)),h3.here,fun p hp'=>(h3.mine p hp').imp id (fun h3=>(hp.map _).mem_iff.2 h3),h3.apart,h3.froz,h3.free,h3.grow,fun b h1 h2=>h3.same b h1 (fun h3=>h2 ((hp.map _).mem_iff.2 h3))⟩
theorem bS {nt:Nat} {D:List Deferred} {B:Bs} {fr:bZ} {L L':AL} (h:L'.Sublist L):mq nt D B fr L fr L':=fun σ _ _ ha hw=>⟨σ,ha,hw.sublist h⟩
section
variable {P:Program} {l:List Oper} {fr:bZ} {fin:kV} {sk:mT} {acc:bZ} {L:AL} {k:Nat} {dd:Option Tmp} {ty:TypeId} {pos:String} {af:Array Edge} {g:Option (Nat×Bool)} {x:Operand} {u:AV}
theorem ki {f:FuncId} {args:Array Operand} {ts:Array TypeId} {cs ds:List AV} {Post:AV→AL→Prop} [bK P f] (Lc Lf:AL) (hc:AC P f ds Lc Post) (hv:eB (cO l.toArray acc fr af.toList) args.toList=some cs) (hi:lq cs=some ds) (hL:L.Perm (Lc++Lf)) (hg:j6 ⟨dd,.call ⟨.value (.func f),args,ts⟩,ty,pos,af,g⟩ acc) (h:∀c L1,Post c L1→DA P l fr fin sk ((k,c)::acc) (L1++Lf)):
  cu P l fr fin k .e ⟨dd,.call ⟨.value (.func f),args,ts⟩,ty,pos,af,g⟩ sk acc L:=by
 have hc':=hc
 rw [←iw hi] at hc'
 exact iJ hg (fun B=>mZ Lc Lf hv (fun σ vs h=>h.im) hL hc') fun c L' ⟨L1,h1,h2⟩=>by subst h2;exact h c L1 h1
theorem ue {f:FuncId} {args:Array Operand} {ts:Array TypeId} {cs ds:List AV} {Post:AV→AL→Prop} [bK P f] (Lc Lf:AL) (hc:AC P f ds Lc Post) (hv:eB (cO l.toArray acc fr af.toList) args.toList=some cs) (hi:lq cs=some ds) (hL:L.Perm (Lc++Lf)) (hg:j6 ⟨dd,.call ⟨.value (.func f),args,ts⟩,ty,pos,af,g⟩ acc) (hK:∀c L1,Post c L1→fc fin.gs L→fc fin.gs (L1++Lf)) (h:∀c L1,Post c L1→DA P l fr fin sk ((k,c)::acc) (L1++Lf)):
  cu P l fr fin k .f ⟨dd,.call ⟨.value (.func f),args,ts⟩,ty,pos,af,g⟩ sk acc L:=by
 have hc':=hc
 rw [←iw hi] at hc'
 exact zy (fun c L' ⟨L1,h1,h2⟩ hk=>by subst h2;exact hK c L1 h1 hk) hg (fun B=>mZ Lc Lf hv (fun σ vs h=>h.im) hL hc') fun c L' ⟨L1,h1,h2⟩=>by subst h2;exact h c L1 h1
end
theorem bH.any {P:Program} {f:FuncId} {args:List AV} {u:AV} (h:bH P f args u) (L:AL):AC P f args L fun c L'=>c=u∧∃L1,L'=L1++L:=(AC.frame (Lf:=L) h).mono fun c L' ⟨L1,h1,h2⟩=>⟨h1,L1,h2⟩
end Go.Proofs.YtamjlkdanllgjaaGreatDoor
namespace Go.Proofs.YtamjlkdanllgjaaGreatDoor
open Go.RowKit Go.MapKept
structure jY (P:Program) (t:TypeId):Prop where
 ex:∃f1 f2:Field,P.underlying t=some (.struct #[f1,f2])∧(f1.name≠ "_" ∧f2.name≠ "_")∧(f1.offset=0∧f2.offset=1)∧P.underlying f1.type=some (.int .i64)∧P.underlying f2.type=some (.int .i64)
 st:P.stoodInHeld t=false
abbrev od (a b:Int):Value:= .agg #[.int .i64 a,.int .i64 b]
def tZ (v:Value):Prop:=∃a b,v=od a b
section
variable {P:Program} {t:TypeId}
theorem sP {u:TypeId} {k:IntKind} (h:P.underlying u=some (.int k)) (w:World):(isAgg u).run P w= .ok false w:=by
 simp [isAgg,run_underlying h]
theorem ew {u:TypeId} {k:IntKind} (h:P.underlying u=some (.int k)) {cs:Array Value} {o:Nat} {v:Value} (hv:cs[o]?=some v) (w:World):(part u cs o).run P w= .ok v w:=by
 simp [part,sP h,hv,Result.andThen]
theorem jY.eq (h:jY P t) (a b c d:Int) (w:World):(Op.equal t (od a b) (od c d)).run P w= .ok (decide (a=c∧b=d)) w:=by
 obtain ⟨⟨f1,f2,hu,⟨hn1,hn2⟩,⟨ho1,ho2⟩,h1,h2⟩,hst⟩:=h
 have hf:P.fieldsOf t=#[f1,f2]:=by simp [Program.fieldsOf,hu]
 have hu':P.underlying t=some (.struct (P.fieldsOf t)):=by rw [hf];exact hu
 unfold Op.equal
 rw [show Op.maxDepth=9999+1 from rfl,run_equalIn_struct w 9999 t _ _ hu' hst,hf]
 simp only [Op.eqFields,if_pos hn1,if_pos hn2,Sem.run_bind,ho1,ho2]
 rw [ew h1 (v:= .int .i64 a) (by rfl)]
 simp only [Result.andThen]
 rw [ew h1 (v:= .int .i64 c) (by rfl)]
 simp only [Result.andThen]
 rw [show (9999:Nat)=9998+1 from rfl,run_equalIn_int w 9998 f1.type .i64 .i64 a c h1]
 simp only [Result.andThen,Sem.run_ite]
 by_cases hac:a=c
 ·subst hac
  simp only [BEq.rfl,Bool.not_true,Bool.false_eq_true,if_false,Sem.run_bind]
  rw [ew h2 (v:= .int .i64 b) (by rfl)]
  simp only [Result.andThen]
  rw [ew h2 (v:= .int .i64 d) (by rfl)]
  simp only [Result.andThen]
  rw [run_equalIn_int w 9998 f2.type .i64 .i64 b d h2]
  by_cases hbd:b=d
  ·subst hbd;simp
  ·simp [hbd]
 ·simp [hac]
theorem oa {a b c d:Int}:od a b=od c d↔a=c∧b=d:=by simp
theorem jY.check (h:jY P t) {k:Value} (hk:tZ k) (e:Bool) (n:Nat) (w:World):(Instr.checkKey e (n+2) t k).run P w= .ok () w:=by
 obtain ⟨⟨f1,f2,hu,⟨hn1,hn2⟩,⟨ho1,ho2⟩,h1,h2⟩,hst⟩:=h
 obtain ⟨a,b,rfl⟩:=hk
 unfold Instr.checkKey
 simp only [Sem.run_bind,run_underlying hu,Result.andThen]
 rw [←Array.forIn_toList]
 simp only [List.forIn_cons,List.forIn_nil,if_pos hn1,if_pos hn2,Sem.run_bind,ho1,ho2]
 rw [ew h1 (v:= .int .i64 a) (by rfl)]
 simp only [Result.andThen]
 rw [run_checkKey (d:= .int .i64) h1 (by rfl)]
 simp only [Result.andThen,Sem.run_bind,Sem.run_pure]
 rw [ew h2 (v:= .int .i64 b) (by rfl)]
 simp only [Result.andThen]
 rw [run_checkKey (d:= .int .i64) h2 (by rfl)]
 simp only [Result.andThen,Sem.run_bind,Sem.run_pure]
theorem jY.asking (h:jY P t) {k:Value} (hk:tZ k) (w:World):∀(l:List MapEntry) (i:Nat),(∀x∈l,tZ x.key)→
  ((Instr.findAsking t k l i).run P w= .ok none w∧∀x∈l,x.key≠k)∨∃j e,(Instr.findAsking t k l i).run P w= .ok (some (i+j,e.val)) w∧l[j]?=some e∧e.key=k
 | [],_,_=> .inl ⟨by simp [Instr.findAsking],by simp⟩
 | e::es,i,hall=>by
  obtain ⟨a,b,rfl⟩:=hk
  obtain ⟨c,d,hc⟩:=hall e (.head _)
  have he:=h.eq a b c d w
  by_cases hh:a=c∧b=d
  ·refine .inr ⟨0,e,?_,rfl,by rw [hc,oa];exact ⟨hh.1.symm,hh.2.symm⟩⟩
   rw [Instr.findAsking,Sem.run_bind,hc,he,decide_eq_true hh]
   simp [Result.andThen]
  ·have hne:e.key≠od a b:=fun q=>hh (by rw [hc,oa] at q;exact ⟨q.1.symm,q.2.symm⟩)
   have hr:(Instr.findAsking t (od a b) (e::es) i).run P w=(Instr.findAsking t (od a b) es (i+1)).run P w:=by
    rw [Instr.findAsking,Sem.run_bind,hc,he,decide_eq_false hh]
    simp [Result.andThen]
   rw [hr]
   rcases jY.asking h ⟨a,b,rfl⟩ w es (i+1) (fun x hx=>hall x (.tail _ hx)) with ⟨h1,h2⟩ | ⟨j,e',h1,h2,h3⟩
   ·exact .inl ⟨h1,fun x hx=>by
     cases hx with
     | head=>exact hne
     | tail _ hx=>exact h2 x hx⟩
   ·exact .inr ⟨j+1,e',by rw [h1,show i+(j+1)=i+1+j by omega],by simpa using h2,h3⟩
theorem jY.find (h:jY P t) {k:Value} (hk:tZ k) (w:World) (l:List MapEntry) (hall:∀x∈l,tZ x.key):
  ((Instr.findKey t k l).run P w= .ok none w∧∀x∈l,x.key≠k)∨∃j e,(Instr.findKey t k l).run P w= .ok (some (j,e.val)) w∧l[j]?=some e∧e.key=k:=by
 have h0:=h
 obtain ⟨⟨f1,f2,hu,_⟩,_⟩:=h0
 cases l with
 | nil=>exact .inl ⟨by simp [Instr.findKey,run_underlying hu,Result.andThen,Instr.findNow],by simp⟩
 | cons e es=>
  have hr:(Instr.findKey t k (e::es)).run P w=(Instr.findAsking t k (e::es) 0).run P w:=by
   simp [Instr.findKey,run_underlying hu,Result.andThen,Instr.findNow,Instr.sameNow]
  rw [hr]
  rcases h.asking hk w (e::es) 0 hall with h1 | ⟨j,e',h1,h2⟩
  ·exact .inl h1
  ·exact .inr ⟨j,e',by rw [h1,Nat.zero_add],h2⟩
theorem sQ {k:Value} (hk:tZ k) (w:World):(Instr.keyThatStays k k).run P w= .ok k w:=by
 obtain ⟨a,b,rfl⟩:=hk
 have:Instr.sameBits 10000 (od a b) (od a b)=true:=by
  rw [show (10000:Nat)=9999+1 from rfl]
  simp [Instr.sameBits]
 simp [Instr.keyThatStays,this]
end
def i9 (m:Int→Int→Option AV) (σ:cm) (o:Obj):Prop:=
 ∃es clock,o= .map es clock∧(∀x∈es.toList,∃a b,x.key=od a b∧∃c,m a b=some c∧VR σ c x.val)∧es.toList.Pairwise (fun x y=>x.key≠y.key)∧∀a b c,m a b=some c→∃x∈es.toList,x.key=od a b
def il (m:Int→Int→Option AV):AB:= .dep (i9 m) fun σ τ o hle ⟨es,clock,h1,h2,h3,h4⟩=>⟨es,clock,h1,fun x hx=>by
 obtain ⟨a,b,e,c,g,f⟩:=h2 x hx
 exact ⟨a,b,e,c,g,f.mono hle⟩,h3,h4⟩
theorem i9.keys {m:Int→Int→Option AV} {σ:cm} {es:Array MapEntry} {clock:Nat} (h:i9 m σ (.map es clock)):∀x∈es.toList,tZ x.key:=by
 obtain ⟨es',clock',h1,h2,h3,h4⟩:=h
 cases h1
 intro x hx
 obtain ⟨a,b,h5,_⟩:=h2 x hx
 exact ⟨a,b,h5⟩
theorem i9.none {P:Program} {t:TypeId} (ht:jY P t) {m:Int→Int→Option AV} {σ:cm} {es:Array MapEntry} {clock:Nat} {a b:Int} (h:i9 m σ (.map es clock)) (hm:m a b=none) (w:World):(Instr.findKey t (od a b) es.toList).run P w= .ok none w∧∀x∈es.toList,x.key≠od a b:=by
 rcases ht.find ⟨a,b,rfl⟩ w es.toList h.keys with h5 | ⟨j,e,h5,h6,h7⟩
 ·exact h5
 ·obtain ⟨es',clock',h1,h2,h3,h4⟩:=h
  cases h1
  obtain ⟨a',b',h8,c,h9,_⟩:=h2 e (Ow h6)
  rw [h7,oa] at h8
  rw [h8.1,h8.2] at hm
  rw [hm] at h9
  cases h9
theorem i9.some {P:Program} {t:TypeId} (ht:jY P t) {m:Int→Int→Option AV} {σ:cm} {es:Array MapEntry} {clock:Nat} {a b:Int} {c:AV} (h:i9 m σ (.map es clock)) (hm:m a b=some c) (w:World):∃(j:Nat) (e:MapEntry),(Instr.findKey t (od a b) es.toList).run P w= .ok (some (j,e.val)) w∧es[j]?=some e∧e.key=od a b∧VR σ c e.val:=by
 rcases ht.find ⟨a,b,rfl⟩ w es.toList h.keys with ⟨_,h5⟩ | ⟨j,e,h5,h6,h7⟩
 ·obtain ⟨es',clock',h1,h2,h3,h4⟩:=h
  cases h1
  obtain ⟨x,hx,hk'⟩:=h4 a b c hm
  exact absurd hk' (h5 x hx)
 ·obtain ⟨es',clock',h1,h2,h3,h4⟩:=h
  cases h1
  obtain ⟨a',b',h8,c',h9,h10⟩:=h2 e (Ow h6)
  rw [h7,oa] at h8
  rw [←h8.1,←h8.2,hm] at h9
  cases h9
  exact ⟨j,e,h5,by simpa using h6,h7,h10⟩
theorem vd {σ:cm} {a b:Int} {v:Value} (h:VR σ (.agg [.sc (.int .i64 a),.sc (.int .i64 b)]) v):v=od a b:=by
 obtain ⟨vs,rfl,hs,_⟩:=h.agg_inv
 obtain ⟨v1,ws,rfl,h1,h2⟩:=hs.inv
 obtain ⟨v2,ws',rfl,h3,h4⟩:=h2.inv
 rw [h4.nil_inv,h1.sc_inv,h3.sc_inv]
section
variable {P:Program} {fr:bZ} {B:Bs} {L:AL} {d:Option Tmp} {ty t:TypeId} {pos:String} {af:Array Edge} {g:Option (Nat×Bool)} {x y z:Operand} {u:AV}
theorem vB:AO P ⟨d,.makeMap t none,ty,pos,af,g⟩ fr B L (fun c L'=>∃b,c= .sc (.map (some b))∧L'=(b,il fun _ _=>none)::L):=by
 intro σ ρ w hρ hw
 have hr:(execOp ρ ⟨d,.makeMap t none,ty,pos,af,g⟩).run P w= .ok (.value (.map (some w.heap.size))) (w.alloc (.map #[] 0)):=by
  simp [execOp,Instr.makeMap]
 unfold i8
 rw [hr]
 exact ⟨σ,_,_,cm.le_refl _,.sc _,hw.alloc _ (il fun _ _=>Option.none) ⟨#[],0,rfl,by simp,by simp,by simp⟩,_,rfl,rfl⟩
theorem sC (i:Nat) {m1 kt et:Nat} {a b:Int} {m m':Int→Int→Option AV} (ht:P.underlying t=some (.map kt et)) (hkt:jY P kt) (hx:bw fr x=some (.sc (.map (some m1)))) (hy:bw fr y=some (.agg [.sc (.int .i64 a),.sc (.int .i64 b)])) (hz:bw fr z=some u) (hL:L[i]?=some (m1,il m)) (h1:m' a b=some u) (h2:∀p q,¬(p=a∧q=b)→m' p q=m p q):
  AO P ⟨d,.mapUpdate t x y z,ty,pos,af,g⟩ fr B L (fun _ L'=>L'=fN L i (il m')):=by
 intro σ ρ w hρ hw
 obtain ⟨o,ho,hM⟩:=hw.here _ (Ow hL)
 have hM':i9 m σ o:=hM
 obtain ⟨es,clock,rfl,h3,h4,h5⟩:=hM'
 have hM':i9 m σ (.map es clock):=hM
 have hv:=hρ z u hz
 have hy':=vd (hρ y _ hy)
 have hlt:m1 < w.heap.size:=(Array.getElem?_eq_some_iff.1 ho).1
 have hk:tZ (od a b):=⟨a,b,rfl⟩
 have key:∃es' clock',(Instr.mapUpdate t (.map (some m1)) (od a b) (ρ z)).run P w= .ok () (w.putObj m1 (.map es' clock'))∧i9 m' σ (.map es' clock'):=by
  cases hm:m a b with
  | none=>
   obtain ⟨hf,hne⟩:=hM'.none hkt hm w
   refine ⟨es.push ⟨od a b,ρ z,clock⟩,clock+1,?_,_,_,rfl,?_,?_,?_⟩
   ·simp only [Instr.mapUpdate,Sem.run_bind,run_underlying ht,MapKept.run_getObj_map ho,hkt.check hk false 9998 w,hf,Result.andThen]
    rw [MapKept.run_setObj_map _ ho]
    rfl
   ·intro e he
    rw [Array.toList_push,List.mem_append,List.mem_singleton] at he
    rcases he with he | rfl
    ·obtain ⟨p,q,h6,c,h7,h8⟩:=h3 e he
     refine ⟨p,q,h6,c,?_,h8⟩
     rw [h2 p q (fun e1=>by rw [e1.1,e1.2,hm] at h7;cases h7)]
     exact h7
    ·exact ⟨a,b,rfl,u,h1,hv⟩
   ·rw [Array.toList_push,List.pairwise_append]
    refine ⟨h4,by simp,fun e he e' he'=>?_⟩
    rw [List.mem_singleton] at he'
    subst he'
    exact hne e he
   ·intro p q c hq
    by_cases e:p=a∧q=b
    ·obtain ⟨rfl,rfl⟩:=e
     exact ⟨_,by rw [Array.toList_push];exact List.mem_append.2 (Or.inr (List.mem_singleton.2 rfl)),rfl⟩
    ·rw [h2 p q e] at hq
     obtain ⟨y,hy,hy'⟩:=h5 p q c hq
     exact ⟨y,by rw [Array.toList_push];exact List.mem_append.2 (Or.inl hy),hy'⟩
  | some c=>
   obtain ⟨j,e,h6,h7,h8,h9⟩:=hM'.some hkt hm w
   have hdis:∀n e',es[n]?=some e'→¬j=n→e'.key≠od a b:=by
    intro n e' hn hne
    rw [←Array.getElem?_toList] at hn h7
    rw [←h8]
    rw [List.pairwise_iff_getElem] at h4
    obtain ⟨hj1,hj2⟩:=Ol h7
    obtain ⟨hn1,hn2⟩:=Ol hn
    rcases Nat.lt_or_gt_of_ne hne with hlt | hgt
    ·have:=h4 j n hj1 hn1 hlt
     rw [hj2,hn2] at this
     exact this.symm
    ·have:=h4 n j hn1 hj1 hgt
     rw [hj2,hn2] at this
     exact this
   refine ⟨es.modify j (fun e'=>{ e' with key:=od a b,val:=ρ z }),clock,?_,_,_,rfl,?_,?_,?_⟩
   ·simp only [Instr.mapUpdate,Sem.run_bind,run_underlying ht,MapKept.run_getObj_map ho,hkt.check hk false 9998 w,h6,Result.andThen]
    rw [show ((es[j]?).map (·.key)).getD (od a b)=od a b by rw [h7];exact h8,sQ hk]
    simp only [Result.andThen]
    rw [MapKept.run_setObj_map _ ho]
    rfl
   ·intro e' he'
    obtain ⟨n,hn⟩:=List.mem_iff_getElem?.1 he'
    rw [Array.getElem?_toList,Array.getElem?_modify] at hn
    by_cases e1:j=n
    ·subst e1
     rw [if_pos rfl,h7] at hn
     simp at hn
     subst hn
     exact ⟨a,b,rfl,u,h1,hv⟩
    ·rw [if_neg e1] at hn
     obtain ⟨p,q,h10,c',h11,h12⟩:=h3 e' (Ow (by rw [Array.getElem?_toList];exact hn))
     refine ⟨p,q,h10,c',?_,h12⟩
     rw [h2 p q (fun e2=>hdis n e' hn e1 (by rw [h10,e2.1,e2.2]))]
     exact h11
   ·have hkeys:(es.modify j (fun e'=>{ e' with key:=od a b,val:=ρ z })).toList.map MapEntry.key=es.toList.map MapEntry.key:=by
     apply List.ext_getElem?
     intro n
     rw [List.getElem?_map,List.getElem?_map,Array.getElem?_toList,Array.getElem?_toList,Array.getElem?_modify]
     by_cases e1:j=n
     ·subst e1
      rw [if_pos rfl,h7]
      simp [h8]
     ·rw [if_neg e1]
    refine (List.pairwise_map (f:=MapEntry.key) (R:=fun a b:Value=>a≠b)).1 ?_
    rw [hkeys]
    exact List.pairwise_map.2 h4
   ·intro p q c hq
    by_cases e1:p=a∧q=b
    ·obtain ⟨rfl,rfl⟩:=e1
     refine ⟨{ e with key:=od p q,val:=ρ z },List.mem_iff_getElem?.2 ⟨j,?_⟩,rfl⟩
     rw [Array.getElem?_toList,Array.getElem?_modify,if_pos rfl,h7]
     rfl
    ·rw [h2 p q e1] at hq
     obtain ⟨y,hy,hy'⟩:=h5 p q c hq
     obtain ⟨n,hn⟩:=List.mem_iff_getElem?.1 hy
     rw [Array.getElem?_toList] at hn
     refine ⟨y,List.mem_iff_getElem?.2 ⟨n,?_⟩,hy'⟩
     rw [Array.getElem?_toList,Array.getElem?_modify,if_neg,hn]
     intro e2
     subst e2
     rw [h7] at hn
     injection hn with hn
     subst hn
     rw [h8,oa] at hy'
     exact e1 ⟨hy'.1.symm,hy'.2.symm⟩
 obtain ⟨es',clock',hr,hq⟩:=key
 unfold i8
 rw [show (execOp ρ ⟨d,.mapUpdate t x y z,ty,pos,af,g⟩).run P w= .ok .skip (w.putObj m1 (.map es' clock')) by simp only [execOp,(hρ x _ hx).sc_inv,hy',Sem.run_bind,Sem.run_pure,Result.andThen,hr]]
 exact ⟨σ,.sc undef,_,cm.le_refl _,.sc _,hw.putAt (a':=il m') hL (fun _=>trivial) (lp w m1 _) (World.putObj_heap_same hlt) hq,rfl⟩
theorem vA (i:Nat) {m1 kt et:Nat} {a b:Int} {v0:Value} {m:Int→Int→Option AV} {c0:AV} (ht:P.underlying t=some (.map kt et)) (hkt:jY P kt) (hx:bw fr x=some (.sc (.map (some m1)))) (hy:bw fr y=some (.agg [.sc (.int .i64 a),.sc (.int .i64 b)])) (hL:L[i]?=some (m1,il m)) (hz:∀w,(zeroValue et).run P w= .ok v0 w) (h0:∀σ,VR σ c0 v0):
  AO P ⟨d,.lookup t x y false,ty,pos,af,g⟩ fr B L (fun c L'=>c=(m a b).getD c0∧L'=L):=by
 intro σ ρ w hρ hw
 obtain ⟨o,ho,hM⟩:=hw.here _ (Ow hL)
 have hM':i9 m σ o:=hM
 obtain ⟨es,clock,rfl,_⟩:=hM'
 have hM':i9 m σ (.map es clock):=hM
 have hk:tZ (od a b):=⟨a,b,rfl⟩
 have hy':=vd (hρ y _ hy)
 obtain ⟨v,hr,hv⟩:∃v,(Instr.lookup t (.map (some m1)) (od a b) false).run P w= .ok v w∧VR σ ((m a b).getD c0) v:=by
  cases hm:m a b with
  | none=>
   refine ⟨v0,?_,h0 σ⟩
   simp only [Instr.lookup,Sem.run_bind,run_underlying ht,MapKept.run_getObj_map ho,hkt.check hk _ 9998 w,(hM'.none hkt hm w).1,Result.andThen,hz,Sem.run_pure]
   rfl
  | some c=>
   obtain ⟨j,e,h6,h7,h8,h9⟩:=hM'.some hkt hm w
   refine ⟨e.val,?_,h9⟩
   simp only [Instr.lookup,Sem.run_bind,run_underlying ht,MapKept.run_getObj_map ho,hkt.check hk _ 9998 w,h6,Result.andThen,hz,Sem.run_pure]
   rfl
 unfold i8
 rw [show (execOp ρ ⟨d,.lookup t x y false,ty,pos,af,g⟩).run P w= .ok (.value v) w by simp only [execOp,(hρ x _ hx).sc_inv,hy',Sem.run_bind,Sem.run_pure,Result.andThen,hr]]
 exact ⟨σ,(m a b).getD c0,_,cm.le_refl _,hv,hw,rfl,rfl⟩
end
section
variable {P:Program} {r:Option Nat} {ops:Array Oper} {Q:Exit→Act→World→Prop} {nt:Nat} {D:List Deferred} {fr:bZ} {B:Bs} {L:AL} {rest:List Oper} {d:Nat} {ty t:TypeId} {pos:String} {af:Array Edge} {x y z:Operand} {u:AV}
theorem ym (h:∀b,bF P r ops Q nt D rest ((d,.sc (.map (some b)))::fr) B ((b,il fun _ _=>none)::L)) (hd:Nat.ble nt d=false:=by rfl):bF P r ops Q nt D (⟨some d,.makeMap t none,ty,pos,af,none⟩::rest) fr B L:=
 cn hd rfl vB fun c L' ⟨b,h1,h2⟩=>by subst h1;subst h2;exact h b
theorem uH (i:Nat) (m':Int→Int→Option AV) {b kt et:Nat} {p q:Int} {m:Int→Int→Option AV} (ht:P.underlying t=some (.map kt et)) (hkt:jY P kt) (hx:bw fr x=some (.sc (.map (some b)))) (hy:bw fr y=some (.agg [.sc (.int .i64 p),.sc (.int .i64 q)])) (hz:bw fr z=some u) (hL:L[i]?=some (b,il m)) (h1:m' p q=some u) (h2:∀p' q',¬(p'=p∧q'=q)→m' p' q'=m p' q')
  (h:bF P r ops Q nt D rest fr B (fN L i (il m'))):bF P r ops Q nt D (⟨none,.mapUpdate t x y z,ty,pos,af,none⟩::rest) fr B L:=
 n3 rfl (sC i ht hkt hx hy hz hL h1 h2) fun c L' h3=>by subst h3;exact h
theorem yl (i:Nat) (v0:Value) {b kt et:Nat} {p q:Int} {m:Int→Int→Option AV} (ht:P.underlying t=some (.map kt et)) (hkt:jY P kt) (hx:bw fr x=some (.sc (.map (some b)))) (hy:bw fr y=some (.agg [.sc (.int .i64 p),.sc (.int .i64 q)])) (hL:L[i]?=some (b,il m)) (hz:lJ P et v0=true) (hd:Nat.ble nt d=false)
  (h:bF P r ops Q nt D rest ((d,(m p q).getD (.sc v0))::fr) B L):bF P r ops Q nt D (⟨some d,.lookup t x y false,ty,pos,af,none⟩::rest) fr B L:=
 cn hd rfl (vA i ht hkt hx hy hL (ge hz) fun _=> .sc _) fun c L' ⟨h1,h2⟩=>by subst h1;subst h2;exact h
end
end Go.Proofs.YtamjlkdanllgjaaGreatDoor
namespace Go.Proofs.YtamjlkdanllgjaaGreatDoor
open Go.RowKit
section
variable {P:Program} {fr:bZ} {B:Bs} {L:AL} {d:Option Tmp} {ty t t':TypeId} {pos:String} {af:Array Edge} {g:Option (Nat×Bool)} {x y z q:Operand} {u:AV}
theorem CZ.int {e:TypeId} {i:TypeInfo} {zz:Value} (hz:CZ P e [.int .i64 0]) (hi:P.info? e=some i) (hzz:i.zero=some zz) (w:World):zz.cells=#[.int .i64 0]:=by
 obtain ⟨v,hv,hr⟩:=hz.run
 have:=hr w
 simp [zeroValue,typeInfo,hi,hzz] at this
 rw [this,hv]
theorem mn (n:Nat):Builtin.zeroCells #[.int .i64 0] n=(List.replicate n (Value.int .i64 0)).toArray:=by
 apply Array.toList_inj.1
 simp only [Builtin.zeroCells,List.size_toArray,List.length_cons,List.length_nil]
 apply List.ext_getElem
 ·simp
 ·intro i h1 h2
  simp [Nat.mod_one]
theorem gC {σ:cm} {cs:List AV} {vs:List Value} (h:d4 σ cs vs) (n:Nat):d4 σ (cs.take n) (vs.take n):=by
 refine ⟨by rw [List.length_take,List.length_take,h.1],fun i c u hc hu=>?_⟩
 rw [List.getElem?_take] at hc hu
 split at hc
 ·rename_i hi
  rw [if_pos hi] at hu
  exact h.2 i c u hc hu
 ·cases hc
theorem lI {σ:cm} {cs:List AV} {vs:List Value} (h:d4 σ cs vs) (n:Nat):d4 σ (cs.drop n) (vs.drop n):=by
 refine ⟨by rw [List.length_drop,List.length_drop,h.1],fun i c u hc hu=>?_⟩
 rw [List.getElem?_drop] at hc hu
 exact h.2 _ c u hc hu
theorem ey {σ:cm} {cs ds:List AV} {vs ws:List Value} (h:d4 σ cs vs) (k:d4 σ ds ws):d4 σ (cs++ds) (vs++ws):=by
 refine ⟨by rw [List.length_append,List.length_append,h.1,k.1],fun i c u hc hu=>?_⟩
 have hq:=h.1
 by_cases hi:i < cs.length
 ·rw [List.getElem?_append_left hi] at hc
  rw [List.getElem?_append_left (by omega)] at hu
  exact h.2 i c u hc hu
 ·rw [List.getElem?_append_right (by omega)] at hc
  rw [List.getElem?_append_right (by omega),←hq] at hu
  exact k.2 _ c u hc hu
theorem AK {σ:cm} (v:Value) (n:Nat):d4 σ (List.replicate n (.sc v)) (List.replicate n v):=by
 refine ⟨by simp,fun i c u hc hu=>?_⟩
 rw [List.getElem?_replicate] at hc hu
 split at hc
 ·rename_i hi
  rw [if_pos hi] at hu
  cases hc;cases hu
  exact .sc _
 ·cases hc
theorem qN (i:Nat) {e by_ b n cap:Nat} {cs:List AV} {c:AV} (hc:m8 P t e 1 by_) (hz:CZ P e [.int .i64 0]) (hx:bw fr x=some (.sc (.slice (some ⟨b,0,none⟩) n cap))) (hy:bw fr y=some u) (hu:u.im= .imm 1 [[c]]) (hL:L[i]?=some (b,.box cs e)) (hcl:cs.length=cap) (hn:n≤cap) (h63:n+1≤9223372036854775807) (hby:(n+1) * by_≤140737488355328):
  AO P ⟨d,.call ⟨.builtin .append,#[x,y],#[t,t]⟩,ty,pos,af,g⟩ fr B L (fun r L'=>∃b' cs',r= .sc (.slice (some ⟨b',0,none⟩) (n+1) cs'.length)∧cs'.take (n+1)=cs.take n++[c]∧n+1≤cs'.length∧L'=(b',.box cs' e)::L.eraseIdx i):=by
 intro σ ρ w hρ hw0
 have hw:=hw0.perm (fC hL)
 have hxv:=(hρ x _ hx).sc_inv
 have hyv:=(hρ y u hy).im
 rw [hu] at hyv
 obtain ⟨A2,c2,hA2,_⟩:=hyv.imm_inv
 rw [hA2] at hyv
 obtain ⟨_,_,_,hs2,ys,hyl,hyr,hy1,hyc⟩:=hyv.row
 obtain ⟨b2,off2,rfl,hycc⟩:=hyc (by simp)
 haveI:=hc
 obtain ⟨inf,zz,hi,hsz,rfl,hzz,hzs⟩:=hc.info
 have hzc:=hz.int hi hzz w
 obtain ⟨o,ho,vs,rfl,hvs,h1⟩:=hw.here _ (List.mem_cons_self ..)
 have hl:=hvs.1
 have hyl':ys.length=1 * inf.size:=by rw [hsz];exact hyl
 have hys1:ys.length=1:=by simpa using hyl
 obtain ⟨yv,rfl⟩:∃yv,ys=[yv]:=by
  match ys,hys1 with
  | [yv],_=>exact ⟨yv,rfl⟩
 have hyr':d4 σ [c] [yv]:=hyr
 have hnews:∀j v,[yv][j]?=some v→w.cell? ((⟨b2,off2,none⟩:Addr).add j)=some v:=fun j v hj=>by rw [eN];exact hw.froz _ _ _ (hycc j v hj)
 have hA2':ρ y= .slice (some ⟨b2,off2,none⟩) 1 c2:=hA2
 unfold i8
 by_cases hroom:n+1≤cap
 ·have hr:=run_append_room (P:=P) w t ty e inf hc.under hi b n cap vs.toArray ho ⟨b2,off2,none⟩ 1 c2 [yv] hyl' hnews hy1 hroom (by rw [hsz];simp;omega)
  rw [show (execOp ρ ⟨d,.call ⟨.builtin .append,#[x,y],#[t,t]⟩,ty,pos,af,g⟩).run P w= .ok (.value (.slice (some ⟨b,0,none⟩) (n+1) cap)) (w.setRow b (vs.toArray.toList.take (n * inf.size)++[yv]++vs.toArray.toList.drop (n * inf.size+[yv].length)).toArray) by
   simp [execOp,resolve,hxv,hA2',invoke,builtin,hr]]
  simp only [hsz,Nat.mul_one,List.length_cons,List.length_nil,Nat.zero_add]
  have hcl':(cs.take n++[c]++cs.drop (n+1)).length=cap:=by simp;omega
  refine ⟨σ,.sc _,_,cm.le_refl _,.sc _,hw.put (a':= .box (cs.take n++[c]++cs.drop (n+1)) e) (fun _=>trivial) ⟨rfl,rfl,rfl,by simp,fun k _ hk=>setRow_other w b k _ (fun e=>hk (by simp [e]))⟩ (setRow_heap w b _ _ e _ ho) ⟨_,rfl,ey (ey (gC hvs n) hyr') (lI hvs (n+1)),fun u hu=>?_⟩,b,_,by rw [hcl'],?_,by rw [hcl'];exact hroom,rfl⟩
  ·rcases Oj hu with hu | hu
   ·rcases Oj hu with hu | hu
    ·exact h1 _ (List.mem_of_mem_take hu)
    ·exact hy1 _ hu
   ·exact h1 _ (List.mem_of_mem_drop hu)
  ·rw [List.take_append_of_le_length (by simp;omega),List.take_of_length_le (by simp;omega)]
 ·have hncap:n=cap:=by omega
  subst hncap
  have holds:∀j v,vs[j]?=some v→w.cell? ((⟨b,0,none⟩:Addr).add j)=some v:=fun j v hj=>by
   rw [eN,Nat.zero_add,dm ho]
   simpa using hj
  have hr:=run_append_grow (P:=P) w t ty e inf zz hc.under hi hzz ⟨b,0,none⟩ n n vs (by rw [hsz];omega) holds ⟨b2,off2,none⟩ 1 c2 [yv] hyl' hnews (by omega) (by omega) (growslice_fits (by omega) hby)
  rw [show (execOp ρ ⟨d,.call ⟨.builtin .append,#[x,y],#[t,t]⟩,ty,pos,af,g⟩).run P w= .ok (.value (.slice (some ⟨w.heap.size,0,none⟩) (n+1) (grownCap w (n+1) n e))) (w.drew.alloc (.cells (vs.toArray++[yv].toArray++Builtin.zeroCells zz.cells (grownCap w (n+1) n e - (n+1))) e)) by
   simp [execOp,resolve,hxv,hA2',invoke,builtin,hr]]
  rw [hzc,mn]
  have hge:=grownCap_ge w (n+1) n e
  generalize grownCap w (n+1) n e=cap' at *
  have hlen:(cs++[c]++List.replicate (cap' - (n+1)) (AV.sc (.int .i64 0))).length=cap':=by simp;omega
  refine ⟨σ,.sc _,_,cm.le_refl _,.sc _,((hw.sublist (List.sublist_cons_self ..)).drew _).alloc _ (.box (cs++[c]++List.replicate (cap' - (n+1)) (.sc (.int .i64 0))) e) ⟨vs++[yv]++List.replicate (cap' - (n+1)) (.int .i64 0),by simp,ey (ey hvs hyr') (AK _ _),fun u hu=>?_⟩,w.heap.size,_,by rw [hlen],?_,by rw [hlen];exact hge,rfl⟩
  ·rcases Oj hu with hu | hu
   ·rcases Oj hu with hu | hu
    ·exact h1 _ hu
    ·exact hy1 _ hu
   ·rw [(List.mem_replicate.1 hu).2];rfl
  ·rw [List.take_append_of_le_length (by simp;omega),List.take_of_length_le (by simp;omega),List.take_of_length_le (by omega)]
theorem qO {e by_:Nat} {c:AV} (hc:m8 P t e 1 by_) (hz:CZ P e [.int .i64 0]) (hx:bw fr x=some (.sc (.slice none 0 0))) (hy:bw fr y=some u) (hu:u.im= .imm 1 [[c]]) (hby:by_≤140737488355328):
  AO P ⟨d,.call ⟨.builtin .append,#[x,y],#[t,t]⟩,ty,pos,af,g⟩ fr B L (fun r L'=>∃b' cs',r= .sc (.slice (some ⟨b',0,none⟩) 1 cs'.length)∧cs'.take 1=[c]∧1≤cs'.length∧L'=(b',.box cs' e)::L):=by
 intro σ ρ w hρ hw
 have hxv:=(hρ x _ hx).sc_inv
 have hyv:=(hρ y u hy).im
 rw [hu] at hyv
 obtain ⟨A2,c2,hA2,_⟩:=hyv.imm_inv
 rw [hA2] at hyv
 obtain ⟨_,_,_,hs2,ys,hyl,hyr,hy1,hyc⟩:=hyv.row
 obtain ⟨b2,off2,rfl,hycc⟩:=hyc (by simp)
 haveI:=hc
 obtain ⟨inf,zz,hi,hsz,rfl,hzz,hzs⟩:=hc.info
 have hzc:=hz.int hi hzz w
 have hyl':ys.length=1 * inf.size:=by rw [hsz];exact hyl
 have hys1:ys.length=1:=by simpa using hyl
 obtain ⟨yv,rfl⟩:∃yv,ys=[yv]:=by
  match ys,hys1 with
  | [yv],_=>exact ⟨yv,rfl⟩
 have hyr':d4 σ [c] [yv]:=hyr
 have hnews:∀j v,[yv][j]?=some v→w.cell? ((⟨b2,off2,none⟩:Addr).add j)=some v:=fun j v hj=>by rw [eN];exact hw.froz _ _ _ (hycc j v hj)
 have hA2':ρ y= .slice (some ⟨b2,off2,none⟩) 1 c2:=hA2
 have hr:=run_append_nil (P:=P) w t ty e inf zz hc.under hi hzz ⟨b2,off2,none⟩ 1 c2 [yv] hyl' hnews (by omega) (by omega) (by omega)
 unfold i8
 rw [show (execOp ρ ⟨d,.call ⟨.builtin .append,#[x,y],#[t,t]⟩,ty,pos,af,g⟩).run P w= .ok (.value (.slice (some ⟨w.heap.size,0,none⟩) 1 (grownCap w 1 0 e))) (w.drew.alloc (.cells ([yv].toArray++Builtin.zeroCells zz.cells (grownCap w 1 0 e - 1)) e)) by
  simp [execOp,resolve,hxv,hA2',invoke,builtin,hr]]
 rw [hzc,mn]
 have hge:=grownCap_ge w 1 0 e
 generalize grownCap w 1 0 e=cap' at *
 have hlen:([c]++List.replicate (cap' - 1) (AV.sc (.int .i64 0))).length=cap':=by simp;omega
 refine ⟨σ,.sc _,_,cm.le_refl _,.sc _,(hw.drew _).alloc _ (.box ([c]++List.replicate (cap' - 1) (.sc (.int .i64 0))) e) ⟨[yv]++List.replicate (cap' - 1) (.int .i64 0),by simp,ey hyr' (AK _ _),fun u hu=>?_⟩,w.heap.size,_,by rw [hlen],by simp,by rw [hlen];exact hge,rfl⟩
 rcases Oj hu with hu | hu
 ·exact hy1 _ hu
 ·rw [(List.mem_replicate.1 hu).2];rfl
theorem Jv {e by_ b n cap hi:Nat} {k:IntKind} {a:Int} (hc:m8 P t e 1 by_) (hx:bw fr x=some (.sc (.slice (some ⟨b,0,none⟩) n cap))) (hy:bw fr y=some (.sc (.int k a))) (ha:a=(hi:Int)) (h:hi≤cap) (h0:0 < cap):Av P ⟨d,.slice t x none (some y) none,ty,pos,af,g⟩ fr (.sc (.slice (some ⟨b,0,none⟩) hi cap)):=by
 intro σ ρ w hρ _
 subst ha
 haveI:=hc
 refine ⟨_,?_,.sc _⟩
 have h3:cap≠0:=by omega
 simp [execOp,(hρ x _ hx).sc_inv,(hρ y _ hy).sc_inv,Instr.sliceAt,Instr.slice,Instr.sliceBounds,Instr.sliceBound,asIntOf,run_underlying hc.under,eU (t:=t),h,h3,eN]
def hY (P:Program) (t:TypeId):Bool:=match P.underlying t with | some (.interface _)=>false | some _=>true | none=>false
theorem jm (h:hY P t=true):∃d,P.underlying t=some d∧∀ms,d≠ .interface ms:=by
 unfold hY at h
 split at h
 ·cases h
 ·rename_i d hd hu
  exact ⟨d,hu,fun ms e=>hd ms e⟩
 ·cases h
theorem Gm {v:Value} (ht:hY P t=true) (hx:bw fr x=some (.sc v)):Av P ⟨d,.makeInterface t x,ty,pos,af,g⟩ fr (.sc (.iface t v)):=by
 obtain ⟨dd,hu,hn⟩:=jm ht
 refine eF fun ρ w hρ=>?_
 have:(Instr.makeInterface t v).run P w= .ok (.iface t v) w:=by
  simp only [Instr.makeInterface,Sem.run_bind,run_underlying hu,Result.andThen]
  cases dd with
  | interface ms=>exact absurd rfl (hn ms)
  | _=>rfl
 simp only [execOp,hρ x _ hx,Sem.run_bind,this,Result.andThen,Sem.run_pure]
theorem vo {v:Value} (ht:hY P t=true) (hx:bw fr x=some (.sc (.iface t v))):Av P ⟨d,.typeAssert x t' t false,ty,pos,af,g⟩ fr (.sc v):=by
 obtain ⟨dd,hu,hn⟩:=jm ht
 refine eF fun ρ w hρ=>?_
 have:(Instr.typeAssert (.iface t v) t' t false).run P w= .ok v w:=by
  simp only [Instr.typeAssert,Sem.run_bind,run_underlying hu,Result.andThen]
  cases dd with
  | interface ms=>exact absurd rfl (hn ms)
  | _=>simp
 simp only [execOp,hρ x _ hx,Sem.run_bind,this,Result.andThen,Sem.run_pure]
structure mU (P:Program) (t:TypeId) (name:String) (f:FuncId) (ptr:Bool) (e:TypeId):Prop where
 under:P.underlying t=some (.pointer e)
 ex:∃ti m,P.info? t=some ti∧ti.methods.find? (·.name==name)=some m∧m.path=#[]∧m.func=some (f,ptr)
theorem mU.run {name:String} {f:FuncId} {e:TypeId} (h:mU P t name f true e) (v:Value) (n:Nat) (w:World):(method (n+1) t v name).run P w= .ok (f,v) w:=by
 obtain ⟨hu,ti,m,h1,h2,h3,h4⟩:=h
 rw [method]
 simp [typeInfo,h1,h2,h3,h4,follow,receiverAt,run_underlying hu,Result.andThen,Place.get]
theorem wP {t t':TypeId} {a:Addr} {p q:String} {w:World}:(Builtin.ssaWrapNilChk_ #[t] t' #[.pointer (some a),strVal p,strVal q]).run P w= .ok (.pointer (some a)) w:=rfl
theorem mU.runV {name:String} {f:FuncId} {e:TypeId} (h:mU P t name f false e) {a:Addr} {v:Value} {w:World} (hl:(loadVar e a).run P w= .ok v w) (n:Nat):(method (n+1) t (.pointer (some a)) name).run P w= .ok (f,v) w:=by
 obtain ⟨hu,ti,m,h1,h2,h3,h4⟩:=h
 unfold method
 simp [typeInfo,h1,h2,h3,h4,follow,receiverAt,run_underlying hu,Result.andThen,Place.get,wP,asAddr,hl]
theorem s9 {ρ:Operand→Value} {w:World} {f:FuncId} {name:String} {v rv:Value} {args:Array Operand} {ts:Array TypeId} (hf:bK P f) (hxv:ρ x= .iface t v) (hm:(method (P.types.size+Made.depth) t v name).run P w= .ok (f,rv) w):(execOp ρ ⟨d,.call ⟨.invoke x name,args,ts⟩,ty,pos,af,g⟩).run P w= .ok (.enter f (rv::args.toList.map ρ).toArray) w:=by
 have e0:(#[ρ x]++args.map ρ)[0]?=some (.iface t v):=by rw [hxv,←Array.getElem?_toList];simp
 have e1:(#[ρ x]++args.map ρ).extract 1 (#[ρ x]++args.map ρ).size=args.map ρ:=by
  apply Array.toList_inj.1
  simp
  exact List.take_of_length_le (by simp)
 have e2:(rv::args.toList.map ρ).toArray=#[rv]++args.map ρ:=by
  apply Array.toList_inj.1
  simp
 rw [e2]
 have h3:(callMethod (.iface t v) name (args.map ρ)).run P w= .ok (.enter f (#[rv]++args.map ρ)) w:=by
  simp only [callMethod,Sem.run_bind,run_program,Result.andThen,hm,hf.enters]
 have h4:(invoke (.fn (.method name) #[]) (#[ρ x]++args.map ρ)).run P w= .ok (.enter f (#[rv]++args.map ρ)) w:=by
  unfold invoke
  rw [e0,e1]
  exact h3
 simp only [execOp,resolve,Sem.run_bind,Sem.run_pure,Result.andThen,h4]
theorem B0 (Lc Lf:AL) {f:FuncId} {name:String} {e:TypeId} {a:Addr} {args:Array Operand} {ts:Array TypeId} {cs:List AV} {Post:AV→AL→Prop} [hf:bK P f] (hm:mU P t name f true e) (hx:bw fr x=some (.sc (.iface t (.pointer (some a))))) (hv:eB fr args.toList=some cs) (hL:L.Perm (Lc++Lf)) (h:AC P f (.sc (.pointer (some a))::cs) Lc Post):
  AO P ⟨d,.call ⟨.invoke x name,args,ts⟩,ty,pos,af,g⟩ fr B L (fun c L'=>∃L1,Post c L1∧L'=L1++Lf):=by
 intro σ ρ w hρ hw0
 have hw:=hw0.perm hL
 have hxv:=(hρ x _ hx).sc_inv
 have hvs:=fh hρ _ _ hv
 unfold i8
 rw [show (execOp ρ ⟨d,.call ⟨.invoke x name,args,ts⟩,ty,pos,af,g⟩).run P w= .ok (.enter f (.pointer (some a)::args.toList.map ρ).toArray) w from s9 hf hxv (by
  have hmr:=hm.run (.pointer (some a)) (P.types.size+Made.depth - 1) w
  rwa [show P.types.size+Made.depth - 1+1=P.types.size+Made.depth by unfold Made.depth;omega] at hmr)]
 refine (h σ w _ (.cons (.sc _) hvs) hw.enter).mono fun en w' ⟨v,τ,c,L',h1,h2,h3,h4⟩=>⟨v,h1,τ,c,L'++Lf,h3.grow,h2,hw.leave h3,L',h4,rfl⟩
theorem xm (i:Nat) (Lc Lf:AL) {f:FuncId} {name:String} {e b:Nat} {e':TypeId} {args:Array Operand} {ts:Array TypeId} {cs ds:List AV} {Post:AV→AL→Prop} [hf:bK P f] (hm:mU P t name f false e) (he:Ix P e) (hx:bw fr x=some (.sc (.iface t (.pointer (some ⟨b,0,none⟩))))) (hi:L[i]?=some (b,.box ds e')) (hd:ds[0]?=some u) (hv:eB fr args.toList=some cs) (hL:L.Perm (Lc++Lf)) (h:AC P f (u::cs) Lc Post):
  AO P ⟨d,.call ⟨.invoke x name,args,ts⟩,ty,pos,af,g⟩ fr B L (fun c L'=>∃L1,Post c L1∧L'=L1++Lf):=by
 intro σ ρ w hρ hw0
 have hw:=hw0.perm hL
 have hxv:=(hρ x _ hx).sc_inv
 have hvs:=fh hρ _ _ hv
 obtain ⟨vs,hb,hs,_⟩:=hw0.boxCell hi
 obtain ⟨v,hv1,hr1⟩:=hs.get hd
 have hcell:w.cell? ⟨b,0,none⟩=some v:=by rw [dm hb];simpa using hv1
 have hload:(loadVar e ⟨b,0,none⟩).run P w= .ok v w:=gx hcell
 unfold i8
 rw [show (execOp ρ ⟨d,.call ⟨.invoke x name,args,ts⟩,ty,pos,af,g⟩).run P w= .ok (.enter f (v::args.toList.map ρ).toArray) w from s9 hf hxv (by
  have hmr:=hm.runV hload (P.types.size+Made.depth - 1)
  rwa [show P.types.size+Made.depth - 1+1=P.types.size+Made.depth by unfold Made.depth;omega] at hmr)]
 refine (h σ w _ (.cons hr1 hvs) hw.enter).mono fun en w' ⟨v,τ,c,L',h1,h2,h3,h4⟩=>⟨v,h1,τ,c,L'++Lf,h3.grow,h2,hw.leave h3,L',h4,rfl⟩
theorem Jy {a b c e:Int} (ht:jY P t) (hg:P.eqGuardType P.depth t=false) (hx:bw fr x=some (.agg [.sc (.int .i64 a),.sc (.int .i64 b)])) (hy:bw fr y=some (.agg [.sc (.int .i64 c),.sc (.int .i64 e)])):Av P ⟨d,.binOp .eql t x y t',ty,pos,af,g⟩ fr (.sc (.bool (decide (a=c∧b=e)))):=by
 intro σ ρ w hρ _
 refine ⟨_,?_,.sc _⟩
 have h1:=vd (hρ x _ hx)
 have h2:=vd (hρ y _ hy)
 have h3:=ht.eq a b c e w
 unfold Op.equal at h3
 rw [show Op.maxDepth=10000 from rfl] at h3
 simp only [execOp,h1,h2,Sem.run_bind,run_eqGuard_agg w .eql t x y _ _ hg,run_eql_struct,h3,Result.andThen,Sem.run_pure]
end
section
variable {P:Program} {tt:TT} {r:Option Nat} {ops:Array Oper} {Q:Exit→Act→World→Prop} {nt:Nat} {D:List Deferred} {fr:bZ} {B:Bs} {L:AL} {rest:List Oper} {d:Nat} {ty t t':TypeId} {pos:String} {af:Array Edge} {x y z:Operand} {u:AV}
theorem C2 (ok:eh P tt) (i:Nat) {e by_ b n cap:Nat} {cs:List AV} {c:AV} (ht:jW tt t=some (e,1,by_)) (hz:zI tt e=some [.int .i64 0]) (hx:bw fr x=some (.sc (.slice (some ⟨b,0,none⟩) n cap))) (hy:bw fr y=some u) (hu:gZ u=some (1,[[c]])) (hL:L[i]?=some (b,.box cs e)) (hcl:cs.length=cap) (hn:n≤cap) (h63:n+1≤9223372036854775807) (hby:(n+1) * by_≤140737488355328) (hd:Nat.ble nt d=false)
  (h:∀b' cs',cs'.take (n+1)=cs.take n++[c]→n+1≤cs'.length→bF P r ops Q nt D rest ((d,.sc (.slice (some ⟨b',0,none⟩) (n+1) cs'.length))::fr) B ((b',.box cs' e)::L.eraseIdx i)):
  bF P r ops Q nt D (⟨some d,.call ⟨.builtin .append,#[x,y],#[t,t]⟩,ty,pos,af,none⟩::rest) fr B L:=
 cn hd rfl (qN i (bE ok ht).1 (eA ok hz) hx hy (cG hu) hL hcl hn h63 hby) fun q L' ⟨b',cs',h1,h2,h3,h4⟩=>by subst h1;subst h4;exact h b' cs' h2 h3
theorem C3 (ok:eh P tt) {e by_:Nat} {c:AV} (ht:jW tt t=some (e,1,by_)) (hz:zI tt e=some [.int .i64 0]) (hx:bw fr x=some (.sc (.slice none 0 0))) (hy:bw fr y=some u) (hu:gZ u=some (1,[[c]])) (hby:Nat.ble by_ 140737488355328=true) (hd:Nat.ble nt d=false)
  (h:∀b' cs',cs'.take 1=[c]→1≤cs'.length→bF P r ops Q nt D rest ((d,.sc (.slice (some ⟨b',0,none⟩) 1 cs'.length))::fr) B ((b',.box cs' e)::L)):
  bF P r ops Q nt D (⟨some d,.call ⟨.builtin .append,#[x,y],#[t,t]⟩,ty,pos,af,none⟩::rest) fr B L:=
 cn hd rfl (qO (bE ok ht).1 (eA ok hz) hx hy (cG hu) (Nat.ble_eq .. ▸hby)) fun q L' ⟨b',cs',h1,h2,h3,h4⟩=>by subst h1;subst h4;exact h b' cs' h2 h3
theorem ET (ok:eh P tt) (hi:Nat) {e by_ b n cap:Nat} {k:IntKind} {a:Int} (ht:jW tt t=some (e,1,by_)) (hx:bw fr x=some (.sc (.slice (some ⟨b,0,none⟩) n cap))) (hy:bw fr y=some (.sc (.int k a))) (ha:a=(hi:Int)) (h1:hi≤cap) (h0:0 < cap) (hd:Nat.ble nt d=false) (h:bF P r ops Q nt D rest ((d,.sc (.slice (some ⟨b,0,none⟩) hi cap))::fr) B L):
  bF P r ops Q nt D (⟨some d,.slice t x none (some y) none,ty,pos,af,none⟩::rest) fr B L:=cz (Jv (bE ok ht).1 hx hy ha h1 h0) hd rfl h
theorem lU {v:Value} (ht:hY P t=true) (hx:bw fr x=some (.sc v)) (hd:Nat.ble nt d=false) (h:bF P r ops Q nt D rest ((d,.sc (.iface t v))::fr) B L):bF P r ops Q nt D (⟨some d,.makeInterface t x,ty,pos,af,none⟩::rest) fr B L:=cz (Gm ht hx) hd rfl h
theorem EP {v:Value} (ht:hY P t=true) (hx:bw fr x=some (.sc (.iface t v))) (hd:Nat.ble nt d=false) (h:bF P r ops Q nt D rest ((d,.sc v)::fr) B L):bF P r ops Q nt D (⟨some d,.typeAssert x t' t false,ty,pos,af,none⟩::rest) fr B L:=cz (vo ht hx) hd rfl h
theorem wm (Lc Lf:AL) {f:FuncId} {name:String} {e:TypeId} {a:Addr} {args:Array Operand} {ts:Array TypeId} {cs:List AV} {Post:AV→AL→Prop} [hf:bK P f] (hm:mU P t name f true e) (hx:bw fr x=some (.sc (.iface t (.pointer (some a))))) (hv:eB fr args.toList=some cs) (hL:L.Perm (Lc++Lf)) (hc:AC P f (.sc (.pointer (some a))::cs) Lc Post) (hn:Oper.noDefer ⟨some d,.call ⟨.invoke x name,args,ts⟩,ty,pos,af,none⟩=true) (hd:Nat.ble nt d=false) (h:∀c L1,Post c L1→bF P r ops Q nt D rest ((d,c)::fr) B (L1++Lf)):
  bF P r ops Q nt D (⟨some d,.call ⟨.invoke x name,args,ts⟩,ty,pos,af,none⟩::rest) fr B L:=cn hd hn (B0 Lc Lf hm hx hv hL hc) fun c L' ⟨L1,h1,h2⟩=>by subst h2;exact h c L1 h1
theorem dY (i:Nat) (Lc Lf:AL) {f:FuncId} {name:String} {e b:Nat} {e':TypeId} {args:Array Operand} {ts:Array TypeId} {cs ds:List AV} {Post:AV→AL→Prop} [hf:bK P f] (hm:mU P t name f false e) (he:Ix P e) (hx:bw fr x=some (.sc (.iface t (.pointer (some ⟨b,0,none⟩))))) (hi:L[i]?=some (b,.box ds e')) (hd0:ds[0]?=some u) (hv:eB fr args.toList=some cs) (hL:L.Perm (Lc++Lf)) (hc:AC P f (u::cs) Lc Post) (hn:Oper.noDefer ⟨some d,.call ⟨.invoke x name,args,ts⟩,ty,pos,af,none⟩=true) (hd:Nat.ble nt d=false) (h:∀c L1,Post c L1→bF P r ops Q nt D rest ((d,c)::fr) B (L1++Lf)):
  bF P r ops Q nt D (⟨some d,.call ⟨.invoke x name,args,ts⟩,ty,pos,af,none⟩::rest) fr B L:=cn hd hn (xm i Lc Lf hm he hx hi hd0 hv hL hc) fun c L' ⟨L1,h1,h2⟩=>by subst h2;exact h c L1 h1
theorem Kj {a b c e:Int} (ht:jY P t) (hg:P.eqGuardType P.depth t=false) (hx:bw fr x=some (.agg [.sc (.int .i64 a),.sc (.int .i64 b)])) (hy:bw fr y=some (.agg [.sc (.int .i64 c),.sc (.int .i64 e)])) (hd:Nat.ble nt d=false) (h:bF P r ops Q nt D rest ((d,.sc (.bool (decide (a=c∧b=e))))::fr) B L):bF P r ops Q nt D (⟨some d,.binOp .eql t x y t',ty,pos,af,none⟩::rest) fr B L:=cz (Jy ht hg hx hy) hd rfl h
end
end Go.Proofs.YtamjlkdanllgjaaGreatDoor
