/-
  From what came in to what the walks are told: any value without pointers, maps and interfaces.
-/
import Derived.Test.YtjjpkibjffmceaaGreatM06
import Derived.Test.YtjjpkibjffmceaaGreatRows
import Derived.WalkKit
import Derived.ProofKit
import Derived.OpenShut
import Derived.ShutString
import Derived.ChangeOld
import Derived.Below
import Derived.Deep.Slices
import Derived.Deep.SlicePairs
import Derived.Lib.SmallJoins
import Derived.SizedLaws
import Derived.Laws.StructEq
namespace Go.Proofs.YtjjpkibjffmceaaGreat
open Go.ChangeShapes Go.WideShapes Go.ChangeAt Go.RowKit Go.Deep Go.Joins
def la (W:World):ce:=fun b off=>W.cell? ⟨b,off,none⟩
theorem BA (W:World):dC ⟨W,la W,[]⟩ (la W) [] W:={ os:=rfl,tape:=rfl,output:=rfl,size:=Nat.le_refl _,old:=fun _ _ _=>rfl,here:=by simp,mine:=by simp,apart:=by simp,froz:=fun _ _ _ h=>h,free:=by simp,grow:=ce.le_refl _,same:=fun _ _ _ _=>rfl }
theorem dx.app {σ:ce}:∀{a b:List AV} {u v:List Value},dx σ a u→dx σ b v→dx σ (a++b) (u++v)
 | [],b,u,v,h,k=>by
  have:u=[]:=List.eq_nil_of_length_eq_zero h.1.symm
  subst this
  exact k
 | c::a,b,u,v,h,k=>by
  obtain ⟨x,u',rfl,h1,h2⟩:=h.inv
  exact dx.cons h1 (h2.app k)
section
variable {H:Type} {enc:TypeId×Value→H} {P:Program} {W:World}
def zK (P:Program) (t:TypeId) (d:DataW H):Prop:=∀n∈d.weights P t,n≤reachBytes
def xI (enc:TypeId×Value→H) (P:Program) (W:World) (t:TypeId) {α:Type} (c:α→List AV) (fits:α→Prop):Prop:=
 ∀fuel cs x,DataW.trod enc P W 0 (fun _=>true) true fuel t cs=some x→zK P t x.1→∃a,dx (la W) (c a) cs∧(∀u∈cs,u.oneCell'=true)∧fits a
theorem xI.map {t:TypeId} {α β:Type} {c:α→List AV} {c':β→List AV} {fits:α→Prop} {fits':β→Prop} (h:xI enc P W t c fits) (g:α→β) (hc:∀a,c a=c' (g a)) (hf:∀a,fits a→fits' (g a)):xI enc P W t c' fits':=fun fuel cs x h1 h2=>by
 obtain ⟨a,k1,k2,k3⟩:=h fuel cs x h1 h2
 exact ⟨g a,by rw [←hc];exact k1,k2,hf a k3⟩
theorem DN {t:TypeId} (ht:P.underlying t=some (.int .i64)):xI enc P W t (fun z:Int=>[aP z]) (fun _=>True):=fun fuel cs x h _=>by
 obtain ⟨z,rfl,-,-⟩:=DataW.trod_int ht h
 exact ⟨z,dx.cons (.sc _) dx.nil,by intro u hu;rw [Ik hu];rfl,trivial⟩
theorem qo {e:TypeId} {l:List (DataW H)} {d:DataW H} (hd:d∈l) {n:Nat} (hn:n∈d.weights P e):n∈DataW.weightsAll P e l:=by
 induction l with
 | nil=>cases hd
 | cons y l ih=>
  rw [DataW.weightsAll,List.mem_append]
  rcases List.mem_cons.1 hd with rfl | h
  ·exact .inl hn
  ·exact .inr (ih h)
theorem yR {t e:TypeId} {sz:Nat} {α:Type} [Inhabited α] {c:α→List AV} {fits:α→Prop} (ht:P.underlying t=some (.slice e)) (hb:0 < P.bytesOf e) (hs:P.cellsOf e=sz) (h0:0 < sz) (he:xI enc P W e c fits) (hc:∀a,(c a).length=sz):
  xI enc P W t (fun l:List α=>[.imm sz (l.map c)]) (fun l=>l.length≤reachBytes∧∀a∈l,fits a):=fun fuel cs x h hl=>by
 rcases open_slice ht h with ⟨rfl,rfl⟩ | ⟨a,len,cap,m,n,D,Pl,rfl,_,hlc,hm,hmm,rfl,hx⟩
 ·exact ⟨[],dx.cons (fX sz (.sc _)) dx.nil,by intro u hu;rw [Ik hu];rfl,Nat.zero_le _,by simp⟩
 have hmle:len≤m:=by rw [hmm];split <;> omega
 have hw:∀n∈(len+(m - len)) * P.bytesOf e::(DataW.weightsAll P e ((List.range len).map D)++DataW.weightsAll P e ((List.range (m - len)).map fun j=>D (len+j))),n≤reachBytes:=by
  intro n hn
  refine hl n ?_
  show n∈DataW.weights P t (.slice _ _)
  rw [DataW.weights,ht]
  simpa using hn
 have hlen:len≤reachBytes:=by
  have h1:=hw _ (List.mem_cons_self ..)
  have h2:len≤(len+(m - len)) * P.bytesOf e:=Nat.le_trans (Nat.le_add_right _ _) (Nat.le_mul_of_pos_right _ hb)
  omega
 have each:∀i,i < len→∃q:α×List Value,W.cells? 0 (a.add (i * sz)) sz=some q.2∧dx (la W) (c q.1) q.2∧(∀u∈q.2,u.oneCell'=true)∧fits q.1:=by
  intro i hi
  obtain ⟨cs',h1,h2⟩:=hx i (by omega)
  rw [hs] at h1
  obtain ⟨a',k1,k2,k3⟩:=he n cs' _ h2 (fun n hn=>hw n (Is _ (List.mem_append_left _ (qo (List.mem_map.2 ⟨i,List.mem_range.2 hi,rfl⟩) hn))))
  exact ⟨(a',cs'),h1,k1,k2,k3⟩
 obtain ⟨f,hf⟩:=choose_lt each
 refine ⟨(List.range len).map fun i=>(f i).1,dx.cons ?_ dx.nil,by intro u hu;rw [Ik hu];rfl,by simpa using hlen,?_⟩
 ·have hll:(((List.range len).map fun i=>(f i).1).map c).length=len:=by simp
  have hcell:∀i,i < len→∀j,j < sz→W.cell? (a.add (i * sz+j))=(f i).2[j]?:=by
   intro i hi j hj
   have:=(World.cells?_some (hf i hi).1).2.2 j hj
   rw [add_add] at this
   exact this
  have hcl:∀i,i < len→(f i).2.length=sz:=fun i hi=>(World.cells?_some (hf i hi).1).2.1
  have hnone:0 < len→∃b off,a=⟨b,off,none⟩:=by
   intro hp
   have h1:=hcell 0 hp 0 h0
   rw [Nat.zero_mul,Nat.zero_add,Iz (by rw [hcl 0 hp];exact h0)] at h1
   obtain ⟨b,off,sp⟩:=a
   have e:(⟨b,off,sp⟩:Addr).add 0=⟨b,off,sp⟩:=by simp [Addr.add]
   rw [e] at h1
   cases sp with
   | some s=>
    simp only [World.cell?] at h1
    split at h1
    ·simp at h1
    ·cases h1
   | none=>exact ⟨b,off,rfl⟩
  have hmem:∀b off,a=⟨b,off,none⟩→∀i,i < len→∀j,j < sz→la W b (off+i * sz+j)=(f i).2[j]?:=by
   intro b off ha i hi j hj
   have:=hcell i hi j hj
   rw [ha] at this
   show W.cell? ⟨b,off+i * sz+j,none⟩=_
   rw [←this]
   have e:(⟨b,off,none⟩:Addr).add (i * sz+j)=⟨b,off+(i * sz+j),none⟩:=by
    unfold Addr.add
    by_cases h:i * sz+j=0
    ·rw [if_pos h,h,Nat.add_zero]
    ·rw [if_neg h]
   rw [e,Nat.add_assoc]
  have hgo:=VR.imm (σ:=la W) sz (((List.range len).map fun i=>(f i).1).map c) (some a) cap (by rw [hll];exact hlc) hm (fun e he=>by
    obtain ⟨y,_,rfl⟩:=List.mem_map.1 he
    exact hc y) (fun hne=>by
    have:0 < len:=by
     rcases Nat.eq_zero_or_pos len with h | h
     ·subst h;exact absurd rfl hne
     ·exact h
    obtain ⟨b,off,rfl⟩:=hnone this
    exact ⟨b,off,rfl⟩) (fun i b off j hA hi hj=>by
    rw [hll] at hi
    injection hA with hA
    have h1:=hmem b off hA i hi j hj
    have h2:j < (f i).2.length:=by rw [hcl i hi];exact hj
    rw [Iz h2] at h1
    exact ⟨_,h1,(hf i hi).2.2.1 _ (List.getElem_mem h2)⟩) (fun i e b off j c' u hi hA hj hu=>by
    injection hA with hA
    have hil:i < len:=by have:=(Io hi).1;simpa using this
    rw [List.getElem?_map,List.getElem?_map,List.getElem?_range hil] at hi
    simp only [Option.map_some,Option.some.injEq] at hi
    subst hi
    have hjs:j < sz:=by rw [←hc (f i).1];exact (Io hj).1
    rw [hmem b off hA i hil j hjs] at hu
    exact (hf i hil).2.1.2 j c' u hj hu)
  rw [hll] at hgo
  exact hgo
 ·intro y hy
  obtain ⟨i,hi,rfl⟩:=List.mem_map.1 hy
  exact (hf i (List.mem_range.1 hi)).2.2.2
def CH (enc:TypeId×Value→H) (P:Program) (W:World) (N o:Nat) (fs:List Field) {β:Type} (c:β→List AV) (fits:β→Prop):Prop:=
 ∀(n:Nat) (cs:List Value) (xs:List (DataW H×List MemPlace)),cs.length=N→xs.length=fs.length→(∀(i:Nat) (f:Field),fs[i]?=some f→DataW.trod enc P W 0 (fun _=>true) true n f.type ((cs.drop f.offset).take (P.cellsOf f.type))=xs[i]?)→
  (∀k∈DataW.weightsEach P (fs.map (·.type)) (xs.map (·.1)),k≤reachBytes)→∃b,dx (la W) (c b) (cs.drop o)∧(∀u∈cs.drop o,u.oneCell'=true)∧fits b
theorem BS {N:Nat}:CH enc P W N N [] (fun _:Unit=>[]) (fun _=>True):=fun n cs xs hN _ _ _=>by
 have:cs.drop N=[]:=List.drop_eq_nil_of_le (by omega)
 rw [this]
 exact ⟨(),dx.nil,by simp,trivial⟩
theorem iL {N o s:Nat} {f:Field} {fs:List Field} {α β:Type} {c:α→List AV} {d:β→List AV} {fits:α→Prop} {fits':β→Prop} (ho:f.offset=o) (hs:P.cellsOf f.type=s) (h:xI enc P W f.type c fits) (hr:CH enc P W N (o+s) fs d fits'):CH enc P W N o (f::fs) (fun p:α×β=>c p.1++d p.2) (fun p=>fits p.1∧fits' p.2):=fun n cs xs hN hl hx hw=>by
 match xs,hl with
 | x::xs,hl=>
  have h0:=hx 0 f rfl
  rw [ho,hs] at h0
  obtain ⟨a,k1,k2,k3⟩:=h n _ x h0 (fun k hk=>hw k (by
   simp only [Ip,DataW.weightsEach,List.mem_append]
   exact .inl hk))
  obtain ⟨b,m1,m2,m3⟩:=hr n cs xs hN (by simpa using hl) (fun i g hg=>hx (i+1) g hg) (fun k hk=>hw k (by
   simp only [Ip,DataW.weightsEach,List.mem_append]
   exact .inr hk))
  have e:cs.drop o=(cs.drop o).take s++cs.drop (o+s):=by
   rw [←List.drop_drop,List.take_append_drop]
  refine ⟨(a,b),by rw [e];exact k1.app m1,fun u hu=>?_,k3,m3⟩
  rw [e] at hu
  rcases Il hu with h | h
  ·exact k2 u h
  ·exact m2 u h
theorem wp {t:TypeId} {fs:Array Field} {N:Nat} {β:Type} {c:β→List AV} {fits:β→Prop} (ht:P.underlying t=some (.struct fs)) (hN:P.cellsOf t=N) (h:CH enc P W N 0 fs.toList c fits):xI enc P W t c fits:=fun fuel cs x hx hl=>by
 obtain ⟨xs,n,_,rfl,h1,h2,h3⟩:=DataW.trod_struct ht hx
 have:=h n cs xs (h1.trans hN) (by simpa using h2) (fun i f hf=>h3 i f (by simpa using hf)) (fun k hk=>hl k (by
  show k∈DataW.weights P t (.agg _)
  rw [DataW.weights,ht]
  exact hk))
 simpa using this
end
end Go.Proofs.YtjjpkibjffmceaaGreat
namespace Go.Proofs.YtjjpkibjffmceaaGreat
open Go.ChangeShapes Go.WideShapes Go.ChangeAt Go.RowKit Go.Deep Go.Joins
section
variable {H:Type} {enc:TypeId×Value→H} {W:World}
abbrev Hx {α:Type}:α→Prop:=fun _=>True
abbrev mG {α:Type} (l:List α):Prop:=l.length≤reachBytes
theorem o3:xI enc Tryz.prog W 3 (fun z:Int=>[aP z]) Hx:=DN Tryz.underlying3
theorem Hj:xI enc Tryz.prog W 22 (fun l:List Int=>[.imm 1 (aZ l)]) mG:=(yR Tryz.underlying22 (Iy (by kernel_rfl)) (by kernel_rfl) Nat.one_pos o3 (fun _=>rfl)).map id (fun _=>rfl) fun _ h=>h.1
structure FV (g:br):Prop where
 points:mG g.Points
 parts:mG g.Parts
 anchors:mG g.Anchors
 deltas:mG g.Deltas
 hint:mG g.Hint
 name:g.Name.size≤reachBytes
structure GK (r:bX):Prop where
 out:mG r.Out
 calls:mG r.Calls
 back:mG r.Back∧∀q∈r.Back,mG q
 inn:mG r.In∧∀q∈r.In,mG q
 ahead:mG r.Ahead∧∀q∈r.Ahead,mG q
end
end Go.Proofs.YtjjpkibjffmceaaGreat
namespace Go.Proofs.YtjjpkibjffmceaaGreat
open Go.ChangeShapes Go.WideShapes Go.ChangeAt Go.RowKit Go.Deep Go.Joins
theorem Tryz.own:ownKnob Tryz.prog.godebug=none:=by kernel_rfl
theorem Tryz.laidOut:laidOutB Tryz.prog=true:=by kernel_rfl
theorem yf {P:Program} {f:FuncId} {args:List AV} {u:Value} (h:bV P f args (.sc u)) (W:World) (vs:List Value) (hv:dx (la W) args vs):Calls P f vs.toArray W fun e W'=>∃v,e= .returned v∧Below W.heap.size W W'∧v=u:=
 (h (la W) W vs hv (BA W)).mono fun e W' ⟨v,τ,c,L',he,hr,hst,hc⟩=>by
  subst hc
  exact ⟨v,he,⟨hst.os,hst.tape,hst.output,hst.size,fun k hk=>hst.old k hk (by simp)⟩,hr.sc_inv⟩
end Go.Proofs.YtjjpkibjffmceaaGreat
namespace Go.Proofs.YtjjpkibjffmceaaGreat
open Go.RowKit
def jN (u:AV):Option (FuncId×List AV):=match u with
 | .fn f cs=>some (f,cs)
 | .sc (.func (.func f) a b)=>match a.toList with
  | []=>match b.toList with
   | []=>some (f,[])
   | _=>none
  | _=>none
 | _=>none
theorem B7 {u:AV} {f:FuncId} {cs:List AV} (h:jN u=some (f,cs)) {σ:ce} {v:Value} (hv:VR σ u v):VR σ (.fn f cs) v:=by
 unfold jN at h
 split at h
 ·cases h;exact hv
 ·rename_i a b
  split at h
  ·rename_i ha
   split at h
   ·rename_i hb
    cases h
    have e1:a=#[]:=by apply Array.toList_inj.1;simpa using ha
    have e2:b=#[]:=by apply Array.toList_inj.1;simpa using hb
    subst e1;subst e2
    rw [hv.sc_inv]
    exact .fn f [] [] rfl (fun i c u h=>by simp at h)
   ·cases h
  ·cases h
 ·cases h
section
variable {P:Program} {r:Option Nat} {ops:Array Oper} {Q:Exit→Act→World→Prop} {nt:Nat} {D:List Deferred} {fr:cu} {B:Bs} {L:AL} {rest:List Oper} {d:Nat} {ty t:TypeId} {pos:String} {af:Array Edge} {x y z:Operand} {u:AV} {g:Option (Nat×Bool)}
theorem pI (Lc Lf:AL) {d:Option Tmp} {f:FuncId} {args:Array Operand} {ts:Array TypeId} {cs caps:List AV} {Post:AV→AL→Prop} [hf:bN P f] (hx:bO fr x=some u) (hu:jN u=some (f,caps)) (hv:eB fr args.toList=some cs) (hL:L.Perm (Lc++Lf)) (h:AC P f (cs++caps) Lc Post):
  AO P ⟨d,.call ⟨.value x,args,ts⟩,ty,pos,af,g⟩ fr B L (fun c L'=>∃L1,Post c L1∧L'=L1++Lf):=by
 intro σ ρ w hρ hw0
 have hw:=hw0.perm hL
 obtain ⟨ws,hw1,hw2⟩:=(B7 hu (hρ x _ hx)).fn_inv
 have hvs:=f8 hρ _ _ hv
 have e:args.map ρ=(args.toList.map ρ).toArray:=by apply Array.toList_inj.1;simp
 unfold iN
 rw [show (execOp ρ ⟨d,.call ⟨.value x,args,ts⟩,ty,pos,af,g⟩).run P w= .ok (.enter f (args.toList.map ρ++ws).toArray) w by
  simp [execOp,resolve,hw1,Deferred.ofValue,invoke,hf.enters]]
 have hall:dx σ (cs++caps) (args.toList.map ρ++ws):=by
  refine ⟨by rw [List.length_append,List.length_append,hvs.1,hw2.1],fun i c u hc hu=>?_⟩
  have hq:=hvs.1
  by_cases hi:i < cs.length
  ·rw [List.getElem?_append_left hi] at hc
   rw [List.getElem?_append_left (by omega)] at hu
   exact hvs.2 i c u hc hu
  ·rw [List.getElem?_append_right (by omega)] at hc
   rw [List.getElem?_append_right (by omega),←hq] at hu
   exact hw2.2 _ c u hc hu
 refine (h σ w _ hall hw.enter).mono fun en w' ⟨v,τ,c,L',h1,h2,h3,h4⟩=>⟨v,h1,τ,c,L'++Lf,h3.grow,h2,hw.leave h3,L',h4,rfl⟩
theorem dw {f:FuncId} {args:Array Operand} {ts:Array TypeId} {cs caps:List AV} {Post:AV→AL→Prop} [bN P f] (Lc Lf:AL) (hc:AC P f (cs++caps) Lc Post) (hx:bO fr x=some u) (hu:jN u=some (f,caps)) (hv:eB fr args.toList=some cs) (hL:L.Perm (Lc++Lf)) (hn:Oper.noDefer ⟨some d,.call ⟨.value x,args,ts⟩,ty,pos,af,none⟩=true) (hd:Nat.ble nt d=false) (h:∀c L1,Post c L1→bW P r ops Q nt D rest ((d,c)::fr) B (L1++Lf)):
  bW P r ops Q nt D (⟨some d,.call ⟨.value x,args,ts⟩,ty,pos,af,none⟩::rest) fr B L:=
 dk hd hn (pI Lc Lf hx hu hv hL hc) fun c L' ⟨L1,h1,h2⟩=>by subst h2;exact h c L1 h1
end
theorem jm.shadow2 {σ:ce} {nt:Nat} {D:List Deferred} {fr:cu} {a:Act} {t:Nat} {v:AV} (h:jm σ nt D fr a) (hl:VR σ v (a.tmps.getD t undef)):jm σ nt D ((t,v)::fr) a:=
 ⟨h.size,h.defers,fun t' v' hl'=>by
  rw [cG] at hl'
  by_cases e:t=t'
  ·subst e;simp only [if_true,Option.some.injEq] at hl';subst hl';exact hl
  ·rw [if_neg e] at hl';exact h.look t' v' hl'⟩
theorem du {P:Program} {r:Option Nat} {ops:Array Oper} {Q:Exit→Act→World→Prop} {nt:Nat} {D:List Deferred} {fr fr0:cu} {B:Bs} {L:AL} {rest:List Oper} {t:Nat} (ks:List Nat) (C:Prop) [Decidable C] (hks:i6 fr ks=some fr0) (h:∀Q',(∀fr' b,i6 fr' ks=some fr0→cw fr' t=some (.sc (.bool b))→(b=true↔C)→AX P .normal Q' nt D fr' B L)→bW P r ops Q' nt D rest fr B L) (k:AX P .normal Q nt D ((t,.sc (.bool (decide C)))::fr0) B L):bW P r ops Q nt D rest fr B L:=by
 refine h Q fun fr' b hk hb hC=>fun σ a w ha hw=>k σ a w ?_ hw
 have hb':b=decide C:=by
  by_cases hc:C
  ·rw [decide_eq_true hc,hC.2 hc]
  ·rw [decide_eq_false hc]
   cases b with
   | true=>exact absurd (hC.1 rfl) hc
   | false=>rfl
 subst hb'
 exact (ha.weak (eC _ hk)).shadow2 (ha.look t _ hb)
theorem AC.frame {P:Program} {f:FuncId} {args:List AV} {L Lf:AL} {Post:AV→AL→Prop} (h:AC P f args L Post):AC P f args (L++Lf) fun c L'=>∃L1,Post c L1∧L'=L1++Lf:=by
 intro σ w vs hv hs
 refine (h σ w vs hv hs.enter).mono fun en w' ⟨v,τ,c,L',h1,h2,h3,h4⟩=>⟨v,τ,c,L'++Lf,h1,h2,hs.leave h3,L',h4,rfl⟩
theorem Cx.perm {P:Program} {σ0:ce} {f:FuncId} {args:List AV} {L L2:AL} {Post:AV→AL→Prop} (h:Cx P σ0 f args L Post) (hp:L2.Perm L):Cx P σ0 f args L2 Post:=by
 intro σ w vs hle hv hs
 refine (h σ w vs hle hv ?_).mono fun en w' ⟨v,τ,c,L',h1,h2,h3,h4⟩=>⟨v,τ,c,L',h1,h2,?_,h4⟩
 ·have:=hs.perm hp
  exact ⟨this.os,this.tape,this.output,this.size,fun k h1 h2=>this.old k h1 (fun h3=>h2 ((hp.map _).mem_iff.1 h3)),this.here,fun p hp'=>(this.mine p hp').imp id (fun h3=>(hp.map _).mem_iff.1 h3),this.apart,this.froz,this.free,this.grow,fun b h1 h2=>this.same b h1 (fun h3=>h2 ((hp.map _).mem_iff.1 h3)),fun b off u h1 h2=>this.cold b off u (h1.imp id (fun h3=>(hp.map _).mem_iff.2 h3)) h2⟩
 ·exact ⟨h3.os,h3.tape,h3.output,h3.size,fun k h1 h2=>h3.old k h1 (fun h3=>h2 ((hp.map _).mem_iff.2 h3)),h3.here,fun p hp'=>(h3.mine p hp').imp id (fun h3=>(hp.map _).mem_iff.2 h3),h3.apart,h3.froz,h3.free,h3.grow,fun b h1 h2=>h3.same b h1 (fun h3=>h2 ((hp.map _).mem_iff.2 h3)),fun b off u h1 h2=>h3.cold b off u (h1.imp id (fun h3=>(hp.map _).mem_iff.1 h3)) h2⟩
theorem ck {nt:Nat} {D:List Deferred} {B:Bs} {fr:cu} {L L':AL} (h:L'.Sublist L):mK nt D B fr L fr L':=fun σ _ _ ha hw=>⟨σ,ha,hw.sublist h⟩
section
variable {P:Program} {l:List Oper} {fr:cu} {fin:kF} {sk:mF} {acc:cu} {L:AL} {k:Nat} {dd:Option Tmp} {ty:TypeId} {pos:String} {af:Array Edge} {g:Option (Nat×Bool)} {x:Operand} {u:AV}
theorem dJ {f:FuncId} {args:Array Operand} {ts:Array TypeId} {cs ds:List AV} {Post:AV→AL→Prop} [bN P f] (Lc Lf:AL) (hc:AC P f ds Lc Post) (hv:eB (dc l.toArray acc fr af.toList) args.toList=some cs) (hi:jq cs=some ds) (hL:L.Perm (Lc++Lf)) (hg:jt ⟨dd,.call ⟨.value (.func f),args,ts⟩,ty,pos,af,g⟩ acc) (h:∀c L1,Post c L1→DA P l fr fin sk ((k,c)::acc) (L1++Lf)):
  dl P l fr fin k .e ⟨dd,.call ⟨.value (.func f),args,ts⟩,ty,pos,af,g⟩ sk acc L:=by
 have hc':=hc
 rw [←gE hi] at hc'
 exact iQ hg (fun B=>mN Lc Lf hv (fun σ vs h=>h.im) hL hc') fun c L' ⟨L1,h1,h2⟩=>by subst h2;exact h c L1 h1
theorem sE {f:FuncId} {args:Array Operand} {ts:Array TypeId} {cs ds:List AV} {Post:AV→AL→Prop} [bN P f] (Lc Lf:AL) (hc:AC P f ds Lc Post) (hv:eB (dc l.toArray acc fr af.toList) args.toList=some cs) (hi:jq cs=some ds) (hL:L.Perm (Lc++Lf)) (hg:jt ⟨dd,.call ⟨.value (.func f),args,ts⟩,ty,pos,af,g⟩ acc) (hK:∀c L1,Post c L1→eU fin.gs L→eU fin.gs (L1++Lf)) (h:∀c L1,Post c L1→DA P l fr fin sk ((k,c)::acc) (L1++Lf)):
  dl P l fr fin k .f ⟨dd,.call ⟨.value (.func f),args,ts⟩,ty,pos,af,g⟩ sk acc L:=by
 have hc':=hc
 rw [←gE hi] at hc'
 exact sH (fun c L' ⟨L1,h1,h2⟩ hk=>by subst h2;exact hK c L1 h1 hk) hg (fun B=>mN Lc Lf hv (fun σ vs h=>h.im) hL hc') fun c L' ⟨L1,h1,h2⟩=>by subst h2;exact h c L1 h1
end
theorem bV.any {P:Program} {f:FuncId} {args:List AV} {u:AV} (h:bV P f args u) (L:AL):AC P f args L fun c L'=>c=u∧∃L1,L'=L1++L:=(AC.frame (Lf:=L) h).mono fun c L' ⟨L1,h1,h2⟩=>⟨h1,L1,h2⟩
end Go.Proofs.YtjjpkibjffmceaaGreat
namespace Go.Proofs.YtjjpkibjffmceaaGreat
open Go.RowKit Go.MapKept
structure ju (P:Program) (t:TypeId):Prop where
 ex:∃f1 f2:Field,P.underlying t=some (.struct #[f1,f2])∧(f1.name≠ "_" ∧f2.name≠ "_")∧(f1.offset=0∧f2.offset=1)∧P.underlying f1.type=some (.int .i64)∧P.underlying f2.type=some (.int .i64)
 st:P.stoodInHeld t=false
abbrev nI (a b:Int):Value:= .agg #[.int .i64 a,.int .i64 b]
def sr (v:Value):Prop:=∃a b,v=nI a b
section
variable {P:Program} {t:TypeId}
theorem rk {u:TypeId} {k:IntKind} (h:P.underlying u=some (.int k)) (w:World):(isAgg u).run P w= .ok false w:=by
 simp [isAgg,run_underlying h]
theorem fW {u:TypeId} {k:IntKind} (h:P.underlying u=some (.int k)) {cs:Array Value} {o:Nat} {v:Value} (hv:cs[o]?=some v) (w:World):(part u cs o).run P w= .ok v w:=by
 simp [part,rk h,hv,Result.andThen]
theorem ju.eq (h:ju P t) (a b c d:Int) (w:World):(Op.equal t (nI a b) (nI c d)).run P w= .ok (decide (a=c∧b=d)) w:=by
 obtain ⟨⟨f1,f2,hu,⟨hn1,hn2⟩,⟨ho1,ho2⟩,h1,h2⟩,hst⟩:=h
 have hf:P.fieldsOf t=#[f1,f2]:=by simp [Program.fieldsOf,hu]
 have hu':P.underlying t=some (.struct (P.fieldsOf t)):=by rw [hf];exact hu
 unfold Op.equal
 rw [show Op.maxDepth=9999+1 from rfl,run_equalIn_struct w 9999 t _ _ hu' hst,hf]
 simp only [Op.eqFields,if_pos hn1,if_pos hn2,Sem.run_bind,ho1,ho2]
 rw [fW h1 (v:= .int .i64 a) (by rfl)]
 simp only [Result.andThen]
 rw [fW h1 (v:= .int .i64 c) (by rfl)]
 simp only [Result.andThen]
 rw [show (9999:Nat)=9998+1 from rfl,run_equalIn_int w 9998 f1.type .i64 .i64 a c h1]
 simp only [Result.andThen,Sem.run_ite]
 by_cases hac:a=c
 ·subst hac
  simp only [BEq.rfl,Bool.not_true,Bool.false_eq_true,if_false,Sem.run_bind]
  rw [fW h2 (v:= .int .i64 b) (by rfl)]
  simp only [Result.andThen]
  rw [fW h2 (v:= .int .i64 d) (by rfl)]
  simp only [Result.andThen]
  rw [run_equalIn_int w 9998 f2.type .i64 .i64 b d h2]
  by_cases hbd:b=d
  ·subst hbd;simp
  ·simp [hbd]
 ·simp [hac]
theorem nG {a b c d:Int}:nI a b=nI c d↔a=c∧b=d:=by simp
theorem ju.check (h:ju P t) {k:Value} (hk:sr k) (e:Bool) (n:Nat) (w:World):(Instr.checkKey e (n+2) t k).run P w= .ok () w:=by
 obtain ⟨⟨f1,f2,hu,⟨hn1,hn2⟩,⟨ho1,ho2⟩,h1,h2⟩,hst⟩:=h
 obtain ⟨a,b,rfl⟩:=hk
 unfold Instr.checkKey
 simp only [Sem.run_bind,run_underlying hu,Result.andThen]
 rw [←Array.forIn_toList]
 simp only [List.forIn_cons,List.forIn_nil,if_pos hn1,if_pos hn2,Sem.run_bind,ho1,ho2]
 rw [fW h1 (v:= .int .i64 a) (by rfl)]
 simp only [Result.andThen]
 rw [run_checkKey (d:= .int .i64) h1 (by rfl)]
 simp only [Result.andThen,Sem.run_bind,Sem.run_pure]
 rw [fW h2 (v:= .int .i64 b) (by rfl)]
 simp only [Result.andThen]
 rw [run_checkKey (d:= .int .i64) h2 (by rfl)]
 simp only [Result.andThen,Sem.run_bind,Sem.run_pure]
theorem ju.asking (h:ju P t) {k:Value} (hk:sr k) (w:World):∀(l:List MapEntry) (i:Nat),(∀x∈l,sr x.key)→
  ((Instr.findAsking t k l i).run P w= .ok none w∧∀x∈l,x.key≠k)∨∃j e,(Instr.findAsking t k l i).run P w= .ok (some (i+j,e.val)) w∧l[j]?=some e∧e.key=k
 | [],_,_=> .inl ⟨by simp [Instr.findAsking],by simp⟩
 | e::es,i,hall=>by
  obtain ⟨a,b,rfl⟩:=hk
  obtain ⟨c,d,hc⟩:=hall e (.head _)
  have he:=h.eq a b c d w
  by_cases hh:a=c∧b=d
  ·refine .inr ⟨0,e,?_,rfl,by rw [hc,nG];exact ⟨hh.1.symm,hh.2.symm⟩⟩
   rw [Instr.findAsking,Sem.run_bind,hc,he,decide_eq_true hh]
   simp [Result.andThen]
  ·have hne:e.key≠nI a b:=fun q=>hh (by rw [hc,nG] at q;exact ⟨q.1.symm,q.2.symm⟩)
   have hr:(Instr.findAsking t (nI a b) (e::es) i).run P w=(Instr.findAsking t (nI a b) es (i+1)).run P w:=by
    rw [Instr.findAsking,Sem.run_bind,hc,he,decide_eq_false hh]
    simp [Result.andThen]
   rw [hr]
   rcases ju.asking h ⟨a,b,rfl⟩ w es (i+1) (fun x hx=>hall x (.tail _ hx)) with ⟨h1,h2⟩ | ⟨j,e',h1,h2,h3⟩
   ·exact .inl ⟨h1,fun x hx=>by
     cases hx with
     | head=>exact hne
     | tail _ hx=>exact h2 x hx⟩
   ·exact .inr ⟨j+1,e',by rw [h1,show i+(j+1)=i+1+j by omega],by simpa using h2,h3⟩
theorem ju.find (h:ju P t) {k:Value} (hk:sr k) (w:World) (l:List MapEntry) (hall:∀x∈l,sr x.key):
  ((Instr.findKey t k l).run P w= .ok none w∧∀x∈l,x.key≠k)∨∃j e,(Instr.findKey t k l).run P w= .ok (some (j,e.val)) w∧l[j]?=some e∧e.key=k:=by
 have h0:=h
 obtain ⟨⟨f1,f2,hu,_⟩,_⟩:=h0
 cases l with
 | nil=>exact .inl ⟨by simp [Instr.findKey,run_underlying hu,Result.andThen,Instr.findNow],by simp⟩
 | cons e es=>
  have hr:(Instr.findKey t k (e::es)).run P w=(Instr.findAsking t k (e::es) 0).run P w:=by
   simp [Instr.findKey,run_underlying hu,Result.andThen,Instr.findNow,Instr.sameNow]
  rw [hr]
  rcases h.asking hk w (e::es) 0 hall with h1 | ⟨j,e',h1,h2⟩
  ·exact .inl h1
  ·exact .inr ⟨j,e',by rw [h1,Nat.zero_add],h2⟩
theorem rl {k:Value} (hk:sr k) (w:World):(Instr.keyThatStays k k).run P w= .ok k w:=by
 obtain ⟨a,b,rfl⟩:=hk
 have:Instr.sameBits 10000 (nI a b) (nI a b)=true:=by
  rw [show (10000:Nat)=9999+1 from rfl]
  simp [Instr.sameBits]
 simp [Instr.keyThatStays,this]
end
def ip (m:Int→Int→Option AV) (σ:ce) (o:Obj):Prop:=
 ∃es clock,o= .map es clock∧(∀x∈es.toList,∃a b,x.key=nI a b∧∃c,m a b=some c∧VR σ c x.val)∧es.toList.Pairwise (fun x y=>x.key≠y.key)∧∀a b c,m a b=some c→∃x∈es.toList,x.key=nI a b
def iz (m:Int→Int→Option AV):AB:= .dep (ip m) fun σ τ o hle ⟨es,clock,h1,h2,h3,h4⟩=>⟨es,clock,h1,fun x hx=>by
 obtain ⟨a,b,e,c,g,f⟩:=h2 x hx
 exact ⟨a,b,e,c,g,f.mono hle⟩,h3,h4⟩
theorem ip.keys {m:Int→Int→Option AV} {σ:ce} {es:Array MapEntry} {clock:Nat} (h:ip m σ (.map es clock)):∀x∈es.toList,sr x.key:=by
 obtain ⟨es',clock',h1,h2,h3,h4⟩:=h
 cases h1
 intro x hx
 obtain ⟨a,b,h5,_⟩:=h2 x hx
 exact ⟨a,b,h5⟩
theorem ip.none {P:Program} {t:TypeId} (ht:ju P t) {m:Int→Int→Option AV} {σ:ce} {es:Array MapEntry} {clock:Nat} {a b:Int} (h:ip m σ (.map es clock)) (hm:m a b=none) (w:World):(Instr.findKey t (nI a b) es.toList).run P w= .ok none w∧∀x∈es.toList,x.key≠nI a b:=by
 rcases ht.find ⟨a,b,rfl⟩ w es.toList h.keys with h5 | ⟨j,e,h5,h6,h7⟩
 ·exact h5
 ·obtain ⟨es',clock',h1,h2,h3,h4⟩:=h
  cases h1
  obtain ⟨a',b',h8,c,h9,_⟩:=h2 e (Iw h6)
  rw [h7,nG] at h8
  rw [h8.1,h8.2] at hm
  rw [hm] at h9
  cases h9
theorem ip.some {P:Program} {t:TypeId} (ht:ju P t) {m:Int→Int→Option AV} {σ:ce} {es:Array MapEntry} {clock:Nat} {a b:Int} {c:AV} (h:ip m σ (.map es clock)) (hm:m a b=some c) (w:World):∃(j:Nat) (e:MapEntry),(Instr.findKey t (nI a b) es.toList).run P w= .ok (some (j,e.val)) w∧es[j]?=some e∧e.key=nI a b∧VR σ c e.val:=by
 rcases ht.find ⟨a,b,rfl⟩ w es.toList h.keys with ⟨_,h5⟩ | ⟨j,e,h5,h6,h7⟩
 ·obtain ⟨es',clock',h1,h2,h3,h4⟩:=h
  cases h1
  obtain ⟨x,hx,hk'⟩:=h4 a b c hm
  exact absurd hk' (h5 x hx)
 ·obtain ⟨es',clock',h1,h2,h3,h4⟩:=h
  cases h1
  obtain ⟨a',b',h8,c',h9,h10⟩:=h2 e (Iw h6)
  rw [h7,nG] at h8
  rw [←h8.1,←h8.2,hm] at h9
  cases h9
  exact ⟨j,e,h5,by simpa using h6,h7,h10⟩
theorem tu {σ:ce} {a b:Int} {v:Value} (h:VR σ (.agg [.sc (.int .i64 a),.sc (.int .i64 b)]) v):v=nI a b:=by
 obtain ⟨vs,rfl,hs,_⟩:=h.agg_inv
 obtain ⟨v1,ws,rfl,h1,h2⟩:=hs.inv
 obtain ⟨v2,ws',rfl,h3,h4⟩:=h2.inv
 rw [h4.nil_inv,h1.sc_inv,h3.sc_inv]
section
variable {P:Program} {fr:cu} {B:Bs} {L:AL} {d:Option Tmp} {ty t:TypeId} {pos:String} {af:Array Edge} {g:Option (Nat×Bool)} {x y z:Operand} {u:AV}
theorem tO:AO P ⟨d,.makeMap t none,ty,pos,af,g⟩ fr B L (fun c L'=>∃b,c= .sc (.map (some b))∧L'=(b,iz fun _ _=>none)::L):=by
 intro σ ρ w hρ hw
 have hr:(execOp ρ ⟨d,.makeMap t none,ty,pos,af,g⟩).run P w= .ok (.value (.map (some w.heap.size))) (w.alloc (.map #[] 0)):=by
  simp [execOp,Instr.makeMap]
 unfold iN
 rw [hr]
 exact ⟨σ,_,_,ce.le_refl _,.sc _,hw.alloc _ (iz fun _ _=>Option.none) ⟨#[],0,rfl,by simp,by simp,by simp⟩,_,rfl,rfl⟩
theorem rd (i:Nat) {m1 kt et:Nat} {a b:Int} {m m':Int→Int→Option AV} (ht:P.underlying t=some (.map kt et)) (hkt:ju P kt) (hx:bO fr x=some (.sc (.map (some m1)))) (hy:bO fr y=some (.agg [.sc (.int .i64 a),.sc (.int .i64 b)])) (hz:bO fr z=some u) (hL:L[i]?=some (m1,iz m)) (h1:m' a b=some u) (h2:∀p q,¬(p=a∧q=b)→m' p q=m p q):
  AO P ⟨d,.mapUpdate t x y z,ty,pos,af,g⟩ fr B L (fun _ L'=>L'=g7 L i (iz m')):=by
 intro σ ρ w hρ hw
 obtain ⟨o,ho,hM⟩:=hw.here _ (Iw hL)
 have hM':ip m σ o:=hM
 obtain ⟨es,clock,rfl,h3,h4,h5⟩:=hM'
 have hM':ip m σ (.map es clock):=hM
 have hv:=hρ z u hz
 have hy':=tu (hρ y _ hy)
 have hlt:m1 < w.heap.size:=(Array.getElem?_eq_some_iff.1 ho).1
 have hk:sr (nI a b):=⟨a,b,rfl⟩
 have key:∃es' clock',(Instr.mapUpdate t (.map (some m1)) (nI a b) (ρ z)).run P w= .ok () (w.putObj m1 (.map es' clock'))∧ip m' σ (.map es' clock'):=by
  cases hm:m a b with
  | none=>
   obtain ⟨hf,hne⟩:=hM'.none hkt hm w
   refine ⟨es.push ⟨nI a b,ρ z,clock⟩,clock+1,?_,_,_,rfl,?_,?_,?_⟩
   ·simp only [Instr.mapUpdate,Sem.run_bind,run_underlying ht,MapKept.run_getObj_map ho,hkt.check hk false 9998 w,hf,Result.andThen]
    rw [MapKept.run_setObj_map _ ho]
    rfl
   ·intro e he
    rw [Array.toList_push,List.mem_append,List.mem_singleton] at he
    rcases he with he | rfl
    ·obtain ⟨p,q,h6,c,h7,h8⟩:=h3 e he
     refine ⟨p,q,h6,c,?_,h8⟩
     rw [h2 p q (fun e1=>by rw [e1.1,e1.2,hm] at h7;cases h7)]
     exact h7
    ·exact ⟨a,b,rfl,u,h1,hv⟩
   ·rw [Array.toList_push,List.pairwise_append]
    refine ⟨h4,by simp,fun e he e' he'=>?_⟩
    rw [List.mem_singleton] at he'
    subst he'
    exact hne e he
   ·intro p q c hq
    by_cases e:p=a∧q=b
    ·obtain ⟨rfl,rfl⟩:=e
     exact ⟨_,by rw [Array.toList_push];exact List.mem_append.2 (Or.inr (List.mem_singleton.2 rfl)),rfl⟩
    ·rw [h2 p q e] at hq
     obtain ⟨y,hy,hy'⟩:=h5 p q c hq
     exact ⟨y,by rw [Array.toList_push];exact List.mem_append.2 (Or.inl hy),hy'⟩
  | some c=>
   obtain ⟨j,e,h6,h7,h8,h9⟩:=hM'.some hkt hm w
   have hdis:∀n e',es[n]?=some e'→¬j=n→e'.key≠nI a b:=by
    intro n e' hn hne
    rw [←Array.getElem?_toList] at hn h7
    rw [←h8]
    rw [List.pairwise_iff_getElem] at h4
    obtain ⟨hj1,hj2⟩:=Io h7
    obtain ⟨hn1,hn2⟩:=Io hn
    rcases Nat.lt_or_gt_of_ne hne with hlt | hgt
    ·have:=h4 j n hj1 hn1 hlt
     rw [hj2,hn2] at this
     exact this.symm
    ·have:=h4 n j hn1 hj1 hgt
     rw [hj2,hn2] at this
     exact this
   refine ⟨es.modify j (fun e'=>{ e' with key:=nI a b,val:=ρ z }),clock,?_,_,_,rfl,?_,?_,?_⟩
   ·simp only [Instr.mapUpdate,Sem.run_bind,run_underlying ht,MapKept.run_getObj_map ho,hkt.check hk false 9998 w,h6,Result.andThen]
    rw [show ((es[j]?).map (·.key)).getD (nI a b)=nI a b by rw [h7];exact h8,rl hk]
    simp only [Result.andThen]
    rw [MapKept.run_setObj_map _ ho]
    rfl
   ·intro e' he'
    obtain ⟨n,hn⟩:=List.mem_iff_getElem?.1 he'
    rw [Array.getElem?_toList,Array.getElem?_modify] at hn
    by_cases e1:j=n
    ·subst e1
     rw [if_pos rfl,h7] at hn
     simp at hn
     subst hn
     exact ⟨a,b,rfl,u,h1,hv⟩
    ·rw [if_neg e1] at hn
     obtain ⟨p,q,h10,c',h11,h12⟩:=h3 e' (Iw (by rw [Array.getElem?_toList];exact hn))
     refine ⟨p,q,h10,c',?_,h12⟩
     rw [h2 p q (fun e2=>hdis n e' hn e1 (by rw [h10,e2.1,e2.2]))]
     exact h11
   ·have hkeys:(es.modify j (fun e'=>{ e' with key:=nI a b,val:=ρ z })).toList.map MapEntry.key=es.toList.map MapEntry.key:=by
     apply List.ext_getElem?
     intro n
     rw [List.getElem?_map,List.getElem?_map,Array.getElem?_toList,Array.getElem?_toList,Array.getElem?_modify]
     by_cases e1:j=n
     ·subst e1
      rw [if_pos rfl,h7]
      simp [h8]
     ·rw [if_neg e1]
    refine (List.pairwise_map (f:=MapEntry.key) (R:=fun a b:Value=>a≠b)).1 ?_
    rw [hkeys]
    exact List.pairwise_map.2 h4
   ·intro p q c hq
    by_cases e1:p=a∧q=b
    ·obtain ⟨rfl,rfl⟩:=e1
     refine ⟨{ e with key:=nI p q,val:=ρ z },List.mem_iff_getElem?.2 ⟨j,?_⟩,rfl⟩
     rw [Array.getElem?_toList,Array.getElem?_modify,if_pos rfl,h7]
     rfl
    ·rw [h2 p q e1] at hq
     obtain ⟨y,hy,hy'⟩:=h5 p q c hq
     obtain ⟨n,hn⟩:=List.mem_iff_getElem?.1 hy
     rw [Array.getElem?_toList] at hn
     refine ⟨y,List.mem_iff_getElem?.2 ⟨n,?_⟩,hy'⟩
     rw [Array.getElem?_toList,Array.getElem?_modify,if_neg,hn]
     intro e2
     subst e2
     rw [h7] at hn
     injection hn with hn
     subst hn
     rw [h8,nG] at hy'
     exact e1 ⟨hy'.1.symm,hy'.2.symm⟩
 obtain ⟨es',clock',hr,hq⟩:=key
 unfold iN
 rw [show (execOp ρ ⟨d,.mapUpdate t x y z,ty,pos,af,g⟩).run P w= .ok .skip (w.putObj m1 (.map es' clock')) by simp only [execOp,(hρ x _ hx).sc_inv,hy',Sem.run_bind,Sem.run_pure,Result.andThen,hr]]
 exact ⟨σ,.sc undef,_,ce.le_refl _,.sc _,hw.putAt (a':=iz m') hL (fun _=>trivial) (kY w m1 _) (World.putObj_heap_same hlt) hq,rfl⟩
theorem tN (i:Nat) {m1 kt et:Nat} {a b:Int} {v0:Value} {m:Int→Int→Option AV} {c0:AV} (ht:P.underlying t=some (.map kt et)) (hkt:ju P kt) (hx:bO fr x=some (.sc (.map (some m1)))) (hy:bO fr y=some (.agg [.sc (.int .i64 a),.sc (.int .i64 b)])) (hL:L[i]?=some (m1,iz m)) (hz:∀w,(zeroValue et).run P w= .ok v0 w) (h0:∀σ,VR σ c0 v0):
  AO P ⟨d,.lookup t x y false,ty,pos,af,g⟩ fr B L (fun c L'=>c=(m a b).getD c0∧L'=L):=by
 intro σ ρ w hρ hw
 obtain ⟨o,ho,hM⟩:=hw.here _ (Iw hL)
 have hM':ip m σ o:=hM
 obtain ⟨es,clock,rfl,_⟩:=hM'
 have hM':ip m σ (.map es clock):=hM
 have hk:sr (nI a b):=⟨a,b,rfl⟩
 have hy':=tu (hρ y _ hy)
 obtain ⟨v,hr,hv⟩:∃v,(Instr.lookup t (.map (some m1)) (nI a b) false).run P w= .ok v w∧VR σ ((m a b).getD c0) v:=by
  cases hm:m a b with
  | none=>
   refine ⟨v0,?_,h0 σ⟩
   simp only [Instr.lookup,Sem.run_bind,run_underlying ht,MapKept.run_getObj_map ho,hkt.check hk _ 9998 w,(hM'.none hkt hm w).1,Result.andThen,hz,Sem.run_pure]
   rfl
  | some c=>
   obtain ⟨j,e,h6,h7,h8,h9⟩:=hM'.some hkt hm w
   refine ⟨e.val,?_,h9⟩
   simp only [Instr.lookup,Sem.run_bind,run_underlying ht,MapKept.run_getObj_map ho,hkt.check hk _ 9998 w,h6,Result.andThen,hz,Sem.run_pure]
   rfl
 unfold iN
 rw [show (execOp ρ ⟨d,.lookup t x y false,ty,pos,af,g⟩).run P w= .ok (.value v) w by simp only [execOp,(hρ x _ hx).sc_inv,hy',Sem.run_bind,Sem.run_pure,Result.andThen,hr]]
 exact ⟨σ,(m a b).getD c0,_,ce.le_refl _,hv,hw,rfl,rfl⟩
end
section
variable {P:Program} {r:Option Nat} {ops:Array Oper} {Q:Exit→Act→World→Prop} {nt:Nat} {D:List Deferred} {fr:cu} {B:Bs} {L:AL} {rest:List Oper} {d:Nat} {ty t:TypeId} {pos:String} {af:Array Edge} {x y z:Operand} {u:AV}
theorem wm (h:∀b,bW P r ops Q nt D rest ((d,.sc (.map (some b)))::fr) B ((b,iz fun _ _=>none)::L)) (hd:Nat.ble nt d=false:=by rfl):bW P r ops Q nt D (⟨some d,.makeMap t none,ty,pos,af,none⟩::rest) fr B L:=
 dk hd rfl tO fun c L' ⟨b,h1,h2⟩=>by subst h1;subst h2;exact h b
theorem t8 (i:Nat) (m':Int→Int→Option AV) {b kt et:Nat} {p q:Int} {m:Int→Int→Option AV} (ht:P.underlying t=some (.map kt et)) (hkt:ju P kt) (hx:bO fr x=some (.sc (.map (some b)))) (hy:bO fr y=some (.agg [.sc (.int .i64 p),.sc (.int .i64 q)])) (hz:bO fr z=some u) (hL:L[i]?=some (b,iz m)) (h1:m' p q=some u) (h2:∀p' q',¬(p'=p∧q'=q)→m' p' q'=m p' q')
  (h:bW P r ops Q nt D rest fr B (g7 L i (iz m'))):bW P r ops Q nt D (⟨none,.mapUpdate t x y z,ty,pos,af,none⟩::rest) fr B L:=
 kJ rfl (rd i ht hkt hx hy hz hL h1 h2) fun c L' h3=>by subst h3;exact h
theorem wl (i:Nat) (v0:Value) {b kt et:Nat} {p q:Int} {m:Int→Int→Option AV} (ht:P.underlying t=some (.map kt et)) (hkt:ju P kt) (hx:bO fr x=some (.sc (.map (some b)))) (hy:bO fr y=some (.agg [.sc (.int .i64 p),.sc (.int .i64 q)])) (hL:L[i]?=some (b,iz m)) (hz:kz P et v0=true) (hd:Nat.ble nt d=false)
  (h:bW P r ops Q nt D rest ((d,(m p q).getD (.sc v0))::fr) B L):bW P r ops Q nt D (⟨some d,.lookup t x y false,ty,pos,af,none⟩::rest) fr B L:=
 dk hd rfl (tN i ht hkt hx hy hL (fO hz) fun _=> .sc _) fun c L' ⟨h1,h2⟩=>by subst h1;subst h2;exact h
end
end Go.Proofs.YtjjpkibjffmceaaGreat
