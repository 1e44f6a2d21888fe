/-
  The program's instances: features, lookups.
-/
import Derived.Test.YtamjlkdanllgjaaGreatDoorM12
import Derived.Test.YtamjlkdanllgjaaGreatDoorM11
import Derived.Test.YtamjlkdanllgjaaGreatDoorM06
import Derived.WalkSpells
import Derived.RecoverIn
import Derived.WalkLawsBesides
import Derived.Laws.NewFold
import Derived.Test.YtamjlkdanllgjaaGreatDoorM05
import Derived.Test.YtamjlkdanllgjaaGreatDoorM09
namespace Go.Proofs.YtamjlkdanllgjaaGreatDoor
open Go.RowKit
attribute [local irreducible] AT bF AX AO Av Kt b8 d9 DA cu
set_option maxRecDepth 8000
theorem Fj {a z c ys:List AV} (h:z.length=ys.length):eR (a++(z++c)) a.length ys=a++(ys++c):=by
 apply List.ext_getElem?
 intro j
 rw [fx _ _ _ _ (by rw [List.length_append,List.length_append];omega)]
 by_cases h1:a.length≤j∧j < a.length+ys.length
 ·rw [if_pos h1,List.getElem?_append_right h1.1,List.getElem?_append_left (by omega)]
 ·rw [if_neg h1]
  by_cases h2:j < a.length
  ·rw [List.getElem?_append_left h2,List.getElem?_append_left h2]
  ·rw [List.getElem?_append_right (by omega),List.getElem?_append_right (by omega),List.getElem?_append_right (by omega),List.getElem?_append_right (by omega),h]
def eV {β:Type} (c:β→List AV) (zs:List AV) (l:List β) (i:Nat):List AV:=((l.take i).map c).flatten++(List.replicate (l.length - i) zs).flatten
theorem kG {β:Type} {c:β→List AV} {zs:List AV} {sz:Nat} (hc:∀b,(c b).length=sz) (hz:zs.length=sz) (l:List β) {i:Nat} (hi:i≤l.length):(eV c zs l i).length=l.length * sz:=by
 unfold eV
 rw [List.length_append,bY (sz:=sz) (fun e he=>by obtain ⟨y,_,rfl⟩:=List.mem_map.1 he;exact hc y),bY (sz:=sz) (fun e he=>by rw [List.eq_of_mem_replicate he,hz]),Ou,List.length_take,List.length_replicate,←Nat.add_mul]
 congr 1
 omega
theorem kH {β:Type} {c:β→List AV} {zs:List AV} {sz:Nat} (hc:∀b,(c b).length=sz) (hz:zs.length=sz) {l:List β} {i:Nat} {z:β} (h:l[i]?=some z):eR (eV c zs l i) (i * sz) (c z)=eV c zs l (i+1):=by
 have hi:=(Ol h).1
 have hl:(((l.take i).map c).flatten).length=i * sz:=by
  rw [bY (sz:=sz) (fun e he=>by obtain ⟨y,_,rfl⟩:=List.mem_map.1 he;exact hc y),Ou,List.length_take,Nat.min_eq_left (by omega)]
 unfold eV
 rw [show l.length - i=(l.length - (i+1))+1 by omega,List.replicate_succ,List.flatten_cons,←hl,Fj (by rw [hz,hc]),List.take_add_one,h,List.map_append,List.flatten_append,List.append_assoc]
 simp
theorem je {β:Type} (c:β→List AV) (zs:List AV) (l:List β):(List.replicate l.length zs).flatten=eV c zs l 0:=by
 unfold eV
 simp
theorem kF {β:Type} (c:β→List AV) (zs:List AV) (l:List β):eV c zs l l.length=(l.map c).flatten:=by
 unfold eV
 simp
theorem nH {P:Program} {tt:TT} {r:Option Nat} {ops:Array Oper} {Q:Exit→Act→World→Prop} {nt:Nat} {D:List Deferred} {fr:bZ} {B:Bs} {L:AL} {rest:List Oper} {ty t:TypeId} {pos:String} {af:Array Edge} {x y:Operand} {u:AV} (ok:eh P tt) (i q:Nat) {b p n:Nat} {cs ys:List AV} {e:TypeId} (ht:Il tt t=some n) (hx:bw fr x=some (.sc (.pointer (some ⟨b,p,none⟩)))) (hp:p=q) (hy:bw fr y=some u) (hu:u.cells=some ys) (hL:L[i]?=some (b,.box cs e)) (hn:Nat.beq ys.length n=true) (hq:q+n≤cs.length) (h:bF P r ops Q nt D rest fr B (fN L i (.box (eR cs q ys) e))):
  bF P r ops Q nt D (⟨none,.store t x y,ty,pos,af,none⟩::rest) fr B L:=by
 subst hp
 exact ai ok i ht hx hy hu hL hn (Nat.ble_eq_true_of_le hq) h
theorem He (l:List bz) (hl:l.length≤1000000) (hr:∀q∈l,q.Lookups.length≤1000000):bH Tryz.prog 48 [.imm 2 (l.map bI)] (.imm 2 (l.map bI)):=by
 refine aQ Tryz.func48 rfl Tryz.ntmps48 rfl fun B=>?_
 have hll:(l.map bI).length=l.length:=Ou ..
 refine W01 ?_
 refine ej a7 l.length rfl rfl rfl rfl rfl (by rw [hll]) (by rw [hll]) (by omega) (by omega) rfl fun b=>?_
 rw [show (List.replicate l.length (List.map AV.sc _)).flatten=eV bI [oh ⟨#[]⟩,.sc (.slice none 0 0)] l 0 from je _ _ _]
 refine W03 ?_
 refine aJ [3,9,10] (α:=Nat) (fun i=>[(11,aG i)]) (fun i=>i≤l.length) (fun i=>[(b,.box (eV bI [oh ⟨#[]⟩,.sc (.slice none 0 0)] l i) _)]) (fun i=>l.length - i) 0 rfl ⟨rfl,trivial⟩ (Nat.zero_le _) (fun _ _ h=>h) fun i hi=>?_
 try dsimp only [Oq,Oo,Om,Oh]
 refine W01 ?_
 refine aw rfl (fun h=>?_) (fun h=>?_)
 ·have hil:i < l.length:=by have:=Oy h;omega
  obtain ⟨z,hz⟩:∃z,l[i]?=some z:=⟨_,Oz hil⟩
  have hzg:=c7 (c:=bI) hz
  clear h
  haveI:=AD.mk (wM (aL z.Lookups) (fun q hq=>by obtain ⟨y,_,rfl⟩:=List.mem_map.1 hq;rfl) (by rw [aP];exact hr z (Ow hz)))
  refine W0J ?_
  intros
  refine bk 8 [(0,.v),(1,.v),(2,.v),(3,.v),(4,.v),(5,.v),(6,.v),(7,.v)] none ?_ trivial rfl (by kernel_rfl) (by kernel_rfl) (by kernel_rfl) mixed (by kernel_rfl) rfl
  refine W0j ?_
  refine OO [3,9,10,11,16,17,23] KN ?_
  refine W0i ?_
  refine nH (n:=2) (ys:=bI z) a7 0 (i * 2) rfl rfl (by omega) rfl rfl rfl rfl (by rw [kG (sz:=2) (fun _=>rfl) rfl l hi];omega) ?_
  rw [kH (sz:=2) (fun _=>rfl) rfl hz]
  refine W02 ?_
  exact aD (i+1) rfl ⟨by rw [Ov];rfl,trivial⟩ hil (by omega) (fun _ _ h=>h)
 ·have hil:i=l.length:=by have:=Ox h;omega
  subst hil
  refine W01 ?_
  rw [kF]
  have hfl:((l.map bI).flatten).length=l.length * 2:=by rw [bY (sz:=2) (fun e he=>by obtain ⟨y,_,rfl⟩:=List.mem_map.1 he;rfl),hll]
  refine b7 (dl (t:=2) (sz:=2) (l:=l.map bI) 0 rfl rfl (List.take_of_length_le (by omega)) (by omega) (fun q hq=>by obtain ⟨y,_,rfl⟩:=List.mem_map.1 hq;rfl) hll (Nat.le_refl _) (by unfold maxLen;omega)) ?_
  exact OL NZ
structure Jl (r:bJ):Prop where
 back:r.Back.length≤1000000∧∀q∈r.Back,q.length≤1000000
 inn:r.In.length≤1000000∧∀q∈r.In,q.length≤1000000
 ahead:r.Ahead.length≤1000000∧∀q∈r.Ahead,q.length≤1000000
 out:r.Out.length≤1000000
 calls:r.Calls.length≤1000000
abbrev kS:AV:= .sc (.slice none 0 0)
abbrev Mn:List AV:=[aG 0,cU false,kS]
abbrev NC:List AV:=[kS,kS,kS,kS,kS,aG 0]
theorem Fk {cs:List AV} {k:Nat} {a b c c':AV} (h:k+3≤cs.length):(eR cs k [a,b,c]).set (k+2) c'=eR cs k [a,b,c']:=by
 apply List.ext_getElem?
 intro j
 rw [fx _ _ _ _ (by simp;omega)]
 by_cases e:k+2=j
 ·subst e
  rw [List.getElem?_set_self (by rw [jO];omega),if_pos (by simp)]
  simp
 ·rw [List.getElem?_set_ne e,fx _ _ _ _ (by simp;omega)]
  by_cases h1:k≤j∧j < k+3
  ·rw [if_pos (by simpa using h1),if_pos (by simpa using h1)]
   have:j - k=0∨j - k=1:=by omega
   rcases this with h2 | h2 <;> rw [h2] <;> rfl
  ·rw [if_neg (by simpa using h1),if_neg (by simpa using h1)]
set_option maxHeartbeats 8000000 in
theorem HB (l:List bf) (hl:l.length≤1000000) (hr:∀q∈l,q.Rules.length≤1000000∧∀r∈q.Rules,Jl r):bH Tryz.prog 47 [.imm 3 (l.map bC)] (.imm 3 (l.map bC)):=by
 refine aQ Tryz.func47 rfl Tryz.ntmps47 rfl fun B=>?_
 have hll:(l.map bC).length=l.length:=Ou ..
 refine W01 ?_
 refine ej a7 l.length rfl rfl rfl rfl rfl (by rw [hll]) (by rw [hll]) (by omega) (by omega) rfl fun b=>?_
 rw [show (List.replicate l.length (List.map AV.sc _)).flatten=eV bC Mn l 0 from je _ _ _]
 refine W03 ?_
 refine aJ [3,11,12] (α:=Nat) (fun i=>[(13,aG i)]) (fun i=>i≤l.length) (fun i=>[(b,.box (eV bC Mn l i) _)]) (fun i=>l.length - i) 0 rfl ⟨rfl,trivial⟩ (Nat.zero_le _) (fun _ _ h=>h) fun i hi=>?_
 try dsimp only [Oq,Oo,Om,Oh]
 refine W01 ?_
 refine aw rfl (fun h=>?_) (fun h=>?_)
 ·have hil:i < l.length:=by have:=Oy h;omega
  obtain ⟨z,hz⟩:∃z,l[i]?=some z:=⟨_,Oz hil⟩
  have hzg:=c7 (c:=bC) hz
  obtain ⟨hn,hrs⟩:=hr z (Ow hz)
  have hrl:(z.Rules.map bN).length=z.Rules.length:=Ou ..
  clear h
  refine W0B ?_
  intros
  refine bk 11 [(0,.v),(1,.v),(2,.v),(3,.v),(4,.v),(5,.v),(6,.v),(7,.v),(8,.v),(9,.e),(10,.v)] none ?_ trivial rfl (by kernel_rfl) (by kernel_rfl) (by kernel_rfl) mixed (by kernel_rfl) rfl
  refine W06 ?_
  refine JT a7 z.Rules.length rfl rfl rfl rfl rfl (by rw [hrl]) (by rw [hrl]) (by omega) (by omega) (by first | trivial | rfl) fun rb=>?_
  rw [show (List.replicate z.Rules.length (List.map AV.sc _)).flatten=eV bN NC z.Rules 0 from je _ _ _]
  refine W06 ?_
  refine OO [3,4,5,11,12,13,18,19,28] KN ?_
  refine W0i ?_
  have hsl:=kG (c:=bC) (zs:=Mn) (sz:=3) (fun _=>rfl) rfl l hi
  refine nH (n:=3) (ys:=[aG z.Kind,cU z.Ignore,.sc (.slice (some ⟨rb,0,none⟩) z.Rules.length z.Rules.length)]) a7 1 (i * 3) rfl rfl (by omega) rfl rfl rfl rfl (by rw [hsl];omega) ?_
  refine W03 ?_
  have hcell:(eR (eV bC Mn l i) (i * 3) [aG z.Kind,cU z.Ignore,.sc (.slice (some ⟨rb,0,none⟩) z.Rules.length z.Rules.length)])[i * 3+2]?=some (.sc (.slice (some ⟨rb,0,none⟩) z.Rules.length z.Rules.length)):=by
   rw [fx _ _ _ _ (by rw [hsl];show _+3≤_;omega),if_pos ⟨by omega,by show _ < _+3;omega⟩,show i * 3+2 - i * 3=2 by omega]
   rfl
  refine aJ [3,4,11,12,13,31,32] (α:=Nat) (fun j=>[(33,aG j)]) (fun j=>j≤z.Rules.length) (fun j=>(rb,.box (eV bN NC z.Rules j) _)::[(b,.box (eR (eV bC Mn l i) (i * 3) [aG z.Kind,cU z.Ignore,.sc (.slice (some ⟨rb,0,none⟩) z.Rules.length z.Rules.length)]) _)]) (fun j=>z.Rules.length - j) 0 rfl ⟨rfl,trivial⟩ (Nat.zero_le _) (fun _ _ h=>h) fun j hj=>?_
  try dsimp only [Oq,Oo,Om,Oh]
  refine W01 ?_
  refine aw rfl (fun h=>?_) (fun h=>?_)
  ·have hjl:j < z.Rules.length:=by have:=Oy h;omega
   obtain ⟨r,hrr⟩:∃r,z.Rules[j]?=some r:=⟨_,Oz hjl⟩
   have hrg:=c7 (c:=bN) hrr
   have hsm:=hrs r (Ow hrr)
   haveI i1:=AD.mk (yG r.Back hsm.back.1 hsm.back.2)
   haveI i2:=AD.mk (yG r.In hsm.inn.1 hsm.inn.2)
   haveI i3:=AD.mk (yG r.Ahead hsm.ahead.1 hsm.ahead.2)
   haveI i4:=AD.mk (wM (aL r.Out) (fun q hq=>by obtain ⟨y,_,rfl⟩:=List.mem_map.1 hq;rfl) (by rw [aP];exact hsm.out))
   haveI i5:=AD.mk (Mf (r.Calls.map g9) (fun q hq=>by obtain ⟨y,_,rfl⟩:=List.mem_map.1 hq;rfl) (by rw [Ou];exact hsm.calls))
   clear h
   refine W0B ?_
   intros
   refine bk 24 [(0,.v),(1,.v),(2,.v),(3,.v),(4,.l),(5,.v),(6,.v),(7,.v),(8,.v),(9,.v),(10,.v),(11,.v),(12,.v),(13,.v),(14,.v),(15,.v),(16,.v),(17,.v),(18,.v),(19,.v),(20,.v),(21,.v),(22,.v),(23,.v)] none ?_ trivial rfl (by kernel_rfl) (by kernel_rfl) (by kernel_rfl) mixed (by kernel_rfl) rfl
   refine W06 ?_
   refine c5 a7 rfl rfl rfl ⟨by omega,by omega⟩ (by first | trivial | rfl) ?_
   refine W06 ?_
   refine eu a7 1 (i * 3+2) rfl rfl (by omega) rfl hcell (by first | trivial | rfl) ?_
   refine W0j ?_
   refine OO [3,4,11,12,13,31,32,33,42,43,61] KN ?_
   refine W0i ?_
   refine nH (n:=6) (ys:=bN r) a7 0 (j * 6) rfl rfl (by omega) rfl rfl rfl rfl (by rw [kG (sz:=6) (fun _=>rfl) rfl _ hj];omega) ?_
   rw [kH (sz:=6) (fun _=>rfl) rfl hrr]
   refine W02 ?_
   exact aD (j+1) rfl ⟨by rw [Ov];rfl,trivial⟩ hjl (by omega) (fun _ _ h=>h)
  ·have hjl:j=z.Rules.length:=by have:=Ox h;omega
   subst hjl
   clear h
   rw [kF]
   refine W02 ?_
   have hfl:((z.Rules.map bN).flatten).length=z.Rules.length * 6:=by rw [bY (sz:=6) (fun e he=>by obtain ⟨y,_,rfl⟩:=List.mem_map.1 he;rfl),hrl]
   refine b7 (p9 (k:=i * 3+2) (sz:=6) (l:=z.Rules.map bN) hcell (List.take_of_length_le (by omega)) hfl (fun q hq=>by obtain ⟨y,_,rfl⟩:=List.mem_map.1 hq;rfl) hrl (Nat.le_refl _) (by unfold maxLen;omega)) ?_
   rw [Fk (by rw [hsl];omega),show [aG z.Kind,cU z.Ignore,AV.imm 6 (z.Rules.map bN)]=bC z from rfl,kH (sz:=3) (fun _=>rfl) rfl hz]
   exact aD (i+1) rfl ⟨by rw [Ov];rfl,trivial⟩ hil (by omega) (fun _ _ h=>h)
 ·have hil:i=l.length:=by have:=Ox h;omega
  subst hil
  refine W01 ?_
  rw [kF]
  have hfl:((l.map bC).flatten).length=l.length * 3:=by rw [bY (sz:=3) (fun e he=>by obtain ⟨y,_,rfl⟩:=List.mem_map.1 he;rfl),hll]
  refine b7 (dl (t:=2) (sz:=3) (l:=l.map bC) 0 rfl rfl (List.take_of_length_le (by omega)) (by omega) (fun q hq=>by obtain ⟨y,_,rfl⟩:=List.mem_map.1 hq;rfl) hll (Nat.le_refl _) (by unfold maxLen;omega)) ?_
  exact OL NZ
end Go.Proofs.YtamjlkdanllgjaaGreatDoor
namespace Go.Proofs.YtamjlkdanllgjaaGreatDoor
open Go.RowKit
def ju (P:Program) (u:AV) (args:List AV) (L:AL) (Post:AV→AL→Prop):Prop:=(∃f caps,bK P f∧kW u=some (f,caps)∧AC P f (args++caps) L Post)∨∃f fs caps,bK P f∧u= .fnB f fs caps∧AC P f (fs++(args++caps)) L Post
theorem ju.fn {P:Program} {f:FuncId} {caps args:List AV} {L:AL} {Post:AV→AL→Prop} [h:bK P f] (k:AC P f (args++caps) L Post):ju P (.fn f caps) args L Post:= .inl ⟨f,caps,h,rfl,k⟩
theorem ju.fn0 {P:Program} {f:FuncId} {args:List AV} {L:AL} {Post:AV→AL→Prop} [h:bK P f] (k:AC P f (args++[]) L Post):ju P (.sc (.func (.func f) #[] #[])) args L Post:= .inl ⟨f,[],h,rfl,k⟩
theorem ju.fnB {P:Program} {f:FuncId} {fs caps args:List AV} {L:AL} {Post:AV→AL→Prop} [h:bK P f] (k:AC P f (fs++(args++caps)) L Post):ju P (.fnB f fs caps) args L Post:= .inr ⟨f,fs,caps,h,rfl,k⟩
def Nq (u:AV):Bool:=match u with
 | .fn _ _=>true
 | .fnB _ _ _=>true
 | .sc _=>true
 | _=>false
section
variable {P:Program} {r:Option Nat} {ops:Array Oper} {Q:Exit→Act→World→Prop} {nt:Nat} {D:List Deferred} {fr:bZ} {B:Bs} {L:AL} {rest:List Oper} {d:Nat} {ty t:TypeId} {pos:String} {af:Array Edge} {x y z:Operand} {u:AV} {g:Option (Nat×Bool)}
theorem Do (Lc Lf:AL) {d:Option Tmp} {f:FuncId} {args:Array Operand} {ts:Array TypeId} {cs fs caps:List AV} {Post:AV→AL→Prop} [hf:bK P f] (hx:bw fr x=some (.fnB f fs caps)) (hv:eB fr args.toList=some cs) (hL:L.Perm (Lc++Lf)) (h:AC P f (fs++(cs++caps)) Lc Post):
  AO P ⟨d,.call ⟨.value x,args,ts⟩,ty,pos,af,g⟩ fr B L (fun c L'=>∃L1,Post c L1∧L'=L1++Lf):=by
 intro σ ρ w hρ hw0
 have hw:=hw0.perm hL
 obtain ⟨qs,ws,hw1,hw0',hw2⟩:=(hρ x _ hx).fnB_inv
 have hvs:=fh hρ _ _ hv
 have e:args.map ρ=(args.toList.map ρ).toArray:=by apply Array.toList_inj.1;simp
 unfold i8
 rw [show (execOp ρ ⟨d,.call ⟨.value x,args,ts⟩,ty,pos,af,g⟩).run P w= .ok (.enter f (qs++(args.toList.map ρ++ws)).toArray) w by
  simp [execOp,resolve,hw1,Deferred.ofValue,invoke,hf.enters]]
 have happ:∀{ps bs:List AV} {us vs:List Value},d4 σ ps us→d4 σ bs vs→d4 σ (ps++bs) (us++vs):=by
  intro ps bs us vs ha hb
  refine ⟨by rw [List.length_append,List.length_append,ha.1,hb.1],fun i c u hc hu=>?_⟩
  have hq:=ha.1
  by_cases hi:i < ps.length
  ·rw [List.getElem?_append_left hi] at hc
   rw [List.getElem?_append_left (by omega)] at hu
   exact ha.2 i c u hc hu
  ·rw [List.getElem?_append_right (by omega)] at hc
   rw [List.getElem?_append_right (by omega),←hq] at hu
   exact hb.2 _ c u hc hu
 have hall:=happ hw0' (happ hvs hw2)
 refine (h σ w _ hall hw.enter).mono fun en w' ⟨v,τ,c,L',h1,h2,h3,h4⟩=>⟨v,h1,τ,c,L'++Lf,h3.grow,h2,hw.leave h3,L',h4,rfl⟩
theorem ix {args:Array Operand} {ts:Array TypeId} {cs:List AV} {Post:AV→AL→Prop} (Lc Lf:AL) (hc:ju P u cs Lc Post) (hx:bw fr x=some u) (hv:eB fr args.toList=some cs) (hL:L.Perm (Lc++Lf)) (hn:Oper.noDefer ⟨some d,.call ⟨.value x,args,ts⟩,ty,pos,af,none⟩=true) (hd:Nat.ble nt d=false) (h:∀c L1,Post c L1→bF P r ops Q nt D rest ((d,c)::fr) B (L1++Lf)):
  bF P r ops Q nt D (⟨some d,.call ⟨.value x,args,ts⟩,ty,pos,af,none⟩::rest) fr B L:=by
 rcases hc with ⟨f,caps,hf,hu,hc⟩ | ⟨f,fs,caps,hf,rfl,hc⟩
 ·exact cn hd hn (vy Lc Lf hx hu hv hL hc) fun c L' ⟨L1,h1,h2⟩=>by subst h2;exact h c L1 h1
 ·exact cn hd hn (Do Lc Lf hx hv hL hc) fun c L' ⟨L1,h1,h2⟩=>by subst h2;exact h c L1 h1
end
end Go.Proofs.YtamjlkdanllgjaaGreatDoor
namespace Go.Proofs.YtamjlkdanllgjaaGreatDoor
open Go.RowKit
section
variable {P:Program} {tt:TT} {r:Option Nat} {ops:Array Oper} {Q:Exit→Act→World→Prop} {nt:Nat} {D:List Deferred} {fr:bZ} {B:Bs} {L:AL} {rest:List Oper} {d:Nat} {ty t t':TypeId} {pos:String} {af:Array Edge} {x y z:Operand} {u:AV} {g:Option (Nat×Bool)}
theorem Dr {dd:Option Tmp} {e sz by_ s:Nat} {l:List (List AV)} (hc:m8 P t e sz by_) (hx:bw fr x=some u) (hu:u.im= .imm s l) (hy:bw fr y=some (.sc (.slice none 0 0))):
  AO P ⟨dd,.binOp .eql t x y t',ty,pos,af,g⟩ fr B L (fun c L'=>∃b,c= .sc (.bool b)∧(b=true→l=[])∧L'=L):=by
 intro σ ρ w hρ hw
 have hxv:=(hρ x u hx).im
 rw [hu] at hxv
 have hyv:=(hρ y _ hy).sc_inv
 have key:∀v,VR σ (.imm s l) v→∃A cap,v= .slice A l.length cap∧(l≠[]→∃b off,A=some ⟨b,off,none⟩):=by
  intro v hv
  cases hv with
  | imm sz l A cap h1 h2 h3 ha hx2 h4=>exact ⟨A,cap,rfl,ha⟩
 obtain ⟨A,cap,hval,ha⟩:=key _ hxv
 ·have hrun:=Lib.run_eql_slice_nil (P:=P) w t e A l.length cap 0 0 hc.under
  unfold i8
  rw [show (execOp ρ ⟨dd,.binOp .eql t x y t',ty,pos,af,g⟩).run P w= .ok (.value (.bool A.isNone)) w by
   simp [execOp,hval,hyv,eqGuard,hrun]]
  refine ⟨σ,.sc _,L,cm.le_refl σ,.sc _,hw,A.isNone,rfl,fun h=>?_,rfl⟩
  cases A with
  | none=>exact Decidable.byContradiction fun hn=>by obtain ⟨b,o,hh⟩:=ha hn;cases hh
  | some a=>cases h
theorem uG (ok:eh P tt) {e sz by_ s:Nat} {l:List (List AV)} (ht:jW tt t=some (e,sz,by_)) (hx:bw fr x=some u) (hu:gZ u=some (s,l)) (hy:bw fr y=some (.sc (.slice none 0 0))) (hd:Nat.ble nt d=false) (h:∀b,(b=true→l=[])→bF P r ops Q nt D rest ((d,.sc (.bool b))::fr) B L):
  bF P r ops Q nt D (⟨some d,.binOp .eql t x y t',ty,pos,af,none⟩::rest) fr B L:=
 cn hd rfl (Dr (bE ok ht).1 hx (cG hu) hy) fun c L' ⟨b,h1,h2,h3⟩=>by subst h1;subst h3;exact h b h2
end
section
variable {P:Program} {nt:Nat} {fr:bZ} {B:Bs} {L L':AL}
theorem fT (L':AL) {fn:Func} {Post:AV→AL→Prop} {cs:List AV} (hr:mi P fr L fn.results.toList cs) (hs:L'.Sublist L) (h:Post (qc cs) L'):AX P .ret (bodyPost P fn (it B Post)) nt [] fr B L:=by
 intro σ a w ha hw
 obtain ⟨v,h1,h2⟩:=jd ha hw hr
 exact ⟨ha.defers,v,h1,v,σ,qc cs,L',rfl,h2,hw.sublist hs,h⟩
end
end Go.Proofs.YtamjlkdanllgjaaGreatDoor
namespace Go.Proofs.YtamjlkdanllgjaaGreatDoor
open Go.RowKit
def qE (P:Program) (f:FuncId) (args:List AV) (L:AL) (u u':FrameMode) (L':AL):Prop:=∀σ w vs,d4 σ args vs→dg ⟨w,σ,L.map (·.1)⟩ σ L w→
 CallsDIn Fence.wide 0 P f vs.toArray u w fun e m w'=>∃τ v,e= .returned v∧m=u'∧dg ⟨w,σ,L.map (·.1)⟩ τ L' w'
def GU (f:FuncId) (vs:List Value):Deferred:={ target:= .fn (.func f) vs.toArray,args:=#[] }
def DQ (B:Bs) (L':AL):Exit→Act→World→Prop:=fun e a w=>(e= .normal∨e= .ret)∧a.defers=[]∧∃τ,dg B τ L' w
section
variable {P:Program} {r:Option Nat} {ops:Array Oper} {Q:Exit→Act→World→Prop} {nt:Nat} {D:List Deferred} {fr:bZ} {B:Bs} {L:AL} {rest:List Oper}
variable {d:Nat} {t ty:TypeId} {pos:String} {af:Array Edge} {x:Operand} {u:AV}
theorem JY {σ:cm} {f:FuncId} {vs:List Value} {v:Value} (h:VR σ (.fn f (vs.map .sc)) v):v= .func (.func f) #[] vs.toArray:=by
 generalize hc:AV.fn f (vs.map .sc)=c at h
 cases h with
 | fn f' cs ws hl h=>
  injection hc with h1 h2
  subst h1;subst h2
  have:ws=vs:=by
   apply List.ext_getElem?
   intro i
   have hl':vs.length=ws.length:=by simpa using hl
   by_cases hi:i < vs.length
   ·have h3:(vs.map AV.sc)[i]?=some (.sc vs[i]):=by simp [hi]
    have h4:ws[i]?=some (ws[i]'(by omega)):=Oz (by omega)
    have:=(h i _ _ h3 h4).sc_inv
    rw [h4,this,Oz hi]
   ·rw [List.getElem?_eq_none (by omega),List.getElem?_eq_none (by omega)]
  rw [this]
 | _=>cases hc
theorem A7 {f:FuncId} (vs:List Value) {ts:Array TypeId} (hx:bw fr x=some (.fn f (vs.map .sc))) (h:bF P none ops Q nt (GU f vs::D) rest fr B L):bF P none ops Q nt D (⟨none,.defer ⟨.value x,#[],ts⟩,ty,pos,af,none⟩::rest) fr B L:=by
 intro σ a w ha hw
 unfold wpListIn
 rw [if_pos (by simp [Region.wanted])]
 have hv:=JY (ha.eval hx)
 refine ⟨fun _ _=>trivial,?_⟩
 have hr:(Oper.semAt none a.eval ⟨none,.defer ⟨.value x,#[],ts⟩,ty,pos,af,none⟩).run P w= .ok (.defer (GU f vs)) w:=by
  rw [Oper.semAt_none]
  simp [execOp,resolve,hv,Deferred.ofValue,GU]
 rw [show (Wd none).round=none from rfl,hr]
 exact h σ _ w ⟨ha.size,by show GU f vs::a.defers=_;rw [ha.defers],ha.look⟩ hw
theorem HN {v:Value} (hx:bw fr x=some (.sc (.iface t v))) (h:AX P (.panic [{ v:= .iface t v,recovered:=false }]) Q nt D fr B L) {dd:Option Tmp}:bF P r ops Q nt D (⟨dd,.panic x,ty,pos,af,none⟩::rest) fr B L:=by
 intro σ a w ha hw
 unfold wpListIn
 rw [if_pos (by simp [Region.wanted])]
 have hv:=(ha.eval hx).sc_inv
 refine ⟨fun _ _=>trivial,?_⟩
 have hr:(Oper.semAt r a.eval ⟨dd,.panic x,ty,pos,af,none⟩).run P w= .halt (.panic (.iface t v)) w:=by
  rw [Oper.semAt_eq _ _ _ (by simp)]
  simp [execOp,hv,Instr.panic]
 rw [show (Wd r).round=r from rfl,hr]
 exact h σ a w ha hw
theorem sE {c:List PanicEntry} {y:Code} (h:AX P (.panic c) Q nt D fr B L):AX P (.panic c) (Kt P r y Q) nt D fr B L:=fun σ a w ha hw=>h σ a w ha hw
theorem xq {L':AL} (hs:L'.Sublist L):AX P .normal (DQ B L') nt [] fr B L:=fun σ _ _ ha hw=>⟨.inl rfl,ha.defers,σ,hw.sublist hs⟩
theorem xM {f:FuncId} {fn:Func} {rc:Code} {args:List AV} {L':AL} {m m':FrameMode} {v:Value} {d1 d2 id1:Nat} {ty1 ty2:TypeId} {p1 p2:String} {a1 a2:Array Edge} {ts:Array TypeId} (hf:P.funcs[f]?=some fn) (hb:fn.body=some (.seq (.region id1 #[⟨some d1,.call ⟨.builtin .recover,#[],ts⟩,ty1,p1,a1,none⟩,⟨some d2,.assign (.tmp d1),ty2,p2,a2,none⟩] false) rc)) (hn:fn.ntmps=nt) (hs:Nat.ble args.length nt=true) (hres:fn.results=#[]) (h1:Nat.ble nt d1=false) (h2:Nat.ble nt d2=false)
  (hrec:∀(c₀:Frame) (cs:List Frame),c₀.mode=m→(recoverD (c₀::cs)=some (v,{ c₀ with mode:=m' }::cs))∨(recoverD (c₀::cs)=none∧v= .nilIface∧m'=m))
  (h:∀B,AT P none rc (DQ B L') nt [] ((d2,.sc v)::(d1,.sc v)::mW 0 args) B L):qE P f args L m m' L':=by
 intro σ w vs hv hst
 have hs':args.length≤nt:=by simpa [Nat.ble_eq] using hs
 have hl:=hv.1
 refine callsDIn_of_wpSIn (F:=Fence.wide) hf hb trivial fun c₀ cs hu=>?_
 have ha0:j3 σ nt [] (mW 0 args) { tmps:=vs.toArray++Array.replicate (fn.ntmps - vs.toArray.size) undef,defers:=[] }:=by
  refine ⟨by simp [hn];omega,rfl,fun t v hlk=>?_⟩
  obtain ⟨_,h2⟩:=iE args 0 t v hlk
  simp only [Nat.sub_zero] at h2
  have hlt:t < vs.length:=by have:=(Ol h2).1;omega
  simp only [Array.getD_eq_getD_getElem?]
  rw [Array.getElem?_append_left (by simpa using hlt)]
  have:=hv.2 t v vs[t] h2 (Oz hlt)
  simpa [hlt] using this
 generalize ({ tmps:=vs.toArray++Array.replicate (fn.ntmps - vs.toArray.size) undef,defers:=[] }:Act)=a0 at ha0
 refine wpSIn_seq (wpSIn_region ?_)
 have e1:∀w:World,(execOp a0.eval ⟨some d1,.call ⟨.builtin .recover,#[],ts⟩,ty1,p1,a1,none⟩).run P w= .ok .recover w:=fun w=>by
  simp [execOp,resolve,invoke,builtin]
 have key:∀csx:List Frame,(∃c',csx={ c₀ with mode:=m' }::cs∧c'=c₀)→wpOpsSIn Fence.wide 0 P #[⟨some d1,.call ⟨.builtin .recover,#[],ts⟩,ty1,p1,a1,none⟩,⟨some d2,.assign (.tmp d1),ty2,p2,a2,none⟩] (Exit.thenS (rc.wpSIn Fence.wide 0 P (bodyPostS P fn c₀ cs fun e m w'=>∃τ v,e= .returned v∧m=m'∧dg ⟨w,σ,L.map (·.1)⟩ τ L' w')) (bodyPostS P fn c₀ cs fun e m w'=>∃τ v,e= .returned v∧m=m'∧dg ⟨w,σ,L.map (·.1)⟩ τ L' w')) [1] (a0.put (some d1) v) csx w:=by
  rintro csx ⟨_,rfl,-⟩
  have ha1:=ha0.put (iC h1) (VR.sc v)
  have e2:(execOp (a0.put (some d1) v).eval ⟨some d2,.assign (.tmp d1),ty2,p2,a2,none⟩).run P w= .ok (.value v) w:=by
   have:(a0.put (some d1) v).eval (.tmp d1)=v:=(ha1.eval (x:= .tmp d1) (c:= .sc v) (by simp [bw,ck])).sc_inv
   simp [execOp,this]
  rw [wpOpsSIn]
  simp only [List.getElem?_toArray,List.getElem?_cons_succ,List.getElem?_cons_zero]
  refine ⟨fun _ _=>trivial,?_⟩
  rw [if_pos (by simp [Region.wanted]),e2]
  refine wpSIn_of_wpIn rfl (wpIn_mono (h _ σ _ w (ha1.put (iC h2) (VR.sc v)) hst) ?_)
  rintro e a' w' ⟨he,hd,τ,hst'⟩
  rcases he with rfl | rfl
  ·exact ⟨hd,m',rfl,.tuple #[],results_none hres _ _ _,τ,_,rfl,rfl,hst'⟩
  ·exact ⟨hd,m',rfl,.tuple #[],results_none hres _ _ _,τ,_,rfl,rfl,hst'⟩
 have hr:List.range (#[(⟨some d1,.call ⟨.builtin .recover,#[],ts⟩,ty1,p1,a1,none⟩:Oper),⟨some d2,.assign (.tmp d1),ty2,p2,a2,none⟩]:Array Oper).size=[0,1]:=rfl
 rw [hr]
 rw [wpOpsSIn]
 simp only [List.getElem?_toArray,List.getElem?_cons_zero]
 refine ⟨fun _ _=>trivial,?_⟩
 rw [if_pos (by simp [Region.wanted]),e1]
 rcases hrec c₀ cs hu with h3 | ⟨h3,h4,h5⟩
 ·rw [h3]
  exact key _ ⟨c₀,rfl,rfl⟩
 ·rw [h3]
  subst h4
  exact key _ ⟨c₀,by subst h5;subst hu;rfl,rfl⟩
theorem wJ (c₀:Frame) (cs:List Frame) (h:c₀.mode= .returning):(recoverD (c₀::cs)=some (.nilIface,{ c₀ with mode:= .returning }::cs))∨(recoverD (c₀::cs)=none∧Value.nilIface= .nilIface∧FrameMode.returning= .returning):= .inr ⟨by simp [recoverD,h],rfl,rfl⟩
theorem Fn {v:Value} (c₀:Frame) (cs:List Frame) (h:c₀.mode= .panicking [{ v,recovered:=false }]):(recoverD (c₀::cs)=some (v,{ c₀ with mode:= .panicking [{ v,recovered:=true }] }::cs))∨(recoverD (c₀::cs)=none∧v= .nilIface∧FrameMode.panicking [{ v,recovered:=true }]= .panicking [{ v,recovered:=false }]):= .inl (by simp [recoverD,h])
theorem rE {f:FuncId} {vs:List Value} {fn:Func} {Post:AV→AL→Prop} {cs:List AV} {σ:cm} {a:Act} {w:World} {m m':FrameMode} (Lc Lf L' L0:AL) [hf:bK P f] (hm:m≠ .run) (hm':settle m'= .returning) (hC:qE P f (vs.map .sc) Lc m m' L') (hL:L.Perm (Lc++Lf)) (ha:j3 σ nt [GU f vs] fr a) (hw:dg B σ L w) (hr:mi P fr (L'++Lf) fn.results.toList cs) (hs:L0.Sublist (L'++Lf)) (h:Post (qc cs) L0):LeavesInM Fence.wide 0 P fn a.tmps (it B Post) [GU f vs] m w:=by
 have hw':=hw.perm hL
 refine ⟨hm,.inr ⟨fun hh=>by simp [Fence.wide] at hh,.func f,vs.toArray,f,vs.toArray,rfl,?_,fun _ _=>trivial,?_⟩⟩
 ·have:=hf.enters vs.toArray w
  simpa [GU,invoke] using this
 have hvs:d4 σ (vs.map .sc) vs:=⟨by simp,fun i c u hc hu=>by
  rw [List.getElem?_map,hu] at hc
  cases hc
  exact .sc _⟩
 obtain ⟨hF,hall⟩:=hC σ w vs hvs hw'.enter
 refine ⟨hF,fun c cs0 hu hroom=>?_⟩
 obtain ⟨e,u',w',fr',⟨τ,v,rfl,rfl,hst⟩,hrest⟩:=hall c cs0 hu hroom
 refine ⟨_,_,w',fr',?_,hrest⟩
 show LeavesInM Fence.wide 0 P fn a.tmps (it B Post) [] (settle u') w'
 rw [hm']
 have hst2:=hw'.leave hst
 have hle:σ.le τ:=hst.grow
 obtain ⟨v2,h1,h2⟩:=jd (ha.mono hle) hst2 hr
 exact ⟨v2,h1,v2,τ,qc cs,L0,rfl,h2,hst2.sublist hs,h⟩
theorem zn {f:FuncId} {vs:List Value} {fn:Func} {Post:AV→AL→Prop} {cs:List AV} (Lc Lf L' L0:AL) [bK P f] (hC:qE P f (vs.map .sc) Lc .returning .returning L') (hL:L.Perm (Lc++Lf)) (hr:mi P fr (L'++Lf) fn.results.toList cs) (hs:L0.Sublist (L'++Lf)) (h:Post (qc cs) L0):AX P .ret (bodyPostM Fence.wide 0 P fn (it B Post)) nt [GU f vs] fr B L:=fun σ a w ha hw=>by
 show LeavesInM _ _ _ _ _ _ a.defers _ _
 rw [ha.defers]
 exact rE Lc Lf L' L0 (by simp) rfl hC hL ha hw hr hs h
theorem B6 {f:FuncId} {vs:List Value} {fn:Func} {Post:AV→AL→Prop} {cs:List AV} {v:Value} (Lc Lf L' L0:AL) [bK P f] (hC:qE P f (vs.map .sc) Lc (.panicking [{ v,recovered:=false }]) (.panicking [{ v,recovered:=true }]) L') (hL:L.Perm (Lc++Lf)) (hr:mi P fr (L'++Lf) fn.results.toList cs) (hs:L0.Sublist (L'++Lf)) (h:Post (qc cs) L0):AX P (.panic [{ v,recovered:=false }]) (bodyPostM Fence.wide 0 P fn (it B Post)) nt [GU f vs] fr B L:=fun σ a w ha hw=>by
 show LeavesInM _ _ _ _ _ _ a.defers _ _
 rw [ha.defers]
 exact rE Lc Lf L' L0 (by simp) rfl hC hL ha hw hr hs h
end
section
variable {P:Program} {r:Option Nat} {ops:Array Oper} {Q:Exit→Act→World→Prop} {nt:Nat} {D:List Deferred} {fr:bZ} {B:Bs} {L:AL} {rest:List Oper}
variable {d:Nat} {t t' ty:TypeId} {pos:String} {af:Array Edge} {x:Operand} {u:AV}
theorem yo (b:Bool) {v:Value} (ht:∃ms,P.underlying t=some (.interface ms)) (hx:bw fr x=some (.sc v)) (hv:(v= .nilIface∧b=false)∨(∃q w,v= .iface q w)∧b=true) (hd:Nat.ble nt d=false) (h:bF P r ops Q nt D rest ((d,.sc (.bool b))::fr) B L):bF P r ops Q nt D (⟨some d,.binOp .neq t x (.const .nilIface) t',ty,pos,af,none⟩::rest) fr B L:=by
 obtain ⟨ms,ht⟩:=ht
 refine cz (u:= .sc (.bool b)) (fun σ ρ w hρ _=>?_) hd rfl h
 refine ⟨.bool b,?_,.sc _⟩
 have hy:=(hρ (.const .nilIface) _ rfl).sc_inv
 have hxv:=(hρ x _ hx).sc_inv
 have he:(Op.equal t v .nilIface).run P w= .ok (!b) w:=by
  unfold Op.equal Op.maxDepth
  rcases hv with ⟨rfl,rfl⟩ | ⟨⟨q,z,rfl⟩,rfl⟩
  ·rw [show (10000:Nat)=9999+1 from rfl,Op.equalIn]
   simp [run_underlying ht]
  ·rw [show (10000:Nat)=9999+1 from rfl,Op.equalIn]
   simp [run_underlying ht]
 rcases hv with ⟨rfl,rfl⟩ | ⟨⟨q,z,rfl⟩,rfl⟩
 ·simp [execOp,hxv,hy,eqGuard,binOp,he]
 ·simp [execOp,hxv,hy,eqGuard,binOp,he]
theorem C5 {v:Value} (ht:hY P t=true) (hx:bw fr x=some (.sc (.iface t v))) (hd:Nat.ble nt d=false) (h:bF P r ops Q nt D rest ((d,.tup [.sc v,.sc (.bool true)])::fr) B L):bF P r ops Q nt D (⟨some d,.typeAssert x t' t true,ty,pos,af,none⟩::rest) fr B L:=by
 refine cz (u:= .tup [.sc v,.sc (.bool true)]) (fun σ ρ w hρ _=>?_) hd rfl h
 obtain ⟨dd,hu,hd'⟩:=jm ht
 refine ⟨.tuple #[v,.bool true],?_,.tup _ _ rfl (d4.cons (.sc _) (d4.cons (.sc _) d4.nil)).2⟩
 have hxv:=(hρ x _ hx).sc_inv
 have:(Instr.typeAssert (.iface t v) t' t true).run P w= .ok (.tuple #[v,.bool true]) w:=by
  simp only [Instr.typeAssert,Sem.run_bind,run_underlying hu,Result.andThen]
  cases dd <;> first | (exfalso;exact hd' _ rfl) | simp
 simp [execOp,hxv,this]
end
end Go.Proofs.YtamjlkdanllgjaaGreatDoor
namespace Go.Proofs.YtamjlkdanllgjaaGreatDoor
open Go.RowKit
section
variable {P:Program} {tt:TT} {r:Option Nat} {ops:Array Oper} {Q:Exit→Act→World→Prop} {nt:Nat} {D:List Deferred} {fr:bZ} {B:Bs} {L:AL} {rest:List Oper}
variable {d:Nat} {ty t:TypeId} {pos:String} {af:Array Edge} {x y:Operand} {u:AV}
theorem rL {kd:TypeDesc} {σ:cm} {o:Obj} (h:jv kd (fun _=>none) σ o):∃clock,o= .map #[] clock:=by
 obtain ⟨es,clock,rfl,h1,_,_⟩:=h
 refine ⟨clock,?_⟩
 congr 1
 cases hc:es.toList with
 | nil=>exact Array.toList_inj.1 hc
 | cons e _=>
  obtain ⟨_,c,hc',_⟩:=h1 e (by rw [hc];exact List.mem_cons_self ..)
  cases hc'
def LF (b:Nat):AB:= .raw fun o=>∃c,o= .mapIter (some b) c #[] c
theorem EV (i:Nat) {b kt et:Nat} {kd:TypeDesc} (ht:P.underlying t=some (.map kt et)) (hx:bw fr x=some (.sc (.map (some b)))) (hL:L[i]?=some (b,ci kd fun _=>none)) (hd:Nat.ble nt d=false) (h:∀q,bF P r ops Q nt D rest ((d,.sc (.pointer (some ⟨q,0,none⟩)))::fr) B ((q,LF b)::L)):
  bF P r ops Q nt D (⟨some d,.range t x,ty,pos,af,none⟩::rest) fr B L:=by
 refine cn (R:=fun c L'=>∃q,c= .sc (.pointer (some ⟨q,0,none⟩))∧L'=(q,LF b)::L) hd rfl (fun σ ρ w hρ hw=>?_) fun c L' ⟨q,h1,h2⟩=>by subst h1;subst h2;exact h q
 obtain ⟨o,ho,hM⟩:=hw.here _ (Ow hL)
 obtain ⟨clock,rfl⟩:=rL hM
 have hr:(execOp ρ ⟨some d,.range t x,ty,pos,af,none⟩).run P w= .ok (.value (.pointer (some ⟨w.heap.size,0,none⟩))) (w.alloc (.mapIter (some b) clock #[] clock)):=by
  have hg:(getObj b).run P w= .ok (.map #[] clock) w:=(by simp [getObj,Sem.run,show w.heap[b]?=_ from ho])
  simp [execOp,Instr.range,(hρ x _ hx).sc_inv,run_underlying ht,hg]
 unfold i8
 rw [hr]
 exact ⟨σ,_,_,cm.le_refl _,.sc _,hw.alloc _ (LF b) ⟨clock,rfl⟩,_,rfl,rfl⟩
theorem HM (i j:Nat) {b q:Nat} {kd:TypeDesc} (hx:bw fr x=some (.sc (.pointer (some ⟨q,0,none⟩)))) (hL:L[i]?=some (q,LF b)) (hM:L[j]?=some (b,ci kd fun _=>none)) (hd:Nat.ble nt d=false) (h:bF P r ops Q nt D rest ((d,.tup [.sc (.bool false)])::fr) B L):
  bF P r ops Q nt D (⟨some d,.next x false,ty,pos,af,none⟩::rest) fr B L:=by
 refine cn (R:=fun c L'=>c= .tup [.sc (.bool false)]∧L'=L) hd rfl (fun σ ρ w hρ hw=>?_) fun c L' ⟨h1,h2⟩=>by subst h1;subst h2;exact h
 obtain ⟨o,ho,c,rfl⟩:=hw.here _ (Ow hL)
 obtain ⟨o2,ho2,hM2⟩:=hw.here _ (Ow hM)
 obtain ⟨clock,rfl⟩:=rL hM2
 have hr:(execOp ρ ⟨some d,.next x false,ty,pos,af,none⟩).run P w= .ok (.value (.tuple #[.bool false])) w:=by
  have hg:(getObj q).run P w= .ok (.mapIter (some b) c #[] c) w:=(by simp [getObj,Sem.run,show w.heap[q]?=_ from ho])
  have hg2:(getObj b).run P w= .ok (.map #[] clock) w:=(by simp [getObj,Sem.run,show w.heap[b]?=_ from ho2])
  simp [execOp,Instr.next,(hρ x _ hx).sc_inv,hg,hg2,Question.forced]
 unfold i8
 rw [hr]
 exact ⟨σ,_,_,cm.le_refl _,.tup _ _ rfl (d4.cons (.sc _) d4.nil).2,hw,rfl,rfl⟩
end
end Go.Proofs.YtamjlkdanllgjaaGreatDoor
namespace Go.Proofs.YtamjlkdanllgjaaGreatDoor
structure MS where
 a:Nat
 lo:Fin 3
abbrev DM (α:Type):=MS→α×MS
section
variable {α β:Type}
def cK (x:α):DM α:=fun m=>(x,m)
def c8 (g:DM α) (k:α→DM β):DM β:=fun m=>k (g m).1 (g m).2
def i7 (g:Nat→β→DM β) (b:β):Nat→DM β
 | 0=>cK b
 | k+1=>c8 (i7 g b k) (g k)
end
def uh (s:List Int) (a:Nat) (n:Int):Int:=match s[a]? with
 | some x=>x % n
 | none=>0
def dr (s:List Int) (n:Int):DM Int:=fun m=>(uh s m.a n,{ m with a:=m.a+1 })
def LJ:DM Unit:=fun m=>((),{ m with lo:=⟨m.lo.val - 1,Nat.lt_of_le_of_lt (Nat.sub_le ..) m.lo.isLt⟩ })
def hQ (z:Fin 3):DM Unit:=fun m=>((),{ m with lo:=z })
def rF:DM Int:=fun m=>((m.lo.val:Int),m)
section
variable (s:List Int)
def J2 (p:Nat):DM eM:=c8 (dr s 21) fun x=>c8 (dr s 21) fun y=>if p=0 then cK ⟨x * 50 - 100,y * 50 - 200,true⟩ else c8 (dr s 4) fun z=>cK ⟨x * 50 - 100,y * 50 - 200,decide (0 < z)⟩
def oW (l:List eM) (k:Nat):DM (List eM):=i7 (fun p l=>c8 (J2 s p) fun t=>cK (l++[t])) l k
def iq (n:Nat):DM (List eM×List Int):=i7 (fun _ o=>c8 (dr s 4) fun k=>c8 (oW s o.1 (2+k).toNat) fun l=>cK (l,o.2++[(l.length:Int) - 1])) ([],[]) n
def jN:DM (List eM×List Int):=c8 (dr s 3) fun n=>iq s n.toNat
def gT (q:Int):DM (List eW):=cK [⟨39,0⟩,⟨1,16⟩,⟨17,0⟩,⟨36,2⟩,⟨1,q⟩,⟨2,0⟩]
def cP (n funcs:Int):DM (List eW):=c8 (dr s (n+1)) fun p=>c8 (dr s (n+1)) fun q=>c8 (dr s 2) fun a=>c8 (dr s 12) fun k=>
 if k=0 then cK [⟨22,a⟩,⟨23,a⟩]
 else if k=1 then c8 (dr s 6) fun z=>cK [⟨24,z⟩]
 else if k=2∨k=3 then cK [⟨1,p⟩,⟨1,p⟩,⟨29,0⟩,⟨15,0⟩,⟨32,0⟩]
 else if k=4 then c8 (dr s 200) fun z=>cK [⟨1,p⟩,⟨1,z - 100⟩,⟨31,0⟩]
 else if k=5 then cK [⟨1,p⟩,⟨1,q⟩,⟨33,0⟩]
 else if k=6 then cK [⟨34,a⟩]
 else if k=7 then cK [⟨1,a⟩,⟨1,q⟩,⟨25,0⟩,⟨1,3⟩,⟨5,0⟩,⟨26,0⟩]
 else if k=8 then (if 0 < funcs then c8 (dr s funcs) fun z=>cK [⟨37,z⟩] else gT q)
 else if k=9 then (if 0 < funcs then c8 rF fun lo=>if 0 < lo then c8 LJ fun _=>c8 (dr s 5) fun y=>c8 (dr s funcs) fun z=>cK [⟨1,y⟩,⟨38,z⟩] else gT q else gT q)
 else if k=10 then cK [⟨1,p⟩,⟨30,0⟩,⟨1,q⟩,⟨29,0⟩,⟨16,0⟩,⟨36,3⟩,⟨1,q⟩,⟨1,64⟩,⟨31,0⟩]
 else gT q
def fI (n funcs:Int) (k:Nat):DM (List eW):=i7 (fun _ l=>c8 (cP s n funcs) fun p=>cK (l++p)) [] k
def nw (n funcs most:Int):DM (List eW):=c8 (dr s most) fun k=>fI s n funcs k.toNat
def fv (a:Int) (k:Nat):DM (List Int):=i7 (fun j l=>if l.length < 4 then c8 (dr s 3) fun z=>cK (if z=0 then l++[a+1+j] else l) else cK l) [a] k
def nY (n:Int):DM (List Int):=c8 (dr s n) fun a=>fv s a (n - (a+1)).toNat
def ir (n:Int) (k:Nat):DM (List (List Int)):=i7 (fun _ l=>c8 (nY s n) fun x=>cK (l++[x])) [] k
def qf (n most:Int):DM (List (List Int)):=c8 (dr s (most+1)) fun k=>ir s n k.toNat
def gh (n:Int) (k:Nat):DM (List Int):=i7 (fun _ l=>c8 (dr s n) fun x=>cK (l++[x])) [] k
def fi (n:Int) (calls:List Int) (k:Nat):DM (List jt):=i7 (fun _ l=>c8 (dr s n) fun a=>c8 (dr s calls.length) fun z=>cK (l++[⟨a,calls.getD z.toNat 0⟩])) [] k
def J0 (n:Int) (a:List Int):DM bJ:=c8 (nY s n) fun b=>c8 (dr s 41) fun x=>cK ⟨[],[a,b],[],[],[],x * 10 - 200⟩
def jo (n:Int):DM (List (List Int)×List (List Int)):=c8 (dr s 2) fun z=>if z=0 then c8 (qf s n 2) fun b=>c8 (qf s n 2) fun c=>cK (b,c) else cK ([],[])
def gI (n kind:Int) (calls:List Int):DM bJ:=c8 (nY s n) fun a=>if kind=6 then J0 s n a else c8 (jo s n) fun e=>
 if kind=1∨kind=5 then c8 (gh s n a.length) fun o=>cK ⟨e.1,[a],e.2,o,[],0⟩
 else if kind=2 then c8 (dr s 4) fun k=>c8 (gh s n k.toNat) fun o=>cK ⟨e.1,[a],e.2,o,[],0⟩
 else if kind=3 then c8 (qf s n 2) fun m=>c8 (dr s n) fun o=>cK ⟨e.1,a::m,e.2,[o],[],0⟩
 else c8 (qf s n 2) fun m=>c8 (dr s 3) fun k=>c8 (fi s (a::m).length calls (if calls.length=0 then 0 else k.toNat)) fun c=>cK ⟨e.1,a::m,e.2,[],c,0⟩
def fM:List Int:=[1,2,3,4,4,5,6,7,8,1]
def eD (k:Nat):DM (List bf×List Int):=i7 (fun i o=>c8 (dr s 10) fun z=>c8 (dr s 3) fun y=>cK (o.1++[⟨fM.getD z.toNat 0,decide (y=0),[]⟩],if fM.getD z.toNat 0≤4 then o.2++[(i:Int)] else o.2)) ([],[]) k
def f6 (n kind:Int) (calls:List Int) (k:Nat):DM (List bJ):=i7 (fun _ l=>c8 (gI s n kind calls) fun r=>cK (l++[r])) [] k
def fk (n:Int) (calls:List Int) (l:List bf) (k:Nat):DM (List bf):=i7 (fun i l=>match l[i]? with
 | none=>cK l
 | some q=>if q.Kind≥7 then cK l else c8 (dr s 3) fun k=>c8 (f6 s n q.Kind calls (1+k).toNat) fun rs=>cK (l.set i { q with Rules:=rs })) l k
def iT (n:Int):DM (List bf):=c8 (dr s 7) fun k=>c8 (eD s k.toNat) fun o=>fk s n o.2 o.1 k.toNat
def bytes (l:List UInt8):ByteArray:=⟨l.toArray⟩
def mE (p:List UInt8) (n:Nat):ByteArray:=bytes (p++[(97+n).toUInt8])
def Nn:List UInt8:=[103]
def Dz:List UInt8:=[97,120]
def F4:ByteArray:=bytes [46,110,111,116,100,101,102]
def d7 (n:Nat):ByteArray:=if n=0 then F4 else mE Nn n
def iX (n:Nat):DM (List dW):=if 1 < n then c8 (dr s 4) fun z=>if z=0 then c8 (dr s 9) fun x=>c8 (dr s 5) fun y=>cK [⟨1,x * 50 - 200,y * 50⟩] else cK [] else cK []
def ij (cl:Int):List (Int×Int):=[(1,0),(1,1),(3,0),(4,0),(2,cl)]
def eX (mark:Bool) (cl:Int) (k:Nat):DM (List dN):=i7 (fun i l=>c8 (dr s 3) fun z=>if z=0∧(((ij cl).getD i (0,0)).1≠2∨mark=true) then c8 (dr s 21) fun x=>c8 (dr s 21) fun y=>cK (l++[⟨((ij cl).getD i (0,0)).1,((ij cl).getD i (0,0)).2,x * 50,y * 50 - 200⟩]) else cK l) [] k
def ib (r:Nat) (l:List dT) (k:Nat):DM (List dT):=i7 (fun p l=>c8 (dr s 3) fun z=>if z=0 then c8 (dr s 41) fun x=>if p=0 then cK (l++[⟨r,-1,x - 20,0⟩]) else c8 (dr s 41) fun y=>cK (l++[⟨r,(p:Int) - 1,x - 20,y - 20⟩]) else cK l) l k
def gj (pts:Nat) (R:Nat):DM (List dT):=i7 (fun r l=>ib s r l (pts+1)) [] R
def ku (R fn n:Nat):DM bn:=c8 (dr s 19) fun ad=>c8 (dr s 4) fun mk=>c8 (jN s) fun o=>c8 (iX s n) fun ps=>c8 (dr s 2) fun cl=>c8 (eX s (decide (mk=0) && decide (n≠0)) cl 5) fun an=>c8 (gj s o.1.length R) fun de=>c8 (hQ 2) fun _=>c8 (nw s o.1.length fn 6) fun h=>cK ⟨d7 n,100+ad * 50,decide (mk=0) && decide (n≠0),o.1,o.2,ps,an,de,h⟩
def gp (R fn k:Nat):DM (List bn):=i7 (fun i l=>c8 (ku s R fn i) fun g=>cK (l++[g])) [] k
def l9 (k:Nat):DM (List eI):=i7 (fun i l=>c8 (dr s 3) fun a=>c8 (dr s 4) fun b=>cK (l++[⟨mE Dz i,0 - a * 100,0,b * 100⟩])) [] k
def kJ:List f9:=[⟨0,64,64⟩,⟨0,32,64⟩,⟨-64,-64,0⟩,⟨-1,0,5⟩,⟨10,32,50⟩]
def ii (k:Nat):DM (List f9):=i7 (fun _ l=>c8 (dr s 5) fun z=>cK (l++[kJ.getD z.toNat ⟨0,0,0⟩])) [] k
def kT (axes k:Nat):DM (List (List f9)):=i7 (fun _ l=>c8 (ii s axes) fun r=>cK (l++[r])) [] k
def fP (axes:Nat):DM (List (List f9)):=if axes=0 then cK [] else c8 (dr s 4) fun n=>kT s axes n.toNat
def iQ (k:Nat):DM (List (List eW)):=i7 (fun i l=>c8 (hQ 0) fun _=>c8 (nw s 6 i 4) fun h=>cK (l++[h])) [] k
def rh (k:Nat):DM (List Int):=i7 (fun _ l=>c8 (dr s 500) fun z=>cK (l++[z - 100])) [] k
def fB:List Int:=[97,98,99,102,105,108,57345,57346,57601,57602,57603,57857,57861,58113,58114,58369]
def ia (n:Int) (k:Nat):DM (List dt):=i7 (fun i l=>c8 (dr s 4) fun z=>if 0 < z then c8 (dr s n) fun g=>cK (l++[⟨fB.getD i 0,g⟩]) else cK l) [] k
def gR:List ByteArray:=[bytes [108,105,103,97],bytes [105,115,111,108],bytes [105,110,105,116],bytes [109,101,100,105],bytes [102,105,110,97],bytes [107,101,114,110],bytes [109,97,114,107],bytes [99,97,108,116]]
def ou (k:Nat):DM (List Int):=i7 (fun i l=>c8 (dr s 3) fun z=>cK (if z=0 then l++[(i:Int)] else l)) [] k
def ic (n:Nat) (k:Nat):DM (List bz):=i7 (fun i l=>c8 (ou s n) fun r=>c8 (dr s 2) fun z=>cK (if z=0 then l++[⟨gR.getD i ByteArray.empty,r⟩] else l)) [] k
def mS:List Int:=[1000,1024,100,2048]
def EG:DM aY:=c8 (dr s 4) fun u=>c8 (dr s 3) fun k=>c8 (l9 s k.toNat) fun ax=>c8 (fP s k.toNat) fun rg=>c8 (dr s 3) fun k2=>c8 (iQ s k2.toNat) fun fu=>c8 (dr s 4) fun k3=>c8 (rh s k3.toNat) fun cv=>c8 (dr s 9) fun k4=>c8 (gp s rg.length fu.length (2+k4).toNat) fun gl=>c8 (ia s gl.length 16) fun ch=>c8 (iT s gl.length) fun lk=>c8 (ic s lk.length 8) fun ft=>cK ⟨mS.getD u.toNat 0,gl,ch,lk,ft,ax,rg,fu,cv⟩
def pJ:aY:=(EG s ⟨0,0⟩).1
def tU:List Int:=fB++[122]
def jU:List Int:=(s.take 20).map fun z=>tU.getD (z % 17).toNat 0
end
end Go.Proofs.YtamjlkdanllgjaaGreatDoor
namespace Go.Proofs.YtamjlkdanllgjaaGreatDoor
open Go.RowKit
attribute [local irreducible] AT bF AX AO Av Kt b8 d9 DA cu
set_option maxRecDepth 8000
def gq (l:List ByteArray) (s:ByteArray):Bool:=l.any fun t=>decide (t=s)
theorem w3 {l:List ByteArray} {s:ByteArray}:gq l s=true↔s∈l:=by
 unfold gq
 rw [List.any_eq_true]
 constructor
 ·rintro ⟨t,h1,h2⟩;rw [←Oy h2];exact h1
 ·intro h;exact ⟨s,h,decide_eq_true rfl⟩
def IH (f:aY) (n:Int):Bool:=match f.Lookups[n.toNat]? with
 | some l=>decide (0≤n∧(l.Kind=1∨l.Kind=2∨l.Kind=3∨l.Kind=4))
 | none=>false
set_option maxRecDepth 8000
def wQ (l:List (List Int)):Nat:=(l.map fun q=>1+q.length).sum
def FB (r:bJ):Nat:=r.Out.length+r.Calls.length+(wQ r.Back+wQ r.In+wQ r.Ahead)
def yK (l:List bJ):Nat:=l.length+(l.map FB).sum
def y5 (g:bn):Nat:=g.Points.length+g.Parts.length+g.Anchors.length+g.Deltas.length+g.Hint.length+g.Name.size / 100
def featN (t:bz):Nat:=t.Lookups.length+t.Name.size / 100
def tj (f:aY):Nat:=f.Glyphs.length+f.Chars.length+f.Lookups.length+f.Features.length+f.Axes.length+f.Regions.length+f.Funcs.length+f.Cvt.length+(f.Glyphs.map y5).sum+(f.Lookups.map fun l=>yK l.Rules).sum+(f.Funcs.map (·.length)).sum+(f.Features.map featN).sum+(f.Regions.map (·.length)).sum
def ph (f:aY):Prop:=tj f≤2000
theorem KF {α:Type} {g k:α→Nat} {l:List α} (h:∀a∈l,g a≤k a):(l.map g).sum≤(l.map k).sum:=by
 induction l with
 | nil=>simp
 | cons b l ih=>
  rw [Om,List.sum_cons,Om,List.sum_cons]
  have:=ih fun a ha=>h a (Ot _ ha)
  have:=h b (List.mem_cons_self ..)
  omega
section
variable {f:aY} (hs:ph f)
include hs
theorem ph.chars:f.Chars.length≤2000:=by unfold ph tj at hs;omega
theorem ph.features:f.Features.length≤2000:=by unfold ph tj at hs;omega
theorem ph.feats:(f.Features.map (·.Lookups.length)).sum≤2000:=by
 have:=KF (l:=f.Features) (g:=fun t=>t.Lookups.length) (k:=featN) fun a _=>by unfold featN;omega
 unfold ph tj at hs
 omega
end
inductive vm (f:aY) (fs:List ByteArray):Int→Prop
 | base {t:bz} {n:Int} (h:t∈f.Features) (hn:gq fs t.Name=true) (hm:n∈t.Lookups) (h0:0≤n) (h1:n < f.Lookups.length):vm f fs n
 | call {m:Int} {l:bf} {r:bJ} {c:jt} (h:vm f fs m) (hl:f.Lookups[m.toNat]?=some l) (hk:l.Kind=4) (hr:r∈l.Rules) (hc:c∈r.Calls) (hn:IH f c.Lookup=true):vm f fs c.Lookup
open Classical in
noncomputable def N9 (f:aY) (fs:List ByteArray):List Int:=((List.range f.Lookups.length).map Int.ofNat).filter fun z=>decide (vm f fs z)
theorem fO {l:List Int} {n:Nat} (h:l.Nodup) (hi:∀z∈l,0≤z∧z < n):l.length≤n:=by
 induction n generalizing l with
 | zero=>
  cases l with
  | nil=>exact Nat.zero_le _
  | cons a l=>have:=hi a (List.mem_cons_self ..);omega
 | succ n ih=>
  by_cases hm:(n:Int)∈l
  ·have h1:=ih (l:=l.erase n) (h.erase _) fun z hz=>by
    have:=(h.mem_erase_iff).1 hz
    have:=hi z this.2
    omega
   rw [List.length_erase_of_mem hm] at h1
   omega
  ·have:=ih h fun z hz=>by
    have:=hi z hz
    have:z≠n:=fun e=>hm (e▸hz)
    omega
   omega
end Go.Proofs.YtamjlkdanllgjaaGreatDoor
namespace Go.Proofs.YtamjlkdanllgjaaGreatDoor
open Go.RowKit
attribute [local irreducible] AT bF AX AO Av Kt b8 d9 DA cu
set_option maxRecDepth 8000
def ML (fs:List ByteArray) (l:List bz):List Int:=(l.map fun t=>if gq fs t.Name then t.Lookups else []).flatten
def CallsIn (f:aY) (l:List Int) (cs:List jt):Prop:=∀c∈cs,IH f c.Lookup=true→c.Lookup∈l
def Gg (f:aY) (l:List Int) (rs:List bJ):Prop:=∀r∈rs,CallsIn f l r.Calls
structure Nd (f:aY) (fs:List ByteArray) (l:List Int) (i:Nat):Prop where
 reach:∀z∈l,vm f fs z
 nodup:l.Nodup
 base:∀z∈ML fs f.Features,0≤z→z < f.Lookups.length→z∈l
 done:∀j < i,∀z,l[j]?=some z→∀x,f.Lookups[z.toNat]?=some x→x.Kind=4→Gg f l x.Rules
set_option maxRecDepth 8000
def Nm (l:List Int) (n:Nat):List AV:=(List.range n).map fun (i:Nat)=>cU (l.contains (i:Int))
def JL (n:Nat) (l:List Int) (z:Int):List Int:=if 0≤z∧z < n∧z∉l then l++[z] else l
def NG (n:Nat) (l ns:List Int):List Int:=ns.foldl (JL n) l
structure Nh (n:Nat) (l:List Int):Prop where
 nodup:l.Nodup
 dom:∀z∈l,0≤z∧z < n
abbrev Gf (p:Nat):AV:= .sc (.pointer (some ⟨p,0,none⟩))
end Go.Proofs.YtamjlkdanllgjaaGreatDoor
