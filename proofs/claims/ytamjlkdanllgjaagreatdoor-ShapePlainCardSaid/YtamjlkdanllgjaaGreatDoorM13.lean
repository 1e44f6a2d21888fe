/-
  The program's instances: features, lookups.
-/
import Derived.Test.YtamjlkdanllgjaaGreatDoorM12
import Derived.Test.YtamjlkdanllgjaaGreatDoorM11
import Derived.Test.YtamjlkdanllgjaaGreatDoorM06
import Derived.WalkSpells
import Derived.RecoverIn
import Derived.WalkLawsBesides
import Derived.Laws.NewFold
import Derived.Test.YtamjlkdanllgjaaGreatDoorM05
import Derived.Test.YtamjlkdanllgjaaGreatDoorM09
namespace Go.Proofs.YtamjlkdanllgjaaGreatDoor
open Go.RowKit
attribute [local irreducible] AT bB AX AO Av Kt ba dt DA cz
set_option maxRecDepth 8000
theorem Dk {a z c ys:List AV} (h:z.length=ys.length):eN (a++(z++c)) a.length ys=a++(ys++c):=by
 apply List.ext_getElem?
 intro j
 rw [fp _ _ _ _ (by rw [List.length_append,List.length_append];omega)]
 by_cases h1:a.length≤j∧j < a.length+ys.length
 ·rw [if_pos h1,List.getElem?_append_right h1.1,List.getElem?_append_left (by omega)]
 ·rw [if_neg h1]
  by_cases h2:j < a.length
  ·rw [List.getElem?_append_left h2,List.getElem?_append_left h2]
  ·rw [List.getElem?_append_right (by omega),List.getElem?_append_right (by omega),List.getElem?_append_right (by omega),List.getElem?_append_right (by omega),h]
def eQ {β:Type} (c:β→List AV) (zs:List AV) (l:List β) (i:Nat):List AV:=((l.take i).map c).flatten++(List.replicate (l.length - i) zs).flatten
theorem k9 {β:Type} {c:β→List AV} {zs:List AV} {sz:Nat} (hc:∀b,(c b).length=sz) (hz:zs.length=sz) (l:List β) {i:Nat} (hi:i≤l.length):(eQ c zs l i).length=l.length * sz:=by
 unfold eQ
 rw [List.length_append,bR (sz:=sz) (fun e he=>by obtain ⟨y,_,rfl⟩:=List.mem_map.1 he;exact hc y),bR (sz:=sz) (fun e he=>by rw [List.eq_of_mem_replicate he,hz]),Lr,List.length_take,List.length_replicate,←Nat.add_mul]
 congr 1
 omega
theorem ka {β:Type} {c:β→List AV} {zs:List AV} {sz:Nat} (hc:∀b,(c b).length=sz) (hz:zs.length=sz) {l:List β} {i:Nat} {z:β} (h:l[i]?=some z):eN (eQ c zs l i) (i * sz) (c z)=eQ c zs l (i+1):=by
 have hi:=(Lm h).1
 have hl:(((l.take i).map c).flatten).length=i * sz:=by
  rw [bR (sz:=sz) (fun e he=>by obtain ⟨y,_,rfl⟩:=List.mem_map.1 he;exact hc y),Lr,List.length_take,Nat.min_eq_left (by omega)]
 unfold eQ
 rw [show l.length - i=(l.length - (i+1))+1 by omega,List.replicate_succ,List.flatten_cons,←hl,Dk (by rw [hz,hc]),List.take_add_one,h,List.map_append,List.flatten_append,List.append_assoc]
 simp
theorem iV {β:Type} (c:β→List AV) (zs:List AV) (l:List β):(List.replicate l.length zs).flatten=eQ c zs l 0:=by
 unfold eQ
 simp
theorem k8 {β:Type} (c:β→List AV) (zs:List AV) (l:List β):eQ c zs l l.length=(l.map c).flatten:=by
 unfold eQ
 simp
theorem mT {P:Program} {tt:TT} {r:Option Nat} {ops:Array Oper} {Q:Exit→Act→World→Prop} {nt:Nat} {D:List Deferred} {fr:bY} {B:Bs} {L:AL} {rest:List Oper} {ty t:TypeId} {pos:String} {af:Array Edge} {x y:Operand} {u:AV} (ok:ej P tt) (i q:Nat) {b p n:Nat} {cs ys:List AV} {e:TypeId} (ht:FX tt t=some n) (hx:br fr x=some (.sc (.pointer (some ⟨b,p,none⟩)))) (hp:p=q) (hy:br fr y=some u) (hu:u.cells=some ys) (hL:L[i]?=some (b,.box cs e)) (hn:Nat.beq ys.length n=true) (hq:q+n≤cs.length) (h:bB P r ops Q nt D rest fr B (fJ L i (.box (eN cs q ys) e))):
  bB P r ops Q nt D (⟨none,.store t x y,ty,pos,af,none⟩::rest) fr B L:=by
 subst hp
 exact ai ok i ht hx hy hu hL hn (Nat.ble_eq_true_of_le hq) h
theorem F2 (l:List bN) (hl:l.length≤1000000) (hr:∀q∈l,q.Lookups.length≤1000000):bH Tryz.prog 48 [.imm 2 (l.map bE)] (.imm 2 (l.map bE)):=by
 refine aP Tryz.func48 rfl Tryz.ntmps48 rfl fun B=>?_
 have hll:(l.map bE).length=l.length:=Lr ..
 repeat' (first|refine ae ?_|refine a6 ?_|refine a8 ?_|refine aa ?_|refine LF a7 I9 ?_)
 refine ep a7 l.length rfl rfl rfl rfl rfl (by rw [hll]) (by rw [hll]) (by omega) (by omega) rfl fun b=>?_
 rw [show (List.replicate l.length (List.map AV.sc _)).flatten=eQ bE [rE ⟨#[]⟩,.sc (.slice none 0 0)] l 0 from iV _ _ _]
 repeat' (first|refine ae ?_|refine a6 ?_|refine am ?_|refine a8 ?_|refine aa ?_|refine LF a7 I9 ?_)
 refine aJ [3,9,10] (α:=Nat) (fun i=>[(11,aH i)]) (fun i=>i≤l.length) (fun i=>[(b,.box (eQ bE [rE ⟨#[]⟩,.sc (.slice none 0 0)] l i) _)]) (fun i=>l.length - i) 0 rfl ⟨rfl,trivial⟩ (Nat.zero_le _) (fun _ _ h=>h) fun i hi=>?_
 try dsimp only [Lp,Lo,Ln,Lh]
 repeat' (first|refine ae ?_|refine a6 ?_|refine a8 ?_|refine aa ?_|refine LF a7 I9 ?_)
 refine ay rfl (fun h=>?_) (fun h=>?_)
 ·have hil:i < l.length:=by have:=Ly h;omega
  obtain ⟨z,hz⟩:∃z,l[i]?=some z:=⟨_,Lz hil⟩
  have hzg:=c7 (c:=bE) hz
  clear h
  haveI:=AD.mk (vG (aO z.Lookups) (fun q hq=>by obtain ⟨y,_,rfl⟩:=List.mem_map.1 hq;rfl) (by rw [aW];exact hr z (Lv hz)))
  repeat' (first|refine ae ?_|refine a6 ?_|refine am ?_|refine au ?_|refine a8 ?_|refine aa ?_|refine LF a7 I9 ?_|(apply aU;first|refine aT a7 ?_|refine aN a7 ?_)|(apply aK;first|refine LH 5 a7 0 LE ?_|refine LH 5 a7 1 LE ?_|refine LH 5 a7 2 LE ?_|refine LG a7 0 LD ?_|refine LG a7 1 LD ?_|refine LG a7 2 LD ?_|refine LG a7 3 LD ?_|fail)|refine bg a7 fun _=>?_|fail)
  refine bI 8 [(0,.v),(1,.v),(2,.v),(3,.v),(4,.v),(5,.v),(6,.v),(7,.v)] none ?_ trivial rfl (by kernel_rfl) (by kernel_rfl) (by kernel_rfl) mixed (by kernel_rfl) rfl
  repeat' (first|refine aF ?_|refine b9 a7 ?_|(apply du;refine dT ?_)|fail)
  refine LP [3,9,10,11,16,17,23] I9 ?_
  repeat' (first|(apply aU;first|refine aT a7 ?_|refine aN a7 ?_)|fail)
  refine mT (n:=2) (ys:=bE z) a7 0 (i * 2) rfl rfl (by omega) rfl rfl rfl rfl (by rw [k9 (sz:=2) (fun _=>rfl) rfl l hi];omega) ?_
  rw [ka (sz:=2) (fun _=>rfl) rfl hz]
  repeat' (first|refine a6 ?_|refine a8 ?_|refine aM ?_|refine aa ?_|refine LF a7 I9 ?_|(apply aY;refine aX ?_)|fail)
  exact aE (i+1) rfl ⟨by rw [Ls];rfl,trivial⟩ hil (by omega) (fun _ _ h=>h)
 ·have hil:i=l.length:=by have:=Lw h;omega
  subst hil
  repeat' (first|refine ae ?_|refine a6 ?_|refine aq ?_|refine aL ?_|refine a8 ?_|refine av ?_|refine aA ?_|refine aw ?_|refine aa ?_|refine LF a7 I9 ?_)
  rw [k8]
  have hfl:((l.map bE).flatten).length=l.length * 2:=by rw [bR (sz:=2) (fun e he=>by obtain ⟨y,_,rfl⟩:=List.mem_map.1 he;rfl),hll]
  refine b6 (cW (t:=2) (sz:=2) (l:=l.map bE) 0 rfl rfl (List.take_of_length_le (by omega)) (by omega) (fun q hq=>by obtain ⟨y,_,rfl⟩:=List.mem_map.1 hq;rfl) hll (Nat.le_refl _) (by unfold maxLen;omega)) ?_
  exact LK LA
structure GP (r:bz):Prop where
 back:r.Back.length≤1000000∧∀q∈r.Back,q.length≤1000000
 inn:r.In.length≤1000000∧∀q∈r.In,q.length≤1000000
 ahead:r.Ahead.length≤1000000∧∀q∈r.Ahead,q.length≤1000000
 out:r.Out.length≤1000000
 calls:r.Calls.length≤1000000
abbrev kq:AV:= .sc (.slice none 0 0)
abbrev Jv:List AV:=[aH 0,cQ false,kq]
abbrev KA:List AV:=[kq,kq,kq,kq,kq,aH 0]
theorem Dl {cs:List AV} {k:Nat} {a b c c':AV} (h:k+3≤cs.length):(eN cs k [a,b,c]).set (k+2) c'=eN cs k [a,b,c']:=by
 apply List.ext_getElem?
 intro j
 rw [fp _ _ _ _ (by simp;omega)]
 by_cases e:k+2=j
 ·subst e
  rw [List.getElem?_set_self (by rw [jy];omega),if_pos (by simp)]
  simp
 ·rw [List.getElem?_set_ne e,fp _ _ _ _ (by simp;omega)]
  by_cases h1:k≤j∧j < k+3
  ·rw [if_pos (by simpa using h1),if_pos (by simpa using h1)]
   have:j - k=0∨j - k=1:=by omega
   rcases this with h2 | h2 <;> rw [h2] <;> rfl
  ·rw [if_neg (by simpa using h1),if_neg (by simpa using h1)]
set_option maxHeartbeats 8000000 in
theorem Fi (l:List b7) (hl:l.length≤1000000) (hr:∀q∈l,q.Rules.length≤1000000∧∀r∈q.Rules,GP r):bH Tryz.prog 47 [.imm 3 (l.map bv)] (.imm 3 (l.map bv)):=by
 refine aP Tryz.func47 rfl Tryz.ntmps47 rfl fun B=>?_
 have hll:(l.map bv).length=l.length:=Lr ..
 repeat' (first|refine ae ?_|refine a6 ?_|refine a8 ?_|refine aa ?_|refine LF a7 I9 ?_)
 refine ep a7 l.length rfl rfl rfl rfl rfl (by rw [hll]) (by rw [hll]) (by omega) (by omega) rfl fun b=>?_
 rw [show (List.replicate l.length (List.map AV.sc _)).flatten=eQ bv Jv l 0 from iV _ _ _]
 repeat' (first|refine ae ?_|refine a6 ?_|refine am ?_|refine a8 ?_|refine aa ?_|refine LF a7 I9 ?_)
 refine aJ [3,11,12] (α:=Nat) (fun i=>[(13,aH i)]) (fun i=>i≤l.length) (fun i=>[(b,.box (eQ bv Jv l i) _)]) (fun i=>l.length - i) 0 rfl ⟨rfl,trivial⟩ (Nat.zero_le _) (fun _ _ h=>h) fun i hi=>?_
 try dsimp only [Lp,Lo,Ln,Lh]
 repeat' (first|refine ae ?_|refine a6 ?_|refine a8 ?_|refine aa ?_|refine LF a7 I9 ?_)
 refine ay rfl (fun h=>?_) (fun h=>?_)
 ·have hil:i < l.length:=by have:=Ly h;omega
  obtain ⟨z,hz⟩:∃z,l[i]?=some z:=⟨_,Lz hil⟩
  have hzg:=c7 (c:=bv) hz
  obtain ⟨hn,hrs⟩:=hr z (Lv hz)
  have hrl:(z.Rules.map bG).length=z.Rules.length:=Lr ..
  clear h
  repeat' (first|refine ae ?_|refine a6 ?_|refine am ?_|refine au ?_|refine a8 ?_|refine aa ?_|refine LF a7 I9 ?_|(apply aU;first|refine aT a7 ?_|refine aN a7 ?_)|(apply aK;first|refine LH 5 a7 0 LE ?_|refine LH 5 a7 1 LE ?_|refine LH 5 a7 2 LE ?_|refine LH 7 a7 0 LE ?_|refine LH 7 a7 1 LE ?_|refine LH 7 a7 2 LE ?_|refine LG a7 0 LD ?_|refine LG a7 1 LD ?_|refine LG a7 2 LD ?_|refine LG a7 3 LD ?_|fail)|refine bg a7 fun _=>?_|fail)
  refine bI 11 [(0,.v),(1,.v),(2,.v),(3,.v),(4,.v),(5,.v),(6,.v),(7,.v),(8,.v),(9,.e),(10,.v)] none ?_ trivial rfl (by kernel_rfl) (by kernel_rfl) (by kernel_rfl) mixed (by kernel_rfl) rfl
  repeat' (first|refine aF ?_|refine b9 a7 ?_|fail)
  refine Ho a7 z.Rules.length rfl rfl rfl rfl rfl (by rw [hrl]) (by rw [hrl]) (by omega) (by omega) (by first | trivial | rfl) fun rb=>?_
  rw [show (List.replicate z.Rules.length (List.map AV.sc _)).flatten=eQ bG KA z.Rules 0 from iV _ _ _]
  repeat' (first|refine aF ?_|refine b9 a7 ?_|fail)
  refine LP [3,4,5,11,12,13,18,19,28] I9 ?_
  repeat' (first|(apply aU;first|refine aT a7 ?_|refine aN a7 ?_)|fail)
  have hsl:=k9 (c:=bv) (zs:=Jv) (sz:=3) (fun _=>rfl) rfl l hi
  refine mT (n:=3) (ys:=[aH z.Kind,cQ z.Ignore,.sc (.slice (some ⟨rb,0,none⟩) z.Rules.length z.Rules.length)]) a7 1 (i * 3) rfl rfl (by omega) rfl rfl rfl rfl (by rw [hsl];omega) ?_
  repeat' (first|refine ae ?_|refine a6 ?_|refine am ?_|refine a8 ?_|refine aa ?_|refine LF a7 I9 ?_)
  have hcell:(eN (eQ bv Jv l i) (i * 3) [aH z.Kind,cQ z.Ignore,.sc (.slice (some ⟨rb,0,none⟩) z.Rules.length z.Rules.length)])[i * 3+2]?=some (.sc (.slice (some ⟨rb,0,none⟩) z.Rules.length z.Rules.length)):=by
   rw [fp _ _ _ _ (by rw [hsl];show _+3≤_;omega),if_pos ⟨by omega,by show _ < _+3;omega⟩,show i * 3+2 - i * 3=2 by omega]
   rfl
  refine aJ [3,4,11,12,13,31,32] (α:=Nat) (fun j=>[(33,aH j)]) (fun j=>j≤z.Rules.length) (fun j=>(rb,.box (eQ bG KA z.Rules j) _)::[(b,.box (eN (eQ bv Jv l i) (i * 3) [aH z.Kind,cQ z.Ignore,.sc (.slice (some ⟨rb,0,none⟩) z.Rules.length z.Rules.length)]) _)]) (fun j=>z.Rules.length - j) 0 rfl ⟨rfl,trivial⟩ (Nat.zero_le _) (fun _ _ h=>h) fun j hj=>?_
  try dsimp only [Lp,Lo,Ln,Lh]
  repeat' (first|refine ae ?_|refine a6 ?_|refine a8 ?_|refine aa ?_|refine LF a7 I9 ?_)
  refine ay rfl (fun h=>?_) (fun h=>?_)
  ·have hjl:j < z.Rules.length:=by have:=Ly h;omega
   obtain ⟨r,hrr⟩:∃r,z.Rules[j]?=some r:=⟨_,Lz hjl⟩
   have hrg:=c7 (c:=bG) hrr
   have hsm:=hrs r (Lv hrr)
   haveI i1:=AD.mk (xn r.Back hsm.back.1 hsm.back.2)
   haveI i2:=AD.mk (xn r.In hsm.inn.1 hsm.inn.2)
   haveI i3:=AD.mk (xn r.Ahead hsm.ahead.1 hsm.ahead.2)
   haveI i4:=AD.mk (vG (aO r.Out) (fun q hq=>by obtain ⟨y,_,rfl⟩:=List.mem_map.1 hq;rfl) (by rw [aW];exact hsm.out))
   haveI i5:=AD.mk (Jk (r.Calls.map fW) (fun q hq=>by obtain ⟨y,_,rfl⟩:=List.mem_map.1 hq;rfl) (by rw [Lr];exact hsm.calls))
   clear h
   repeat' (first|refine ae ?_|refine a6 ?_|refine am ?_|refine au ?_|refine a8 ?_|refine aa ?_|refine LF a7 I9 ?_|(apply aU;first|refine aT a7 ?_|refine aN a7 ?_)|(apply aK;first|refine LH 5 a7 0 LE ?_|refine LH 5 a7 1 LE ?_|refine LH 5 a7 2 LE ?_|refine LH 7 a7 0 LE ?_|refine LH 7 a7 1 LE ?_|refine LH 7 a7 2 LE ?_|refine LG a7 0 LD ?_|refine LG a7 1 LD ?_|refine LG a7 2 LD ?_|refine LG a7 3 LD ?_|fail)|refine bg a7 fun _=>?_|fail)
   refine bI 24 [(0,.v),(1,.v),(2,.v),(3,.v),(4,.l),(5,.v),(6,.v),(7,.v),(8,.v),(9,.v),(10,.v),(11,.v),(12,.v),(13,.v),(14,.v),(15,.v),(16,.v),(17,.v),(18,.v),(19,.v),(20,.v),(21,.v),(22,.v),(23,.v)] none ?_ trivial rfl (by kernel_rfl) (by kernel_rfl) (by kernel_rfl) mixed (by kernel_rfl) rfl
   repeat' (first|refine aF ?_|refine b9 a7 ?_|fail)
   refine df a7 rfl rfl rfl ⟨by omega,by omega⟩ (by first | trivial | rfl) ?_
   repeat' (first|refine aF ?_|refine b9 a7 ?_|fail)
   refine mB a7 1 (i * 3+2) rfl rfl (by omega) rfl hcell (by first | trivial | rfl) ?_
   repeat' (first|refine aF ?_|refine b9 a7 ?_|(apply du;refine dT ?_)|fail)
   refine LP [3,4,11,12,13,31,32,33,42,43,61] I9 ?_
   repeat' (first|(apply aU;first|refine aT a7 ?_|refine aN a7 ?_)|fail)
   refine mT (n:=6) (ys:=bG r) a7 0 (j * 6) rfl rfl (by omega) rfl rfl rfl rfl (by rw [k9 (sz:=6) (fun _=>rfl) rfl _ hj];omega) ?_
   rw [ka (sz:=6) (fun _=>rfl) rfl hrr]
   repeat' (first|refine a6 ?_|refine a8 ?_|refine aM ?_|refine aa ?_|refine LF a7 I9 ?_|(apply aY;refine aX ?_)|fail)
   exact aE (j+1) rfl ⟨by rw [Ls];rfl,trivial⟩ hjl (by omega) (fun _ _ h=>h)
  ·have hjl:j=z.Rules.length:=by have:=Lw h;omega
   subst hjl
   clear h
   rw [k8]
   repeat' (first|refine a6 ?_|refine aL ?_|refine a8 ?_|refine av ?_|refine aM ?_|refine aA ?_|refine aw ?_|refine aa ?_|refine LF a7 I9 ?_|(apply aY;refine aX ?_)|fail)
   have hfl:((z.Rules.map bG).flatten).length=z.Rules.length * 6:=by rw [bR (sz:=6) (fun e he=>by obtain ⟨y,_,rfl⟩:=List.mem_map.1 he;rfl),hrl]
   refine b6 (od (k:=i * 3+2) (sz:=6) (l:=z.Rules.map bG) hcell (List.take_of_length_le (by omega)) hfl (fun q hq=>by obtain ⟨y,_,rfl⟩:=List.mem_map.1 hq;rfl) hrl (Nat.le_refl _) (by unfold maxLen;omega)) ?_
   rw [Dl (by rw [hsl];omega),show [aH z.Kind,cQ z.Ignore,AV.imm 6 (z.Rules.map bG)]=bv z from rfl,ka (sz:=3) (fun _=>rfl) rfl hz]
   exact aE (i+1) rfl ⟨by rw [Ls];rfl,trivial⟩ hil (by omega) (fun _ _ h=>h)
 ·have hil:i=l.length:=by have:=Lw h;omega
  subst hil
  repeat' (first|refine ae ?_|refine a6 ?_|refine aq ?_|refine aL ?_|refine a8 ?_|refine av ?_|refine aA ?_|refine aw ?_|refine aa ?_|refine LF a7 I9 ?_)
  rw [k8]
  have hfl:((l.map bv).flatten).length=l.length * 3:=by rw [bR (sz:=3) (fun e he=>by obtain ⟨y,_,rfl⟩:=List.mem_map.1 he;rfl),hll]
  refine b6 (cW (t:=2) (sz:=3) (l:=l.map bv) 0 rfl rfl (List.take_of_length_le (by omega)) (by omega) (fun q hq=>by obtain ⟨y,_,rfl⟩:=List.mem_map.1 hq;rfl) hll (Nat.le_refl _) (by unfold maxLen;omega)) ?_
  exact LK LA
end Go.Proofs.YtamjlkdanllgjaaGreatDoor
namespace Go.Proofs.YtamjlkdanllgjaaGreatDoor
open Go.RowKit
def ja (P:Program) (u:AV) (args:List AV) (L:AL) (Post:AV→AL→Prop):Prop:=(∃f caps,bF P f∧kx u=some (f,caps)∧AC P f (args++caps) L Post)∨∃f fs caps,bF P f∧u= .fnB f fs caps∧AC P f (fs++(args++caps)) L Post
theorem ja.fn {P:Program} {f:FuncId} {caps args:List AV} {L:AL} {Post:AV→AL→Prop} [h:bF P f] (k:AC P f (args++caps) L Post):ja P (.fn f caps) args L Post:= .inl ⟨f,caps,h,rfl,k⟩
theorem ja.fn0 {P:Program} {f:FuncId} {args:List AV} {L:AL} {Post:AV→AL→Prop} [h:bF P f] (k:AC P f (args++[]) L Post):ja P (.sc (.func (.func f) #[] #[])) args L Post:= .inl ⟨f,[],h,rfl,k⟩
theorem ja.fnB {P:Program} {f:FuncId} {fs caps args:List AV} {L:AL} {Post:AV→AL→Prop} [h:bF P f] (k:AC P f (fs++(args++caps)) L Post):ja P (.fnB f fs caps) args L Post:= .inr ⟨f,fs,caps,h,rfl,k⟩
def Kp (u:AV):Bool:=match u with
 | .fn _ _=>true
 | .fnB _ _ _=>true
 | .sc _=>true
 | _=>false
section
variable {P:Program} {r:Option Nat} {ops:Array Oper} {Q:Exit→Act→World→Prop} {nt:Nat} {D:List Deferred} {fr:bY} {B:Bs} {L:AL} {rest:List Oper} {d:Nat} {ty t:TypeId} {pos:String} {af:Array Edge} {x y z:Operand} {u:AV} {g:Option (Nat×Bool)}
theorem BB (Lc Lf:AL) {d:Option Tmp} {f:FuncId} {args:Array Operand} {ts:Array TypeId} {cs fs caps:List AV} {Post:AV→AL→Prop} [hf:bF P f] (hx:br fr x=some (.fnB f fs caps)) (hv:ev fr args.toList=some cs) (hL:L.Perm (Lc++Lf)) (h:AC P f (fs++(cs++caps)) Lc Post):
  AO P ⟨d,.call ⟨.value x,args,ts⟩,ty,pos,af,g⟩ fr B L (fun c L'=>∃L1,Post c L1∧L'=L1++Lf):=by
 intro σ ρ w hρ hw0
 have hw:=hw0.perm hL
 obtain ⟨qs,ws,hw1,hw0',hw2⟩:=(hρ x _ hx).fnB_inv
 have hvs:=fc hρ _ _ hv
 have e:args.map ρ=(args.toList.map ρ).toArray:=by apply Array.toList_inj.1;simp
 unfold gX
 rw [show (execOp ρ ⟨d,.call ⟨.value x,args,ts⟩,ty,pos,af,g⟩).run P w= .ok (.enter f (qs++(args.toList.map ρ++ws)).toArray) w by
  simp [execOp,resolve,hw1,Deferred.ofValue,invoke,hf.enters]]
 have happ:∀{ps bs:List AV} {us vs:List Value},cT σ ps us→cT σ bs vs→cT σ (ps++bs) (us++vs):=by
  intro ps bs us vs ha hb
  refine ⟨by rw [List.length_append,List.length_append,ha.1,hb.1],fun i c u hc hu=>?_⟩
  have hq:=ha.1
  by_cases hi:i < ps.length
  ·rw [List.getElem?_append_left hi] at hc
   rw [List.getElem?_append_left (by omega)] at hu
   exact ha.2 i c u hc hu
  ·rw [List.getElem?_append_right (by omega)] at hc
   rw [List.getElem?_append_right (by omega),←hq] at hu
   exact hb.2 _ c u hc hu
 have hall:=happ hw0' (happ hvs hw2)
 refine (h σ w _ hall hw.enter).mono fun en w' ⟨v,τ,c,L',h1,h2,h3,h4⟩=>⟨v,h1,τ,c,L'++Lf,h3.grow,h2,hw.leave h3,L',h4,rfl⟩
theorem lm {args:Array Operand} {ts:Array TypeId} {cs:List AV} {Post:AV→AL→Prop} (Lc Lf:AL) (hc:ja P u cs Lc Post) (hx:br fr x=some u) (hv:ev fr args.toList=some cs) (hL:L.Perm (Lc++Lf)) (hn:Oper.noDefer ⟨some d,.call ⟨.value x,args,ts⟩,ty,pos,af,none⟩=true) (hd:Nat.ble nt d=false) (h:∀c L1,Post c L1→bB P r ops Q nt D rest ((d,c)::fr) B (L1++Lf)):
  bB P r ops Q nt D (⟨some d,.call ⟨.value x,args,ts⟩,ty,pos,af,none⟩::rest) fr B L:=by
 rcases hc with ⟨f,caps,hf,hu,hc⟩ | ⟨f,fs,caps,hf,rfl,hc⟩
 ·exact cj hd hn (ut Lc Lf hx hu hv hL hc) fun c L' ⟨L1,h1,h2⟩=>by subst h2;exact h c L1 h1
 ·exact cj hd hn (BB Lc Lf hx hv hL hc) fun c L' ⟨L1,h1,h2⟩=>by subst h2;exact h c L1 h1
end
end Go.Proofs.YtamjlkdanllgjaaGreatDoor
namespace Go.Proofs.YtamjlkdanllgjaaGreatDoor
open Go.RowKit
section
variable {P:Program} {tt:TT} {r:Option Nat} {ops:Array Oper} {Q:Exit→Act→World→Prop} {nt:Nat} {D:List Deferred} {fr:bY} {B:Bs} {L:AL} {rest:List Oper} {d:Nat} {ty t t':TypeId} {pos:String} {af:Array Edge} {x y z:Operand} {u:AV} {g:Option (Nat×Bool)}
theorem BE {dd:Option Tmp} {e sz by_ s:Nat} {l:List (List AV)} (hc:lQ P t e sz by_) (hx:br fr x=some u) (hu:u.im= .imm s l) (hy:br fr y=some (.sc (.slice none 0 0))):
  AO P ⟨dd,.binOp .eql t x y t',ty,pos,af,g⟩ fr B L (fun c L'=>∃b,c= .sc (.bool b)∧(b=true→l=[])∧L'=L):=by
 intro σ ρ w hρ hw
 have hxv:=(hρ x u hx).im
 rw [hu] at hxv
 have hyv:=(hρ y _ hy).sc_inv
 have key:∀v,VR σ (.imm s l) v→∃A cap,v= .slice A l.length cap∧(l≠[]→∃b off,A=some ⟨b,off,none⟩):=by
  intro v hv
  cases hv with
  | imm sz l A cap h1 h2 h3 ha hx2 h4=>exact ⟨A,cap,rfl,ha⟩
 obtain ⟨A,cap,hval,ha⟩:=key _ hxv
 ·have hrun:=Lib.run_eql_slice_nil (P:=P) w t e A l.length cap 0 0 hc.under
  unfold gX
  rw [show (execOp ρ ⟨dd,.binOp .eql t x y t',ty,pos,af,g⟩).run P w= .ok (.value (.bool A.isNone)) w by
   simp [execOp,hval,hyv,eqGuard,hrun]]
  refine ⟨σ,.sc _,L,cf.le_refl σ,.sc _,hw,A.isNone,rfl,fun h=>?_,rfl⟩
  cases A with
  | none=>exact Decidable.byContradiction fun hn=>by obtain ⟨b,o,hh⟩:=ha hn;cases hh
  | some a=>cases h
theorem tN (ok:ej P tt) {e sz by_ s:Nat} {l:List (List AV)} (ht:kz tt t=some (e,sz,by_)) (hx:br fr x=some u) (hu:iE u=some (s,l)) (hy:br fr y=some (.sc (.slice none 0 0))) (hd:Nat.ble nt d=false) (h:∀b,(b=true→l=[])→bB P r ops Q nt D rest ((d,.sc (.bool b))::fr) B L):
  bB P r ops Q nt D (⟨some d,.binOp .eql t x y t',ty,pos,af,none⟩::rest) fr B L:=
 cj hd rfl (BE (bC ok ht).1 hx (cO hu) hy) fun c L' ⟨b,h1,h2,h3⟩=>by subst h1;subst h3;exact h b h2
end
section
variable {P:Program} {nt:Nat} {fr:bY} {B:Bs} {L L':AL}
theorem fP (L':AL) {fn:Func} {Post:AV→AL→Prop} {cs:List AV} (hr:lJ P fr L fn.results.toList cs) (hs:L'.Sublist L) (h:Post (pd cs) L'):AX P .ret (bodyPost P fn (ib B Post)) nt [] fr B L:=by
 intro σ a w ha hw
 obtain ⟨v,h1,h2⟩:=iU ha hw hr
 exact ⟨ha.defers,v,h1,v,σ,pd cs,L',rfl,h2,hw.sublist hs,h⟩
end
end Go.Proofs.YtamjlkdanllgjaaGreatDoor
namespace Go.Proofs.YtamjlkdanllgjaaGreatDoor
open Go.RowKit
def py (P:Program) (f:FuncId) (args:List AV) (L:AL) (u u':FrameMode) (L':AL):Prop:=∀σ w vs,cT σ args vs→cZ ⟨w,σ,L.map (·.1)⟩ σ L w→
 CallsDIn Fence.wide 0 P f vs.toArray u w fun e m w'=>∃τ v,e= .returned v∧m=u'∧cZ ⟨w,σ,L.map (·.1)⟩ τ L' w'
def EI (f:FuncId) (vs:List Value):Deferred:={ target:= .fn (.func f) vs.toArray,args:=#[] }
def DQ (B:Bs) (L':AL):Exit→Act→World→Prop:=fun e a w=>(e= .normal∨e= .ret)∧a.defers=[]∧∃τ,cZ B τ L' w
section
variable {P:Program} {r:Option Nat} {ops:Array Oper} {Q:Exit→Act→World→Prop} {nt:Nat} {D:List Deferred} {fr:bY} {B:Bs} {L:AL} {rest:List Oper}
variable {d:Nat} {t ty:TypeId} {pos:String} {af:Array Edge} {x:Operand} {u:AV}
theorem Hs {σ:cf} {f:FuncId} {vs:List Value} {v:Value} (h:VR σ (.fn f (vs.map .sc)) v):v= .func (.func f) #[] vs.toArray:=by
 generalize hc:AV.fn f (vs.map .sc)=c at h
 cases h with
 | fn f' cs ws hl h=>
  injection hc with h1 h2
  subst h1;subst h2
  have:ws=vs:=by
   apply List.ext_getElem?
   intro i
   have hl':vs.length=ws.length:=by simpa using hl
   by_cases hi:i < vs.length
   ·have h3:(vs.map AV.sc)[i]?=some (.sc vs[i]):=by simp [hi]
    have h4:ws[i]?=some (ws[i]'(by omega)):=Lz (by omega)
    have:=(h i _ _ h3 h4).sc_inv
    rw [h4,this,Lz hi]
   ·rw [List.getElem?_eq_none (by omega),List.getElem?_eq_none (by omega)]
  rw [this]
 | _=>cases hc
theorem yr {f:FuncId} (vs:List Value) {ts:Array TypeId} (hx:br fr x=some (.fn f (vs.map .sc))) (h:bB P none ops Q nt (EI f vs::D) rest fr B L):bB P none ops Q nt D (⟨none,.defer ⟨.value x,#[],ts⟩,ty,pos,af,none⟩::rest) fr B L:=by
 intro σ a w ha hw
 unfold wpListIn
 rw [if_pos (by simp [Region.wanted])]
 have hv:=Hs (ha.eval hx)
 refine ⟨fun _ _=>trivial,?_⟩
 have hr:(Oper.semAt none a.eval ⟨none,.defer ⟨.value x,#[],ts⟩,ty,pos,af,none⟩).run P w= .ok (.defer (EI f vs)) w:=by
  rw [Oper.semAt_none]
  simp [execOp,resolve,hv,Deferred.ofValue,EI]
 rw [show (Wd none).round=none from rfl,hr]
 exact h σ _ w ⟨ha.size,by show EI f vs::a.defers=_;rw [ha.defers],ha.look⟩ hw
theorem Fq {v:Value} (hx:br fr x=some (.sc (.iface t v))) (h:AX P (.panic [{ v:= .iface t v,recovered:=false }]) Q nt D fr B L) {dd:Option Tmp}:bB P r ops Q nt D (⟨dd,.panic x,ty,pos,af,none⟩::rest) fr B L:=by
 intro σ a w ha hw
 unfold wpListIn
 rw [if_pos (by simp [Region.wanted])]
 have hv:=(ha.eval hx).sc_inv
 refine ⟨fun _ _=>trivial,?_⟩
 have hr:(Oper.semAt r a.eval ⟨dd,.panic x,ty,pos,af,none⟩).run P w= .halt (.panic (.iface t v)) w:=by
  rw [Oper.semAt_eq _ _ _ (by simp)]
  simp [execOp,hv,Instr.panic]
 rw [show (Wd r).round=r from rfl,hr]
 exact h σ a w ha hw
theorem rH {c:List PanicEntry} {y:Code} (h:AX P (.panic c) Q nt D fr B L):AX P (.panic c) (Kt P r y Q) nt D fr B L:=fun σ a w ha hw=>h σ a w ha hw
theorem wk {L':AL} (hs:L'.Sublist L):AX P .normal (DQ B L') nt [] fr B L:=fun σ _ _ ha hw=>⟨.inl rfl,ha.defers,σ,hw.sublist hs⟩
theorem wD {f:FuncId} {fn:Func} {rc:Code} {args:List AV} {L':AL} {m m':FrameMode} {v:Value} {d1 d2 id1:Nat} {ty1 ty2:TypeId} {p1 p2:String} {a1 a2:Array Edge} {ts:Array TypeId} (hf:P.funcs[f]?=some fn) (hb:fn.body=some (.seq (.region id1 #[⟨some d1,.call ⟨.builtin .recover,#[],ts⟩,ty1,p1,a1,none⟩,⟨some d2,.assign (.tmp d1),ty2,p2,a2,none⟩] false) rc)) (hn:fn.ntmps=nt) (hs:Nat.ble args.length nt=true) (hres:fn.results=#[]) (h1:Nat.ble nt d1=false) (h2:Nat.ble nt d2=false)
  (hrec:∀(c₀:Frame) (cs:List Frame),c₀.mode=m→(recoverD (c₀::cs)=some (v,{ c₀ with mode:=m' }::cs))∨(recoverD (c₀::cs)=none∧v= .nilIface∧m'=m))
  (h:∀B,AT P none rc (DQ B L') nt [] ((d2,.sc v)::(d1,.sc v)::mo 0 args) B L):py P f args L m m' L':=by
 intro σ w vs hv hst
 have hs':args.length≤nt:=by simpa [Nat.ble_eq] using hs
 have hl:=hv.1
 refine callsDIn_of_wpSIn (F:=Fence.wide) hf hb trivial fun c₀ cs hu=>?_
 have ha0:iN σ nt [] (mo 0 args) { tmps:=vs.toArray++Array.replicate (fn.ntmps - vs.toArray.size) undef,defers:=[] }:=by
  refine ⟨by simp [hn];omega,rfl,fun t v hlk=>?_⟩
  obtain ⟨_,h2⟩:=it args 0 t v hlk
  simp only [Nat.sub_zero] at h2
  have hlt:t < vs.length:=by have:=(Lm h2).1;omega
  simp only [Array.getD_eq_getD_getElem?]
  rw [Array.getElem?_append_left (by simpa using hlt)]
  have:=hv.2 t v vs[t] h2 (Lz hlt)
  simpa [hlt] using this
 generalize ({ tmps:=vs.toArray++Array.replicate (fn.ntmps - vs.toArray.size) undef,defers:=[] }:Act)=a0 at ha0
 refine wpSIn_seq (wpSIn_region ?_)
 have e1:∀w:World,(execOp a0.eval ⟨some d1,.call ⟨.builtin .recover,#[],ts⟩,ty1,p1,a1,none⟩).run P w= .ok .recover w:=fun w=>by
  simp [execOp,resolve,invoke,builtin]
 have key:∀csx:List Frame,(∃c',csx={ c₀ with mode:=m' }::cs∧c'=c₀)→wpOpsSIn Fence.wide 0 P #[⟨some d1,.call ⟨.builtin .recover,#[],ts⟩,ty1,p1,a1,none⟩,⟨some d2,.assign (.tmp d1),ty2,p2,a2,none⟩] (Exit.thenS (rc.wpSIn Fence.wide 0 P (bodyPostS P fn c₀ cs fun e m w'=>∃τ v,e= .returned v∧m=m'∧cZ ⟨w,σ,L.map (·.1)⟩ τ L' w')) (bodyPostS P fn c₀ cs fun e m w'=>∃τ v,e= .returned v∧m=m'∧cZ ⟨w,σ,L.map (·.1)⟩ τ L' w')) [1] (a0.put (some d1) v) csx w:=by
  rintro csx ⟨_,rfl,-⟩
  have ha1:=ha0.put (iq h1) (VR.sc v)
  have e2:(execOp (a0.put (some d1) v).eval ⟨some d2,.assign (.tmp d1),ty2,p2,a2,none⟩).run P w= .ok (.value v) w:=by
   have:(a0.put (some d1) v).eval (.tmp d1)=v:=(ha1.eval (x:= .tmp d1) (c:= .sc v) (by simp [br,ci])).sc_inv
   simp [execOp,this]
  rw [wpOpsSIn]
  simp only [List.getElem?_toArray,List.getElem?_cons_succ,List.getElem?_cons_zero]
  refine ⟨fun _ _=>trivial,?_⟩
  rw [if_pos (by simp [Region.wanted]),e2]
  refine wpSIn_of_wpIn rfl (wpIn_mono (h _ σ _ w (ha1.put (iq h2) (VR.sc v)) hst) ?_)
  rintro e a' w' ⟨he,hd,τ,hst'⟩
  rcases he with rfl | rfl
  ·exact ⟨hd,m',rfl,.tuple #[],results_none hres _ _ _,τ,_,rfl,rfl,hst'⟩
  ·exact ⟨hd,m',rfl,.tuple #[],results_none hres _ _ _,τ,_,rfl,rfl,hst'⟩
 have hr:List.range (#[(⟨some d1,.call ⟨.builtin .recover,#[],ts⟩,ty1,p1,a1,none⟩:Oper),⟨some d2,.assign (.tmp d1),ty2,p2,a2,none⟩]:Array Oper).size=[0,1]:=rfl
 rw [hr]
 rw [wpOpsSIn]
 simp only [List.getElem?_toArray,List.getElem?_cons_zero]
 refine ⟨fun _ _=>trivial,?_⟩
 rw [if_pos (by simp [Region.wanted]),e1]
 rcases hrec c₀ cs hu with h3 | ⟨h3,h4,h5⟩
 ·rw [h3]
  exact key _ ⟨c₀,rfl,rfl⟩
 ·rw [h3]
  subst h4
  exact key _ ⟨c₀,by subst h5;subst hu;rfl,rfl⟩
theorem vD (c₀:Frame) (cs:List Frame) (h:c₀.mode= .returning):(recoverD (c₀::cs)=some (.nilIface,{ c₀ with mode:= .returning }::cs))∨(recoverD (c₀::cs)=none∧Value.nilIface= .nilIface∧FrameMode.returning= .returning):= .inr ⟨by simp [recoverD,h],rfl,rfl⟩
theorem Do {v:Value} (c₀:Frame) (cs:List Frame) (h:c₀.mode= .panicking [{ v,recovered:=false }]):(recoverD (c₀::cs)=some (v,{ c₀ with mode:= .panicking [{ v,recovered:=true }] }::cs))∨(recoverD (c₀::cs)=none∧v= .nilIface∧FrameMode.panicking [{ v,recovered:=true }]= .panicking [{ v,recovered:=false }]):= .inl (by simp [recoverD,h])
theorem qG {f:FuncId} {vs:List Value} {fn:Func} {Post:AV→AL→Prop} {cs:List AV} {σ:cf} {a:Act} {w:World} {m m':FrameMode} (Lc Lf L' L0:AL) [hf:bF P f] (hm:m≠ .run) (hm':settle m'= .returning) (hC:py P f (vs.map .sc) Lc m m' L') (hL:L.Perm (Lc++Lf)) (ha:iN σ nt [EI f vs] fr a) (hw:cZ B σ L w) (hr:lJ P fr (L'++Lf) fn.results.toList cs) (hs:L0.Sublist (L'++Lf)) (h:Post (pd cs) L0):LeavesInM Fence.wide 0 P fn a.tmps (ib B Post) [EI f vs] m w:=by
 have hw':=hw.perm hL
 refine ⟨hm,.inr ⟨fun hh=>by simp [Fence.wide] at hh,.func f,vs.toArray,f,vs.toArray,rfl,?_,fun _ _=>trivial,?_⟩⟩
 ·have:=hf.enters vs.toArray w
  simpa [EI,invoke] using this
 have hvs:cT σ (vs.map .sc) vs:=⟨by simp,fun i c u hc hu=>by
  rw [List.getElem?_map,hu] at hc
  cases hc
  exact .sc _⟩
 obtain ⟨hF,hall⟩:=hC σ w vs hvs hw'.enter
 refine ⟨hF,fun c cs0 hu hroom=>?_⟩
 obtain ⟨e,u',w',fr',⟨τ,v,rfl,rfl,hst⟩,hrest⟩:=hall c cs0 hu hroom
 refine ⟨_,_,w',fr',?_,hrest⟩
 show LeavesInM Fence.wide 0 P fn a.tmps (ib B Post) [] (settle u') w'
 rw [hm']
 have hst2:=hw'.leave hst
 have hle:σ.le τ:=hst.grow
 obtain ⟨v2,h1,h2⟩:=iU (ha.mono hle) hst2 hr
 exact ⟨v2,h1,v2,τ,pd cs,L0,rfl,h2,hst2.sublist hs,h⟩
theorem xS {f:FuncId} {vs:List Value} {fn:Func} {Post:AV→AL→Prop} {cs:List AV} (Lc Lf L' L0:AL) [bF P f] (hC:py P f (vs.map .sc) Lc .returning .returning L') (hL:L.Perm (Lc++Lf)) (hr:lJ P fr (L'++Lf) fn.results.toList cs) (hs:L0.Sublist (L'++Lf)) (h:Post (pd cs) L0):AX P .ret (bodyPostM Fence.wide 0 P fn (ib B Post)) nt [EI f vs] fr B L:=fun σ a w ha hw=>by
 show LeavesInM _ _ _ _ _ _ a.defers _ _
 rw [ha.defers]
 exact qG Lc Lf L' L0 (by simp) rfl hC hL ha hw hr hs h
theorem za {f:FuncId} {vs:List Value} {fn:Func} {Post:AV→AL→Prop} {cs:List AV} {v:Value} (Lc Lf L' L0:AL) [bF P f] (hC:py P f (vs.map .sc) Lc (.panicking [{ v,recovered:=false }]) (.panicking [{ v,recovered:=true }]) L') (hL:L.Perm (Lc++Lf)) (hr:lJ P fr (L'++Lf) fn.results.toList cs) (hs:L0.Sublist (L'++Lf)) (h:Post (pd cs) L0):AX P (.panic [{ v,recovered:=false }]) (bodyPostM Fence.wide 0 P fn (ib B Post)) nt [EI f vs] fr B L:=fun σ a w ha hw=>by
 show LeavesInM _ _ _ _ _ _ a.defers _ _
 rw [ha.defers]
 exact qG Lc Lf L' L0 (by simp) rfl hC hL ha hw hr hs h
end
section
variable {P:Program} {r:Option Nat} {ops:Array Oper} {Q:Exit→Act→World→Prop} {nt:Nat} {D:List Deferred} {fr:bY} {B:Bs} {L:AL} {rest:List Oper}
variable {d:Nat} {t t' ty:TypeId} {pos:String} {af:Array Edge} {x:Operand} {u:AV}
theorem xa (b:Bool) {v:Value} (ht:∃ms,P.underlying t=some (.interface ms)) (hx:br fr x=some (.sc v)) (hv:(v= .nilIface∧b=false)∨(∃q w,v= .iface q w)∧b=true) (hd:Nat.ble nt d=false) (h:bB P r ops Q nt D rest ((d,.sc (.bool b))::fr) B L):bB P r ops Q nt D (⟨some d,.binOp .neq t x (.const .nilIface) t',ty,pos,af,none⟩::rest) fr B L:=by
 obtain ⟨ms,ht⟩:=ht
 refine cU (u:= .sc (.bool b)) (fun σ ρ w hρ _=>?_) hd rfl h
 refine ⟨.bool b,?_,.sc _⟩
 have hy:=(hρ (.const .nilIface) _ rfl).sc_inv
 have hxv:=(hρ x _ hx).sc_inv
 have he:(Op.equal t v .nilIface).run P w= .ok (!b) w:=by
  unfold Op.equal Op.maxDepth
  rcases hv with ⟨rfl,rfl⟩ | ⟨⟨q,z,rfl⟩,rfl⟩
  ·rw [show (10000:Nat)=9999+1 from rfl,Op.equalIn]
   simp [run_underlying ht]
  ·rw [show (10000:Nat)=9999+1 from rfl,Op.equalIn]
   simp [run_underlying ht]
 rcases hv with ⟨rfl,rfl⟩ | ⟨⟨q,z,rfl⟩,rfl⟩
 ·simp [execOp,hxv,hy,eqGuard,binOp,he]
 ·simp [execOp,hxv,hy,eqGuard,binOp,he]
theorem A9 {v:Value} (ht:gT P t=true) (hx:br fr x=some (.sc (.iface t v))) (hd:Nat.ble nt d=false) (h:bB P r ops Q nt D rest ((d,.tup [.sc v,.sc (.bool true)])::fr) B L):bB P r ops Q nt D (⟨some d,.typeAssert x t' t true,ty,pos,af,none⟩::rest) fr B L:=by
 refine cU (u:= .tup [.sc v,.sc (.bool true)]) (fun σ ρ w hρ _=>?_) hd rfl h
 obtain ⟨dd,hu,hd'⟩:=j5 ht
 refine ⟨.tuple #[v,.bool true],?_,.tup _ _ rfl (cT.cons (.sc _) (cT.cons (.sc _) cT.nil)).2⟩
 have hxv:=(hρ x _ hx).sc_inv
 have:(Instr.typeAssert (.iface t v) t' t true).run P w= .ok (.tuple #[v,.bool true]) w:=by
  simp only [Instr.typeAssert,Sem.run_bind,run_underlying hu,Result.andThen]
  cases dd <;> first | (exfalso;exact hd' _ rfl) | simp
 simp [execOp,hxv,this]
end
end Go.Proofs.YtamjlkdanllgjaaGreatDoor
namespace Go.Proofs.YtamjlkdanllgjaaGreatDoor
open Go.RowKit
section
variable {P:Program} {tt:TT} {r:Option Nat} {ops:Array Oper} {Q:Exit→Act→World→Prop} {nt:Nat} {D:List Deferred} {fr:bY} {B:Bs} {L:AL} {rest:List Oper}
variable {d:Nat} {ty t:TypeId} {pos:String} {af:Array Edge} {x y:Operand} {u:AV}
theorem qP {kd:TypeDesc} {σ:cf} {o:Obj} (h:jd kd (fun _=>none) σ o):∃clock,o= .map #[] clock:=by
 obtain ⟨es,clock,rfl,h1,_,_⟩:=h
 refine ⟨clock,?_⟩
 congr 1
 cases hc:es.toList with
 | nil=>exact Array.toList_inj.1 hc
 | cons e _=>
  obtain ⟨_,c,hc',_⟩:=h1 e (by rw [hc];exact List.mem_cons_self ..)
  cases hc'
def IN (b:Nat):AB:= .raw fun o=>∃c,o= .mapIter (some b) c #[] c
theorem CY (i:Nat) {b kt et:Nat} {kd:TypeDesc} (ht:P.underlying t=some (.map kt et)) (hx:br fr x=some (.sc (.map (some b)))) (hL:L[i]?=some (b,ca kd fun _=>none)) (hd:Nat.ble nt d=false) (h:∀q,bB P r ops Q nt D rest ((d,.sc (.pointer (some ⟨q,0,none⟩)))::fr) B ((q,IN b)::L)):
  bB P r ops Q nt D (⟨some d,.range t x,ty,pos,af,none⟩::rest) fr B L:=by
 refine cj (R:=fun c L'=>∃q,c= .sc (.pointer (some ⟨q,0,none⟩))∧L'=(q,IN b)::L) hd rfl (fun σ ρ w hρ hw=>?_) fun c L' ⟨q,h1,h2⟩=>by subst h1;subst h2;exact h q
 obtain ⟨o,ho,hM⟩:=hw.here _ (Lv hL)
 obtain ⟨clock,rfl⟩:=qP hM
 have hr:(execOp ρ ⟨some d,.range t x,ty,pos,af,none⟩).run P w= .ok (.value (.pointer (some ⟨w.heap.size,0,none⟩))) (w.alloc (.mapIter (some b) clock #[] clock)):=by
  have hg:(getObj b).run P w= .ok (.map #[] clock) w:=(by simp [getObj,Sem.run,show w.heap[b]?=_ from ho])
  simp [execOp,Instr.range,(hρ x _ hx).sc_inv,run_underlying ht,hg]
 unfold gX
 rw [hr]
 exact ⟨σ,_,_,cf.le_refl _,.sc _,hw.alloc _ (IN b) ⟨clock,rfl⟩,_,rfl,rfl⟩
theorem Fp (i j:Nat) {b q:Nat} {kd:TypeDesc} (hx:br fr x=some (.sc (.pointer (some ⟨q,0,none⟩)))) (hL:L[i]?=some (q,IN b)) (hM:L[j]?=some (b,ca kd fun _=>none)) (hd:Nat.ble nt d=false) (h:bB P r ops Q nt D rest ((d,.tup [.sc (.bool false)])::fr) B L):
  bB P r ops Q nt D (⟨some d,.next x false,ty,pos,af,none⟩::rest) fr B L:=by
 refine cj (R:=fun c L'=>c= .tup [.sc (.bool false)]∧L'=L) hd rfl (fun σ ρ w hρ hw=>?_) fun c L' ⟨h1,h2⟩=>by subst h1;subst h2;exact h
 obtain ⟨o,ho,c,rfl⟩:=hw.here _ (Lv hL)
 obtain ⟨o2,ho2,hM2⟩:=hw.here _ (Lv hM)
 obtain ⟨clock,rfl⟩:=qP hM2
 have hr:(execOp ρ ⟨some d,.next x false,ty,pos,af,none⟩).run P w= .ok (.value (.tuple #[.bool false])) w:=by
  have hg:(getObj q).run P w= .ok (.mapIter (some b) c #[] c) w:=(by simp [getObj,Sem.run,show w.heap[q]?=_ from ho])
  have hg2:(getObj b).run P w= .ok (.map #[] clock) w:=(by simp [getObj,Sem.run,show w.heap[b]?=_ from ho2])
  simp [execOp,Instr.next,(hρ x _ hx).sc_inv,hg,hg2,Question.forced]
 unfold gX
 rw [hr]
 exact ⟨σ,_,_,cf.le_refl _,.tup _ _ rfl (cT.cons (.sc _) cT.nil).2,hw,rfl,rfl⟩
end
end Go.Proofs.YtamjlkdanllgjaaGreatDoor
namespace Go.Proofs.YtamjlkdanllgjaaGreatDoor
structure MS where
 a:Nat
 lo:Fin 3
abbrev DM (α:Type):=MS→α×MS
section
variable {α β:Type}
def cx (x:α):DM α:=fun m=>(x,m)
def bZ (g:DM α) (k:α→DM β):DM β:=fun m=>k (g m).1 (g m).2
def gW (g:Nat→β→DM β) (b:β):Nat→DM β
 | 0=>cx b
 | k+1=>bZ (gW g b k) (g k)
end
def tp (s:List Int) (a:Nat) (n:Int):Int:=match s[a]? with
 | some x=>x % n
 | none=>0
def dr (s:List Int) (n:Int):DM Int:=fun m=>(tp s m.a n,{ m with a:=m.a+1 })
def IS:DM Unit:=fun m=>((),{ m with lo:=⟨m.lo.val - 1,Nat.lt_of_le_of_lt (Nat.sub_le ..) m.lo.isLt⟩ })
def gS (z:Fin 3):DM Unit:=fun m=>((),{ m with lo:=z })
def qH:DM Int:=fun m=>((m.lo.val:Int),m)
section
variable (s:List Int)
def GA (p:Nat):DM eH:=bZ (dr s 21) fun x=>bZ (dr s 21) fun y=>if p=0 then cx ⟨x * 50 - 100,y * 50 - 200,true⟩ else bZ (dr s 4) fun z=>cx ⟨x * 50 - 100,y * 50 - 200,decide (0 < z)⟩
def o4 (l:List eH) (k:Nat):DM (List eH):=gW (fun p l=>bZ (GA s p) fun t=>cx (l++[t])) l k
def i9 (n:Nat):DM (List eH×List Int):=gW (fun _ o=>bZ (dr s 4) fun k=>bZ (o4 s o.1 (2+k).toNat) fun l=>cx (l,o.2++[(l.length:Int) - 1])) ([],[]) n
def jx:DM (List eH×List Int):=bZ (dr s 3) fun n=>i9 s n.toNat
def gK (q:Int):DM (List eG):=cx [⟨39,0⟩,⟨1,16⟩,⟨17,0⟩,⟨36,2⟩,⟨1,q⟩,⟨2,0⟩]
def cA (n funcs:Int):DM (List eG):=bZ (dr s (n+1)) fun p=>bZ (dr s (n+1)) fun q=>bZ (dr s 2) fun a=>bZ (dr s 12) fun k=>
 if k=0 then cx [⟨22,a⟩,⟨23,a⟩]
 else if k=1 then bZ (dr s 6) fun z=>cx [⟨24,z⟩]
 else if k=2∨k=3 then cx [⟨1,p⟩,⟨1,p⟩,⟨29,0⟩,⟨15,0⟩,⟨32,0⟩]
 else if k=4 then bZ (dr s 200) fun z=>cx [⟨1,p⟩,⟨1,z - 100⟩,⟨31,0⟩]
 else if k=5 then cx [⟨1,p⟩,⟨1,q⟩,⟨33,0⟩]
 else if k=6 then cx [⟨34,a⟩]
 else if k=7 then cx [⟨1,a⟩,⟨1,q⟩,⟨25,0⟩,⟨1,3⟩,⟨5,0⟩,⟨26,0⟩]
 else if k=8 then (if 0 < funcs then bZ (dr s funcs) fun z=>cx [⟨37,z⟩] else gK q)
 else if k=9 then (if 0 < funcs then bZ qH fun lo=>if 0 < lo then bZ IS fun _=>bZ (dr s 5) fun y=>bZ (dr s funcs) fun z=>cx [⟨1,y⟩,⟨38,z⟩] else gK q else gK q)
 else if k=10 then cx [⟨1,p⟩,⟨30,0⟩,⟨1,q⟩,⟨29,0⟩,⟨16,0⟩,⟨36,3⟩,⟨1,q⟩,⟨1,64⟩,⟨31,0⟩]
 else gK q
def fD (n funcs:Int) (k:Nat):DM (List eG):=gW (fun _ l=>bZ (cA s n funcs) fun p=>cx (l++p)) [] k
def mL (n funcs most:Int):DM (List eG):=bZ (dr s most) fun k=>fD s n funcs k.toNat
def fm (a:Int) (k:Nat):DM (List Int):=gW (fun j l=>if l.length < 4 then bZ (dr s 3) fun z=>cx (if z=0 then l++[a+1+j] else l) else cx l) [a] k
def nc (n:Int):DM (List Int):=bZ (dr s n) fun a=>fm s a (n - (a+1)).toNat
def ia (n:Int) (k:Nat):DM (List (List Int)):=gW (fun _ l=>bZ (nc s n) fun x=>cx (l++[x])) [] k
def pf (n most:Int):DM (List (List Int)):=bZ (dr s (most+1)) fun k=>ia s n k.toNat
def g9 (n:Int) (k:Nat):DM (List Int):=gW (fun _ l=>bZ (dr s n) fun x=>cx (l++[x])) [] k
def ff (n:Int) (calls:List Int) (k:Nat):DM (List j9):=gW (fun _ l=>bZ (dr s n) fun a=>bZ (dr s calls.length) fun z=>cx (l++[⟨a,calls.getD z.toNat 0⟩])) [] k
def Gy (n:Int) (a:List Int):DM bz:=bZ (nc s n) fun b=>bZ (dr s 41) fun x=>cx ⟨[],[a,b],[],[],[],x * 10 - 200⟩
def j7 (n:Int):DM (List (List Int)×List (List Int)):=bZ (dr s 2) fun z=>if z=0 then bZ (pf s n 2) fun b=>bZ (pf s n 2) fun c=>cx (b,c) else cx ([],[])
def gx (n kind:Int) (calls:List Int):DM bz:=bZ (nc s n) fun a=>if kind=6 then Gy s n a else bZ (j7 s n) fun e=>
 if kind=1∨kind=5 then bZ (g9 s n a.length) fun o=>cx ⟨e.1,[a],e.2,o,[],0⟩
 else if kind=2 then bZ (dr s 4) fun k=>bZ (g9 s n k.toNat) fun o=>cx ⟨e.1,[a],e.2,o,[],0⟩
 else if kind=3 then bZ (pf s n 2) fun m=>bZ (dr s n) fun o=>cx ⟨e.1,a::m,e.2,[o],[],0⟩
 else bZ (pf s n 2) fun m=>bZ (dr s 3) fun k=>bZ (ff s (a::m).length calls (if calls.length=0 then 0 else k.toNat)) fun c=>cx ⟨e.1,a::m,e.2,[],c,0⟩
def fF:List Int:=[1,2,3,4,4,5,6,7,8,1]
def eo (k:Nat):DM (List b7×List Int):=gW (fun i o=>bZ (dr s 10) fun z=>bZ (dr s 3) fun y=>cx (o.1++[⟨fF.getD z.toNat 0,decide (y=0),[]⟩],if fF.getD z.toNat 0≤4 then o.2++[(i:Int)] else o.2)) ([],[]) k
def eY (n kind:Int) (calls:List Int) (k:Nat):DM (List bz):=gW (fun _ l=>bZ (gx s n kind calls) fun r=>cx (l++[r])) [] k
def fh (n:Int) (calls:List Int) (l:List b7) (k:Nat):DM (List b7):=gW (fun i l=>match l[i]? with
 | none=>cx l
 | some q=>if q.Kind≥7 then cx l else bZ (dr s 3) fun k=>bZ (eY s n q.Kind calls (1+k).toNat) fun rs=>cx (l.set i { q with Rules:=rs })) l k
def iF (n:Int):DM (List b7):=bZ (dr s 7) fun k=>bZ (eo s k.toNat) fun o=>fh s n o.2 o.1 k.toNat
def bytes (l:List UInt8):ByteArray:=⟨l.toArray⟩
def j4 (p:List UInt8) (n:Nat):ByteArray:=bytes (p++[(97+n).toUInt8])
def Km:List UInt8:=[103]
def uA:List UInt8:=[97,120]
def D8:ByteArray:=bytes [46,110,111,116,100,101,102]
def cH (n:Nat):ByteArray:=if n=0 then D8 else j4 Km n
def iJ (n:Nat):DM (List dL):=if 1 < n then bZ (dr s 4) fun z=>if z=0 then bZ (dr s 9) fun x=>bZ (dr s 5) fun y=>cx [⟨1,x * 50 - 200,y * 50⟩] else cx [] else cx []
def fV (cl:Int):List (Int×Int):=[(1,0),(1,1),(3,0),(4,0),(2,cl)]
def eS (mark:Bool) (cl:Int) (k:Nat):DM (List dA):=gW (fun i l=>bZ (dr s 3) fun z=>if z=0∧(((fV cl).getD i (0,0)).1≠2∨mark=true) then bZ (dr s 21) fun x=>bZ (dr s 21) fun y=>cx (l++[⟨((fV cl).getD i (0,0)).1,((fV cl).getD i (0,0)).2,x * 50,y * 50 - 200⟩]) else cx l) [] k
def hQ (r:Nat) (l:List dG) (k:Nat):DM (List dG):=gW (fun p l=>bZ (dr s 3) fun z=>if z=0 then bZ (dr s 41) fun x=>if p=0 then cx (l++[⟨r,-1,x - 20,0⟩]) else bZ (dr s 41) fun y=>cx (l++[⟨r,(p:Int) - 1,x - 20,y - 20⟩]) else cx l) l k
def gc (pts:Nat) (R:Nat):DM (List dG):=gW (fun r l=>hQ s r l (pts+1)) [] R
def jV (R fn n:Nat):DM bf:=bZ (dr s 19) fun ad=>bZ (dr s 4) fun mk=>bZ (jx s) fun o=>bZ (iJ s n) fun ps=>bZ (dr s 2) fun cl=>bZ (eS s (decide (mk=0) && decide (n≠0)) cl 5) fun an=>bZ (gc s o.1.length R) fun de=>bZ (gS 2) fun _=>bZ (mL s o.1.length fn 6) fun h=>cx ⟨cH n,100+ad * 50,decide (mk=0) && decide (n≠0),o.1,o.2,ps,an,de,h⟩
def gg (R fn k:Nat):DM (List bf):=gW (fun i l=>bZ (jV s R fn i) fun g=>cx (l++[g])) [] k
def kF (k:Nat):DM (List ey):=gW (fun i l=>bZ (dr s 3) fun a=>bZ (dr s 4) fun b=>cx (l++[⟨j4 uA i,0 - a * 100,0,b * 100⟩])) [] k
def ke:List f5:=[⟨0,64,64⟩,⟨0,32,64⟩,⟨-64,-64,0⟩,⟨-1,0,5⟩,⟨10,32,50⟩]
def hZ (k:Nat):DM (List f5):=gW (fun _ l=>bZ (dr s 5) fun z=>cx (l++[ke.getD z.toNat ⟨0,0,0⟩])) [] k
def kr (axes k:Nat):DM (List (List f5)):=gW (fun _ l=>bZ (hZ s axes) fun r=>cx (l++[r])) [] k
def fL (axes:Nat):DM (List (List f5)):=if axes=0 then cx [] else bZ (dr s 4) fun n=>kr s axes n.toNat
def iC (k:Nat):DM (List (List eG)):=gW (fun i l=>bZ (gS 0) fun _=>bZ (mL s 6 i 4) fun h=>cx (l++[h])) [] k
def qi (k:Nat):DM (List Int):=gW (fun _ l=>bZ (dr s 500) fun z=>cx (l++[z - 100])) [] k
def eP:List Int:=[97,98,99,102,105,108,57345,57346,57601,57602,57603,57857,57861,58113,58114,58369]
def gZ (n:Int) (k:Nat):DM (List cR):=gW (fun i l=>bZ (dr s 4) fun z=>if 0 < z then bZ (dr s n) fun g=>cx (l++[⟨eP.getD i 0,g⟩]) else cx l) [] k
def fG:List ByteArray:=[bytes [108,105,103,97],bytes [105,115,111,108],bytes [105,110,105,116],bytes [109,101,100,105],bytes [102,105,110,97],bytes [107,101,114,110],bytes [109,97,114,107],bytes [99,97,108,116]]
def nA (k:Nat):DM (List Int):=gW (fun i l=>bZ (dr s 3) fun z=>cx (if z=0 then l++[(i:Int)] else l)) [] k
def hY (n:Nat) (k:Nat):DM (List bN):=gW (fun i l=>bZ (nA s n) fun r=>bZ (dr s 2) fun z=>cx (if z=0 then l++[⟨fG.getD i ByteArray.empty,r⟩] else l)) [] k
def mj:List Int:=[1000,1024,100,2048]
def CH:DM aV:=bZ (dr s 4) fun u=>bZ (dr s 3) fun k=>bZ (kF s k.toNat) fun ax=>bZ (fL s k.toNat) fun rg=>bZ (dr s 3) fun k2=>bZ (iC s k2.toNat) fun fu=>bZ (dr s 4) fun k3=>bZ (qi s k3.toNat) fun cv=>bZ (dr s 9) fun k4=>bZ (gg s rg.length fu.length (2+k4).toNat) fun gl=>bZ (gZ s gl.length 16) fun ch=>bZ (iF s gl.length) fun lk=>bZ (hY s lk.length 8) fun ft=>cx ⟨mj.getD u.toNat 0,gl,ch,lk,ft,ax,rg,fu,cv⟩
def oH:aV:=(CH s ⟨0,0⟩).1
def sW:List Int:=eP++[122]
def fZ:List Int:=(s.take 20).map fun z=>sW.getD (z % 17).toNat 0
end
end Go.Proofs.YtamjlkdanllgjaaGreatDoor
namespace Go.Proofs.YtamjlkdanllgjaaGreatDoor
open Go.RowKit
attribute [local irreducible] AT bB AX AO Av Kt ba dt DA cz
set_option maxRecDepth 8000
def nR (l:List ByteArray) (s:ByteArray):Bool:=l.any fun t=>decide (t=s)
def Gh (f:aV) (n:Int):Bool:=match f.Lookups[n.toNat]? with
 | some l=>decide (0≤n∧(l.Kind=1∨l.Kind=2∨l.Kind=3∨l.Kind=4))
 | none=>false
set_option maxRecDepth 8000
def rh (l:List (List Int)):Nat:=(l.map fun q=>1+q.length).sum
def sR (r:bz):Nat:=r.Out.length+r.Calls.length+(rh r.Back+rh r.In+rh r.Ahead)
def md (l:List bz):Nat:=l.length+(l.map sR).sum
def nO (g:bf):Nat:=g.Points.length+g.Parts.length+g.Anchors.length+g.Deltas.length+g.Hint.length+g.Name.size / 100
def featN (t:bN):Nat:=t.Lookups.length+t.Name.size / 100
def fontN (f:aV):Nat:=f.Glyphs.length+f.Chars.length+f.Lookups.length+f.Features.length+f.Axes.length+f.Regions.length+f.Funcs.length+f.Cvt.length+(f.Glyphs.map nO).sum+(f.Lookups.map fun l=>md l.Rules).sum+(f.Funcs.map (·.length)).sum+(f.Features.map featN).sum+(f.Regions.map (·.length)).sum
def gQ (f:aV):Prop:=fontN f≤2000
theorem nf {α:Type} {g:α→Nat} {l:List α} {a:α} (h:a∈l):g a≤(l.map g).sum:=by
 induction l with
 | nil=>cases h
 | cons b l ih=>
  rw [Ln,List.sum_cons]
  rcases List.mem_cons.1 h with h | h
  ·subst h;omega
  ·have:=ih h;omega
theorem I5 {α:Type} {g k:α→Nat} {l:List α} (h:∀a∈l,g a≤k a):(l.map g).sum≤(l.map k).sum:=by
 induction l with
 | nil=>simp
 | cons b l ih=>
  rw [Ln,List.sum_cons,Ln,List.sum_cons]
  have:=ih fun a ha=>h a (Lq _ ha)
  have:=h b (List.mem_cons_self ..)
  omega
section
variable {f:aV} (hs:gQ f)
include hs
theorem gQ.glyphs:f.Glyphs.length≤2000:=by unfold gQ fontN at hs;omega
theorem gQ.chars:f.Chars.length≤2000:=by unfold gQ fontN at hs;omega
theorem gQ.lookups:f.Lookups.length≤2000:=by unfold gQ fontN at hs;omega
theorem gQ.features:f.Features.length≤2000:=by unfold gQ fontN at hs;omega
theorem gQ.feats:(f.Features.map (·.Lookups.length)).sum≤2000:=by
 have:=I5 (l:=f.Features) (g:=fun t=>t.Lookups.length) (k:=featN) fun a _=>by unfold featN;omega
 unfold gQ fontN at hs
 omega
theorem gQ.rules {l:b7} (h:l∈f.Lookups):md l.Rules≤2000:=by
 have:=nf (g:=fun l:b7=>md l.Rules) h
 unfold gQ fontN at hs
 omega
theorem gQ.rulesL {l:b7} (h:l∈f.Lookups):l.Rules.length≤2000:=by
 have:=hs.rules h
 unfold md at this
 omega
theorem gQ.rule {l:b7} {r:bz} (h:l∈f.Lookups) (hr:r∈l.Rules):sR r≤2000:=by
 have:=hs.rules h
 have:=nf (g:=sR) hr
 unfold md at *
 omega
end
inductive uk (f:aV) (fs:List ByteArray):Int→Prop
 | base {t:bN} {n:Int} (h:t∈f.Features) (hn:nR fs t.Name=true) (hm:n∈t.Lookups) (h0:0≤n) (h1:n < f.Lookups.length):uk f fs n
 | call {m:Int} {l:b7} {r:bz} {c:j9} (h:uk f fs m) (hl:f.Lookups[m.toNat]?=some l) (hk:l.Kind=4) (hr:r∈l.Rules) (hc:c∈r.Calls) (hn:Gh f c.Lookup=true):uk f fs c.Lookup
open Classical in
noncomputable def Ka (f:aV) (fs:List ByteArray):List Int:=((List.range f.Lookups.length).map Int.ofNat).filter fun z=>decide (uk f fs z)
theorem fK {l:List Int} {n:Nat} (h:l.Nodup) (hi:∀z∈l,0≤z∧z < n):l.length≤n:=by
 induction n generalizing l with
 | zero=>
  cases l with
  | nil=>exact Nat.zero_le _
  | cons a l=>have:=hi a (List.mem_cons_self ..);omega
 | succ n ih=>
  by_cases hm:(n:Int)∈l
  ·have h1:=ih (l:=l.erase n) (h.erase _) fun z hz=>by
    have:=(h.mem_erase_iff).1 hz
    have:=hi z this.2
    omega
   rw [List.length_erase_of_mem hm] at h1
   omega
  ·have:=ih h fun z hz=>by
    have:=hi z hz
    have:z≠n:=fun e=>hm (e▸hz)
    omega
   omega
end Go.Proofs.YtamjlkdanllgjaaGreatDoor
namespace Go.Proofs.YtamjlkdanllgjaaGreatDoor
open Go.RowKit
attribute [local irreducible] AT bB AX AO Av Kt ba dt DA cz
set_option maxRecDepth 8000
def JP (fs:List ByteArray) (l:List bN):List Int:=(l.map fun t=>if nR fs t.Name then t.Lookups else []).flatten
def CallsIn (f:aV) (l:List Int) (cs:List j9):Prop:=∀c∈cs,Gh f c.Lookup=true→c.Lookup∈l
def Eg (f:aV) (l:List Int) (rs:List bz):Prop:=∀r∈rs,CallsIn f l r.Calls
structure Kd (f:aV) (fs:List ByteArray) (l:List Int) (i:Nat):Prop where
 reach:∀z∈l,uk f fs z
 nodup:l.Nodup
 base:∀z∈JP fs f.Features,0≤z→z < f.Lookups.length→z∈l
 done:∀j < i,∀z,l[j]?=some z→∀x,f.Lookups[z.toNat]?=some x→x.Kind=4→Eg f l x.Rules
set_option maxRecDepth 8000
def Kl (l:List Int) (n:Nat):List AV:=(List.range n).map fun (i:Nat)=>cQ (l.contains (i:Int))
def Hh (n:Nat) (l:List Int) (z:Int):List Int:=if 0≤z∧z < n∧z∉l then l++[z] else l
def KE (n:Nat) (l ns:List Int):List Int:=ns.foldl (Hh n) l
structure Kg (n:Nat) (l:List Int):Prop where
 nodup:l.Nodup
 dom:∀z∈l,0≤z∧z < n
abbrev Ef (p:Nat):AV:= .sc (.pointer (some ⟨p,0,none⟩))
end Go.Proofs.YtamjlkdanllgjaaGreatDoor
