/-
  A lookup is copied: the walk.
-/
import Derived.Test.YtamjlkdanllgjaaGreatDoorM31
import Derived.Test.YtamjlkdanllgjaaGreatDoorM12
import Derived.Test.YtamjlkdanllgjaaGreatDoorM11
import Derived.Test.YtamjlkdanllgjaaGreatDoorM26
import Derived.Test.YtamjlkdanllgjaaGreatDoorM18
import Derived.Test.YtamjlkdanllgjaaGreatDoorM28
import Derived.Test.YtamjlkdanllgjaaGreatDoorM27
namespace Go.Proofs.YtamjlkdanllgjaaGreatDoor
open Go.RowKit
attribute [local irreducible] AT bB AX AO Av Kt ba dt DA cz
set_option maxRecDepth 8000
theorem C0 (l:List Int) (hl:l.length≤1000000):bH Tryz.prog 216 [.imm 1 (aO l)] (.imm 1 (aO l)):=by
 refine aP Tryz.func216 rfl Tryz.ntmps216 rfl fun B=>?_
 have hml:=aW l
 repeat' (first|refine ae ?_|refine a6 ?_|refine a8 ?_|refine aa ?_|refine LF a7 I9 ?_)
 refine tN a7 rfl rfl rfl rfl rfl fun b hb=>?_
 repeat' (first|refine a8 ?_|refine aa ?_)
 cases b with
 | true=>
  rw [hb rfl]
  repeat' (first|refine ae ?_|refine a6 ?_|refine aq ?_|refine a8 ?_|refine aC ?_|refine aa ?_|refine LF a7 I9 ?_|refine bV rfl ?_)
  refine b6 (bA (t:=2) (c':= .imm 1 []) rfl fun σ v h=>dJ 1 h) ?_
  exact LK LA
 | false=>
  repeat' (first|refine ae ?_|refine a6 ?_|refine au ?_|refine a8 ?_|refine LF a7 I9 ?_|refine vk (d:=5) a7 fun _=>?_|refine bk rfl ?_)
  refine bP a7 [] rfl rfl rfl rfl (Ll _) (by rw [hml];simp;omega) (by rw [hml];simp;omega) rfl fun k'=>?_
  repeat' (first|refine aq ?_|refine a8 ?_|refine aa ?_|refine LF a7 I9 ?_)
  refine b6 (bA (t:=2) (c':= .imm 1 (aO l)) rfl fun σ v h=>VR.im h) ?_
  refine dW (List.nil_sublist _) ?_
  exact LK LA
theorem Hm (l:List j9) (hl:l.length≤1000000):bH Tryz.prog 217 [.imm 2 (l.map fW)] (.imm 2 (l.map fW)):=by
 refine aP Tryz.func217 rfl Tryz.ntmps217 rfl fun B=>?_
 have hml:(l.map fW).length=l.length:=Lr ..
 repeat' (first|refine ae ?_|refine a6 ?_|refine a8 ?_|refine aa ?_|refine LF a7 I9 ?_)
 refine tN a7 rfl rfl rfl rfl rfl fun b hb=>?_
 repeat' (first|refine a8 ?_|refine aa ?_)
 cases b with
 | true=>
  rw [hb rfl]
  repeat' (first|refine ae ?_|refine a6 ?_|refine aq ?_|refine a8 ?_|refine aC ?_|refine aa ?_|refine LF a7 I9 ?_|refine bV rfl ?_)
  refine b6 (bA (t:=2) (c':= .imm 2 []) rfl fun σ v h=>dJ 2 h) ?_
  exact LK LA
 | false=>
  repeat' (first|refine ae ?_|refine a6 ?_|refine au ?_|refine a8 ?_|refine LF a7 I9 ?_|refine vk (d:=5) a7 fun _=>?_|refine bk rfl ?_)
  refine bP a7 [] rfl rfl rfl rfl (Ll _) (by rw [hml];simp;omega) (by rw [hml];simp;omega) rfl fun k'=>?_
  repeat' (first|refine aq ?_|refine a8 ?_|refine aa ?_|refine LF a7 I9 ?_)
  refine b6 (bA (t:=2) (c':= .imm 2 (l.map fW)) rfl fun σ v h=>VR.im h) ?_
  refine dW (List.nil_sublist _) ?_
  exact LK LA
abbrev eF:AV:= .sc (.slice none 0 0)
def ge {α:Type} (w:α→List AV) (z:List AV) (l:List α) (i:Nat):List (List AV):=(l.take i).map w++List.replicate (l.length - i) z
theorem qp {α:Type} {w:α→List AV} {z:List AV} {l:List α}:ge w z l 0=List.replicate l.length z:=by simp [ge]
theorem sg {α:Type} {w:α→List AV} {z:List AV} {l:List α}:ge w z l l.length=l.map w:=by simp [ge]
theorem sj {α:Type} {w:α→List AV} {z:List AV} {l:List α} {i:Nat} {x:α} (h:l[i]?=some x):(ge w z l i).set i (w x)=ge w z l (i+1):=by
 have hi:=(Lm h).1
 unfold ge
 rw [List.set_append,if_neg (by rw [Lr,List.length_take];omega),Lr,List.length_take,Nat.min_eq_left (by omega),Nat.sub_self,show l.length - i=(l.length - (i+1))+1 by omega,List.replicate_succ,List.set_cons_zero,List.take_add_one,h]
 simp
theorem sh {α:Type} {w:α→List AV} {z:List AV} {l:List α} {i:Nat} (hi:i≤l.length):(ge w z l i).length=l.length:=by
 unfold ge
 rw [List.length_append,Lr,List.length_take,List.length_replicate]
 omega
theorem nI {sz:Nat}:∀{l:List (List AV)} {i:Nat} {e:List AV},(∀q∈l,q.length=sz)→e.length=sz→i < l.length→eN l.flatten (i * sz) e=(l.set i e).flatten
 | [],_,_,_,_,h=>by simp at h
 | q::l,0,e,hs,he,_=>by
  have hq:=hs q (by simp)
  rw [List.set_cons_zero,List.flatten_cons,List.flatten_cons,Nat.zero_mul]
  apply List.ext_getElem?
  intro j
  rw [fp _ _ _ _ (by rw [List.length_append];omega)]
  by_cases hj:j < e.length
  ·rw [if_pos (by omega),Nat.sub_zero,List.getElem?_append_left hj]
  ·rw [if_neg (by omega),List.getElem?_append_right (by omega),List.getElem?_append_right (by omega),hq,he]
 | q::l,i+1,e,hs,he,h=>by
  have hq:=hs q (by simp)
  have ih:=nI (l:=l) (i:=i) (e:=e) (fun x hx=>hs x (by simp [hx])) he (by simpa using h)
  have hlen:i * sz+e.length≤l.flatten.length:=by
   have hl:l.flatten.length=l.length * sz:=fi l fun x hx=>hs x (by simp [hx])
   rw [hl,he]
   have:(i+1) * sz≤l.length * sz:=Nat.mul_le_mul_right _ (by simp at h;omega)
   rw [Nat.add_mul,Nat.one_mul] at this
   exact this
  rw [List.set_cons_succ,List.flatten_cons,List.flatten_cons,←ih]
  apply List.ext_getElem?
  intro j
  have e1:(i+1) * sz=i * sz+sz:=by rw [Nat.add_mul,Nat.one_mul]
  rw [fp _ _ _ _ (by rw [List.length_append];omega),e1]
  by_cases hj:j < sz
  ·rw [if_neg (by omega),List.getElem?_append_left (by omega),List.getElem?_append_left (by omega)]
  ·rw [List.getElem?_append_right (by omega),List.getElem?_append_right (by omega),fp _ _ _ _ hlen,hq]
   by_cases h2:i * sz≤j - sz∧j - sz < i * sz+e.length
   ·rw [if_pos h2,if_pos (by omega)]
    congr 1
    omega
   ·rw [if_neg h2,if_neg (by omega)]
set_option maxHeartbeats 4000000 in
theorem rJ (l:List (List Int)) (hl:l.length≤1000000) (hs:∀s∈l,s.length≤1000000):bH Tryz.prog 215 [.imm 1 (aZ l)] (.imm 1 (aZ l)):=by
 refine aP Tryz.func215 rfl Tryz.ntmps215 rfl fun B=>?_
 have hil:=cw l
 repeat' (first|refine ae ?_|refine a6 ?_|refine a8 ?_|refine aa ?_|refine LF a7 I9 ?_)
 refine ep a7 l.length rfl rfl rfl rfl rfl (by rw [hil]) (by rw [hil]) (by omega) (by omega) rfl fun rb=>?_
 repeat' (first|refine ae ?_|refine a6 ?_|refine am ?_|refine a8 ?_|refine aa ?_|refine LF a7 I9 ?_)
 refine aJ [3,9,10] (α:=Nat) (fun i=>[(11,aH i)]) (fun i=>i≤l.length) (fun i=>[(rb,.box (ge (fun s=>[AV.imm 1 (aO s)]) [eF] l i).flatten 22)]) (fun i=>l.length - i) 0 rfl ⟨rfl,trivial⟩ (Nat.zero_le _) (fun _ _ hh=>by rw [qp];exact hh) fun i hi=>?_
 try dsimp only [Lp,Lo,Ln,Lh]
 repeat' (first|refine ae ?_|refine a6 ?_|refine a8 ?_|refine aa ?_|refine LF a7 I9 ?_)
 refine ay rfl (fun h1=>?_) (fun h1=>?_)
 ·have hi2:i < l.length:=by have:=Ly h1;omega
  obtain ⟨s,hsi⟩:∃z,l[i]?=some z:=⟨_,Lz hi2⟩
  have hsg:=jC hsi
  haveI:=AD.mk (C0 s (hs s (Lv hsi)))
  have hsz:∀q∈ge (fun s=>[AV.imm 1 (aO s)]) [eF] l i,q.length=1:=by
   intro q hq
   unfold ge at hq
   rw [List.mem_append] at hq
   rcases hq with hq | hq
   ·obtain ⟨_,_,rfl⟩:=List.mem_map.1 hq;rfl
   ·rw [(List.mem_replicate.1 hq).2];rfl
  have hfl:=sh (w:=fun s=>[AV.imm 1 (aO s)]) (z:=[eF]) (l:=l) (i:=i) hi
  have hput:=nI (sz:=1) (l:=ge (fun s=>[AV.imm 1 (aO s)]) [eF] l i) (i:=i) (e:=[AV.imm 1 (aO s)]) hsz rfl (by omega)
  rw [sj hsi] at hput
  have hfll:(ge (fun s=>[AV.imm 1 (aO s)]) [eF] l i).flatten.length=l.length * 1:=by rw [fi _ hsz,hfl]
  clear h1
  repeat' (first|refine ae ?_|refine a6 ?_|refine am ?_|refine au ?_|refine a8 ?_|refine aa ?_|refine LF a7 I9 ?_|(apply aU;first|refine aT a7 ?_|refine aN a7 ?_)|(apply bw;refine bi ?_)|fail)
  refine ai a7 0 rfl rfl rfl rfl rfl rfl (Nat.ble_eq_true_of_le (by rw [hfll,Int.toNat_natCast];show 0+i * 1+1≤_;omega)) ?_
  repeat' (first|refine a6 ?_|refine a8 ?_|refine aM ?_|refine aa ?_|refine LF a7 I9 ?_|(apply aY;refine aX ?_)|fail)
  refine aE (i+1) rfl ⟨by rw [Ls];rfl,trivial⟩ hi2 (by omega) (fun _ _ hh=>?_)
  rw [←hput]
  rw [Int.toNat_natCast,Nat.zero_add] at hh
  exact hh
 ·have hi2:i=l.length:=by have:=Lw h1;omega
  subst hi2
  rw [sg]
  clear h1
  repeat' (first|refine ae ?_|refine a6 ?_|refine aq ?_|refine aL ?_|refine a8 ?_|refine av ?_|refine aA ?_|refine aw ?_|refine aa ?_|refine LF a7 I9 ?_)
  have hml:(l.map fun s=>[AV.imm 1 (aO s)]).flatten.length=l.length * 1:=by rw [fi _ (sz:=1) (fun q hq=>by obtain ⟨_,_,rfl⟩:=List.mem_map.1 hq;rfl),Lr]
  refine b6 (cW (t:=2) (sz:=1) (n:=l.length) (cap:=l.length) (l:=aZ l) 0 rfl rfl (by rw [List.take_of_length_le (by omega)];rfl) (by omega) (fun e he=>by unfold aZ at he;obtain ⟨_,_,rfl⟩:=List.mem_map.1 he;rfl) hil (Nat.le_refl _) (by unfold maxLen;omega)) ?_
  exact LK LA
def iY (r:bz):List AV:=[eF,.imm 1 (aZ r.In),eF,.imm 1 (aO r.Out),.imm 2 (r.Calls.map fW),aH r.X]
theorem E5 (r:bz):ld (iY r) (bG (rp r)):=⟨cF.nil 1,cF.refl _,cF.nil 1,cF.refl _,cF.refl _,cF.refl _,trivial⟩
theorem yP {α:Type} {a b:α→List AV} (h:∀x,ld (a x) (b x)):∀(l:List α),GW (l.map a) (l.map b)
 | []=>trivial
 | x::l=>⟨h x,yP h l⟩
structure G8 (r:bz):Prop where
 in_:r.In.length≤1000000∧∀s∈r.In,s.length≤1000000
 out:r.Out.length≤1000000
 calls:r.Calls.length≤1000000
set_option maxHeartbeats 8000000 in
theorem uH (l:b7) (hl:l.Rules.length≤1000000) (hr:∀r∈l.Rules,G8 r):bH Tryz.prog 137 [.agg (bv l)] (.agg (bv (kZ l))):=by
 refine aP Tryz.func137 rfl Tryz.ntmps137 rfl fun B=>?_
 have hml:(l.Rules.map bG).length=l.Rules.length:=Lr ..
 repeat' (first|refine ae ?_|refine a6 ?_|refine a8 ?_|refine aa ?_|refine LF a7 I9 ?_|refine bo ?_|refine bg a7 fun _=>?_|fail)
 refine ep a7 l.Rules.length rfl rfl rfl rfl rfl (by rw [hml]) (by rw [hml]) (by omega) (by omega) rfl fun rb=>?_
 repeat' (first|refine ae ?_|refine a6 ?_|refine am ?_|refine a8 ?_|refine aa ?_|refine LF a7 I9 ?_)
 rename_i r2
 refine aJ [1,2,3,11,12] (α:=Nat) (fun i=>[(13,aH i)]) (fun i=>i≤l.Rules.length) (fun i=>[(rb,.box (ge iY [eF,eF,eF,eF,eF,aH 0] l.Rules i).flatten 73),(r2,.box [aH 0,cQ false,eF] 76)]) (fun i=>l.Rules.length - i) 0 rfl ⟨rfl,trivial⟩ (Nat.zero_le _) (fun _ _ hh=>by rw [qp];exact hh) fun i hi=>?_
 try dsimp only [Lp,Lo,Ln,Lh]
 repeat' (first|refine ae ?_|refine a6 ?_|refine a8 ?_|refine aa ?_|refine LF a7 I9 ?_)
 refine ay rfl (fun h1=>?_) (fun h1=>?_)
 ·have hi2:i < l.Rules.length:=by have:=Ly h1;omega
  obtain ⟨r,hri⟩:∃z,l.Rules[i]?=some z:=⟨_,Lz hi2⟩
  have hrg:(l.Rules.map bG)[i]?=some (bG r):=by simp [hri]
  have hcr:=hr r (Lv hri)
  haveI:=AD.mk (rJ r.In hcr.in_.1 hcr.in_.2)
  haveI:=AD.mk (C0 r.Out hcr.out)
  haveI:=AD.mk (Hm r.Calls hcr.calls)
  have hsz:∀q∈ge iY [eF,eF,eF,eF,eF,aH 0] l.Rules i,q.length=6:=by
   intro q hq
   unfold ge at hq
   rw [List.mem_append] at hq
   rcases hq with hq | hq
   ·obtain ⟨_,_,rfl⟩:=List.mem_map.1 hq;rfl
   ·rw [(List.mem_replicate.1 hq).2];rfl
  have hfl:=sh (w:=iY) (z:=[eF,eF,eF,eF,eF,aH 0]) (l:=l.Rules) (i:=i) hi
  have hput:=nI (sz:=6) (l:=ge iY [eF,eF,eF,eF,eF,aH 0] l.Rules i) (i:=i) (e:=iY r) hsz rfl (by omega)
  rw [sj hri] at hput
  have hfll:(ge iY [eF,eF,eF,eF,eF,aH 0] l.Rules i).flatten.length=l.Rules.length * 6:=by rw [fi _ hsz,hfl]
  clear h1
  repeat' (first|refine ae ?_|refine a6 ?_|refine am ?_|refine au ?_|refine a8 ?_|refine aa ?_|refine LF a7 I9 ?_|(apply aU;first|refine aT a7 ?_|refine aN a7 ?_)|(apply aK;first|refine LH 5 a7 0 LE ?_|refine LH 5 a7 1 LE ?_|refine LH 5 a7 2 LE ?_|refine LG a7 0 LD ?_|refine LG a7 1 LD ?_|refine LG a7 2 LD ?_|refine LG a7 3 LD ?_|fail)|refine bg a7 fun _=>?_|fail)
  refine bI 14 [(0,.v),(1,.v),(2,.v),(3,.v),(4,.v),(5,.v),(6,.v),(7,.v),(8,.v),(9,.v),(10,.v),(11,.v),(12,.v),(13,.v)] none ?_ trivial rfl (by kernel_rfl) (by kernel_rfl) (by kernel_rfl) mixed (by kernel_rfl) rfl
  repeat' (first|refine aF ?_|refine b9 a7 ?_|(apply du;refine dT ?_)|fail)
  refine LP [1,2,3,11,12,13,18,19,31] I9 ?_
  repeat' (first|(apply aU;first|refine aT a7 ?_|refine aN a7 ?_)|fail)
  refine ai a7 0 rfl rfl rfl rfl rfl rfl (Nat.ble_eq_true_of_le (by rw [hfll,Int.toNat_natCast];show 0+i * 6+6≤_;omega)) ?_
  repeat' (first|refine a6 ?_|refine a8 ?_|refine aM ?_|refine aa ?_|refine LF a7 I9 ?_|(apply aY;refine aX ?_)|fail)
  refine aE (i+1) rfl ⟨by rw [Ls];rfl,trivial⟩ hi2 (by omega) (fun _ _ hh=>?_)
  rw [←hput]
  rw [Int.toNat_natCast,Nat.zero_add] at hh
  exact hh
 ·have hi2:i=l.Rules.length:=by have:=Lw h1;omega
  subst hi2
  rw [sg]
  clear h1
  have hsz:∀q∈l.Rules.map iY,q.length=6:=fun q hq=>by obtain ⟨_,_,rfl⟩:=List.mem_map.1 hq;rfl
  have hml2:(l.Rules.map iY).flatten.length=l.Rules.length * 6:=by rw [fi _ hsz,Lr]
  refine bK (cW (t:=3) (sz:=6) (n:=l.Rules.length) (cap:=l.Rules.length) (l:=l.Rules.map iY) 0 rfl rfl (by rw [List.take_of_length_le (by omega)]) (by omega) hsz (Lr ..) (Nat.le_refl _) (by unfold maxLen;omega)) ?_
  refine bK (bA (t:=3) (c':= .imm 6 ((kZ l).Rules.map bG)) rfl fun σ v h=>?_) ?_
  ·have e:(kZ l).Rules.map bG=l.Rules.map fun r=>bG (rp r):=by unfold kZ;rw [List.map_map];rfl
   rw [e]
   exact cF.imm (yP E5 l.Rules) σ v h
  repeat' (first|refine ae ?_|refine a6 ?_|refine aq ?_|refine aL ?_|refine a8 ?_|refine av ?_|refine aA ?_|refine aw ?_|refine aa ?_|refine LF a7 I9 ?_|(apply aK;first|refine LH 5 a7 0 LE ?_|refine LH 5 a7 1 LE ?_|refine LH 5 a7 2 LE ?_|refine LG a7 0 LD ?_|refine LG a7 1 LD ?_|refine LG a7 2 LD ?_|refine LG a7 3 LD ?_|fail))
  exact fP (cs:=[.agg (bv (kZ l))]) [] ⟨⟨_,0,_,_,rfl,rfl,.inr ⟨dR a7 rfl,rfl⟩⟩,trivial⟩ (List.nil_sublist _) rfl
set_option maxRecDepth 8000
structure Gc (f:aV):Prop where
 glyphs:0 < f.Glyphs.length∧f.Glyphs.length≤65536
 lookups:f.Lookups.length≤1000000
 look:∀l∈f.Lookups,xC f.Glyphs.length l
 rule:∀l∈f.Lookups,∀r∈l.Rules,G8 r
structure Ig (f:aV) (E:w6):Prop where
 ls:E.lks.map (·.l)=f.Lookups
 ms:E.ms=f.Glyphs.map bf.Mark
 auto:∀e∈E.lks,1≤e.l.Kind→e.l.Kind≤6→px e
def KF:Option kA→List AV
 | none=>[eF,eF,eF,eF,eF]
 | some a=>JQ a
def JC:kA:=⟨[],[],[],[],[]⟩
def J9 (l:b7) (a:Option kA) (j:Nat):List AV:=[aH l.Kind,cQ l.Ignore,.imm 6 ((kZ l).Rules.map bG)]++KF a++[aH (lE (l.Rules.take j)),aH (lC (l.Rules.take j))]
def Ai (l:b7) (a:kA) (j:Nat):List AV:=[aH l.Kind,cQ l.Ignore,.imm 6 ((kZ l).Rules.map bG),.imm 1 (aO a.cls),.imm 1 (aZ a.fore),.imm 1 (aZ a.back),.imm 1 (gu a.foreE),.imm 1 (gu a.backE),aH (lE (l.Rules.take j)),aH (lC (l.Rules.take j))]
theorem Dc (l:b7) (a:Option kA) (j:Nat):ld (J9 l a j) (Ai l (a.getD JC) j):=by
 cases a with
 | none=>exact ⟨cF.refl _,cF.refl _,cF.refl _,cF.nil 1,cF.nil 1,cF.nil 1,cF.nil 1,cF.nil 1,cF.refl _,cF.refl _,trivial⟩
 | some a=>exact ⟨cF.refl _,cF.refl _,cF.refl _,cF.refl _,cF.refl _,cF.refl _,cF.refl _,cF.refl _,cF.refl _,cF.refl _,trivial⟩
theorem Dd (l:b7) (a:kA):Ai l a l.Rules.length=iX (EK l a):=by
 unfold Ai
 rw [List.take_length]
 rfl
theorem wI {rs:List bz} {j:Nat} {r:bz} (h:rs[j]?=some r):lE (rs.take (j+1))=max (lE (rs.take j)) (r.In.length+r.Ahead.length)∧lC (rs.take (j+1))=max (lC (rs.take j)) r.Back.length:=by
 unfold lE lC
 rw [List.take_add_one,h]
 constructor <;> simp
theorem Cj {N:Nat} {rs:List bz} (h:∀r∈rs,uf N r) (j:Nat):lE (rs.take j)≤200∧lC (rs.take j)≤200:=⟨iz (by omega) fun r hr=>(h r (List.mem_of_mem_take hr)).long.2,iz (by omega) fun r hr=>(h r (List.mem_of_mem_take hr)).long.1⟩
theorem zh (l:List Bool) (b:Bool):rI l++[[cQ b]]=rI (l++[b]):=by simp [rI]
set_option maxHeartbeats 16000000 in
theorem HP (f:aV) (h:Gc f) (hck:AC Tryz.prog 60 [cD f] [] fun c _=>∃n:Int,c=cm (0,n)):AC Tryz.prog 61 [cD f] [] fun c _=>∃E,Ig f E∧c= .tup [.iptr (q9 E),aH 0]:=by
 refine aP Tryz.func61 rfl Tryz.ntmps61 rfl fun B=>?_
 have hgl:(f.Glyphs.map bj).length=f.Glyphs.length:=Lr ..
 have hll:(f.Lookups.map bv).length=f.Lookups.length:=Lr ..
 obtain ⟨hN0,hN⟩:=h.glyphs
 have hL:=h.lookups
 repeat' (first|refine ae ?_|refine a6 ?_|refine a8 ?_|refine aa ?_|refine LF a7 I9 ?_|refine bo ?_|fail)
 refine bh [] _ hck rfl rfl (Ll _) rfl fun c1 L1 ⟨n0,hc1⟩=>?_
 subst hc1
 refine aS (bX (List.sublist_append_right ..)) ?_
 unfold cm
 repeat' (first|refine ae ?_|refine a6 ?_|refine am ?_|refine au ?_|refine a8 ?_|refine aa ?_|refine LF a7 I9 ?_|refine vh (d:=25) fun _=>?_|refine bk rfl ?_)
 rename_i eb
 refine bK (bq 0 (cs':=[.vec none 10 [],.vec none 1 []]) rfl fun σ vs hh=>ld.vrs (a:=[eF,eF]) (b:=[.vec none 10 [],.vec none 1 []]) ⟨fun σ v h=>cC 10 h,fun σ v h=>cC 1 h,trivial⟩ hh) ?_
 refine aJ [1,6,27,28] (α:=List B8×Option (Nat×Nat)) (fun s=>[(29,aH s.1.length)]) (fun s=>s.1.length≤f.Lookups.length∧s.1.map (·.l)=f.Lookups.take s.1.length∧∀e∈s.1,1≤e.l.Kind→e.l.Kind≤6→px e) (fun s=>(eb,.box [.vec s.2 10 (s.1.map iX),.vec none 1 []] 237)::tok s.2 243 10 s.1.length) (fun s=>f.Lookups.length - s.1.length) ([],none) rfl ⟨rfl,trivial⟩ ⟨Nat.zero_le _,rfl,fun e he=>by cases he⟩ (fun _ _ hh=>hh) ?_
 rintro ⟨es,q⟩ ⟨hk,hes,hau⟩
 dsimp only at hk hes hau ⊢
 try dsimp only [Lp,Lo,Ln,Lh]
 repeat' (first|refine ae ?_|refine a6 ?_|refine a8 ?_|refine aa ?_|refine LF a7 I9 ?_)
 refine ay rfl (fun h1=>?_) (fun h1=>?_)
 ·have hk2:es.length < f.Lookups.length:=by have:=Ly h1;omega
  obtain ⟨l,hl⟩:∃z,f.Lookups[es.length]?=some z:=⟨_,Lz hk2⟩
  have hlg:(f.Lookups.map bv)[es.length]?=some (bv l):=by simp [hl]
  have hlm:=Lv hl
  have hbl:=h.look l hlm
  have hfew:=hbl.few
  haveI:=AD.mk (uH l (by omega) (h.rule l hlm))
  have hbu:=BV f es.length l hl hbl hN0 hN
  have hrl:(l.Rules.map bG).length=l.Rules.length:=Lr ..
  clear h1
  repeat' (first|refine ae ?_|refine a6 ?_|refine am ?_|refine au ?_|refine a8 ?_|refine aa ?_|refine LF a7 I9 ?_|(apply aU;first|refine aT a7 ?_|refine aN a7 ?_)|(apply aK;first|refine LH 8 a7 0 LE ?_|refine LH 8 a7 1 LE ?_|refine LH 8 a7 2 LE ?_|refine LH 10 a7 0 LE ?_|refine LH 10 a7 1 LE ?_|refine LH 10 a7 2 LE ?_|refine LH 13 a7 0 LE ?_|refine LH 13 a7 1 LE ?_|refine LH 13 a7 2 LE ?_|refine LH 15 a7 0 LE ?_|refine LH 15 a7 1 LE ?_|refine LH 15 a7 2 LE ?_|refine LG a7 0 LD ?_|refine LG a7 1 LD ?_|refine LG a7 2 LD ?_|refine LG a7 3 LD ?_|fail)|refine bg a7 fun _=>?_|(apply bw;refine bi ?_)|fail)
  rename_i ob
  refine te (α:=Option kA) [1,6,8,9,27,28,29] (fun _=>[(1,.iptr (c6 f)),(6,iO eb),(8,.iptr (bv l)),(9,iO ob),(27,.imm 3 (f.Lookups.map bv)),(28,.sc (.int .i64 ((f.Lookups.map bv).length:Int))),(29,aH es.length)]) (fun a=>(ob,.box (J9 l a 0) 243)::(eb,.box [.vec q 10 (es.map iX),.vec none 1 []] 237)::tok q 243 10 es.length) (fun a=>1≤l.Kind→l.Kind≤6→∃a',a=some a'∧xD f.Glyphs.length l.Rules a') (fun Q' K=>?_) (fun a ha=>?_)
  ·refine ay rfl (fun h1=>?_) (fun h1=>?_)
   ·repeat' (first|refine ae ?_|refine a6 ?_|refine LF a7 I9 ?_)
    refine bh [] _ hbu rfl rfl (Ll _) rfl fun c1 L1 ⟨a,ha,hc1⟩=>?_
    subst hc1
    refine aS (bX (List.sublist_append_right ..)) ?_
    repeat' (first|refine ae ?_|refine a6 ?_|refine au ?_|refine a8 ?_|refine aa ?_|refine LF a7 I9 ?_|(apply aK;first|refine LH 8 a7 0 LE ?_|refine LH 8 a7 1 LE ?_|refine LH 8 a7 2 LE ?_|refine LH 10 a7 0 LE ?_|refine LH 10 a7 1 LE ?_|refine LH 10 a7 2 LE ?_|refine LH 13 a7 0 LE ?_|refine LH 13 a7 1 LE ?_|refine LH 13 a7 2 LE ?_|refine LH 15 a7 0 LE ?_|refine LH 15 a7 1 LE ?_|refine LH 15 a7 2 LE ?_|refine LG a7 0 LD ?_|refine LG a7 1 LD ?_|refine LG a7 2 LD ?_|refine LG a7 3 LD ?_|fail)|refine bg a7 fun _=>?_|refine bk rfl ?_)
    exact K (some a) _ (fun _ _=>⟨a,rfl,ha⟩) rfl
   ·repeat' (first|refine au ?_)
    exact K none _ (fun h1' h6=>absurd (Lw h1) (fun hn=>hn ⟨h1',h6⟩)) rfl
  ·have hA:1≤l.Kind→l.Kind≤6→xD f.Glyphs.length l.Rules (a.getD JC):=fun h1 h6=>by
    obtain ⟨a',rfl,hb⟩:=ha h1 h6
    exact hb
   refine bK (bq 0 (cs':=Ai l (a.getD JC) 0) rfl fun σ vs hh=>(Dc l a 0).vrs hh) ?_
   generalize a.getD JC=A at hA
   clear ha
   repeat' (first|refine ae ?_|refine a6 ?_|refine am ?_|refine a8 ?_|refine aa ?_|refine LF a7 I9 ?_)
   refine aJ [1,6,9,27,28,29,52,53] (α:=Nat) (fun j=>[(54,aH j)]) (fun j=>j≤l.Rules.length) (fun j=>(ob,.box (Ai l A j) 243)::(eb,.box [.vec q 10 (es.map iX),.vec none 1 []] 237)::tok q 243 10 es.length) (fun j=>l.Rules.length - j) 0 rfl ⟨rfl,trivial⟩ (Nat.zero_le _) (fun _ _ hh=>hh) fun j hj=>?_
   try dsimp only [Lp,Lo,Ln,Lh]
   repeat' (first|refine ae ?_|refine a6 ?_|refine a8 ?_|refine aa ?_|refine LF a7 I9 ?_)
   refine ay rfl (fun h1=>?_) (fun h1=>?_)
   ·have hj2:j < l.Rules.length:=by have:=Ly h1;omega
    obtain ⟨r,hr⟩:∃z,l.Rules[j]?=some z:=⟨_,Lz hj2⟩
    have hrg:(l.Rules.map bG)[j]?=some (bG r):=by simp [hr]
    have hlong:=(hbl.rule r (Lv hr)).long
    have hl1:=cw r.In
    have hl2:=cw r.Ahead
    have hl3:=cw r.Back
    obtain ⟨hfb,hbb⟩:=Cj hbl.rule j
    obtain ⟨hfs,hbs⟩:=wI hr
    clear h1
    repeat' (first|refine ae ?_|refine a6 ?_|refine am ?_|refine au ?_|refine a8 ?_|refine aM ?_|refine aa ?_|refine LF a7 I9 ?_|(apply bL;first|refine LI a7 0 LC ?_|refine LI a7 1 LC ?_|refine LI a7 2 LC ?_|refine LI a7 3 LC ?_|refine LJ a7 0 LC ?_|refine LJ a7 1 LC ?_|refine LJ a7 2 LC ?_|refine LL a7 1 LA (by assumption) rfl ?_|refine LL a7 0 LA (by assumption) rfl ?_|fail)|(apply aY;refine aX ?_)|(apply aU;first|refine aT a7 ?_|refine aN a7 ?_)|(apply aK;first|refine LH 8 a7 0 LE ?_|refine LH 8 a7 1 LE ?_|refine LH 8 a7 2 LE ?_|refine LH 10 a7 0 LE ?_|refine LH 10 a7 1 LE ?_|refine LH 10 a7 2 LE ?_|refine LH 13 a7 0 LE ?_|refine LH 13 a7 1 LE ?_|refine LH 13 a7 2 LE ?_|refine LH 15 a7 0 LE ?_|refine LH 15 a7 1 LE ?_|refine LH 15 a7 2 LE ?_|refine LG a7 0 LD ?_|refine LG a7 1 LD ?_|refine LG a7 2 LD ?_|refine LG a7 3 LD ?_|fail)|refine bg a7 fun _=>?_|fail)
    refine aE (j+1) rfl ⟨by rw [Ls];rfl,trivial⟩ hj2 (by omega) (fun _ _ hh=>?_)
    have e1:((max (lE (l.Rules.take j)) (r.In.length+r.Ahead.length):Nat):Int)=max ((lE (l.Rules.take j):Nat):Int) (((aZ r.In).length:Int)+((aZ r.Ahead).length:Int)):=by omega
    have e2:((max (lC (l.Rules.take j)) r.Back.length:Nat):Int)=max ((lC (l.Rules.take j):Nat):Int) ((aZ r.Back).length:Int):=by omega
    unfold Ai
    rw [hfs,hbs,e1,e2]
    exact hh
   ·have hj2:j=l.Rules.length:=by have:=Lw h1;omega
    subst hj2
    rw [Dd]
    clear h1
    have hel:(es.map iX).length=es.length:=Lr ..
    have hsn:es.map iX++[iX (EK l A)]=(es++[EK l A]).map iX:=by rw [List.map_append];rfl
    repeat' (first|refine aL ?_|refine a8 ?_|refine av ?_|refine aA ?_|refine aw ?_)
    refine bI 8 [(0,.v),(1,.v),(2,.v),(3,.v),(4,.l),(5,.l),(6,.v),(7,.e)] none ?_ trivial rfl (by kernel_rfl) (by kernel_rfl) (by kernel_rfl) mixed (by kernel_rfl) rfl
    repeat' (first|refine aF ?_|refine b9 a7 ?_|refine dX a7 ?_|refine cS a7 1 rfl rfl rfl rfl (by first|trivial|rfl) ?_|refine pk a7 0 rfl rfl rfl rfl (by first|trivial|rfl) ?_)
    refine fg a7 [(ob,.box (iX (EK l A)) 243),(eb,.box [.vec q 10 (es.map iX),.vec none 1 []] 237)] rfl rfl rfl rfl (by rw [hel];exact List.perm_append_comm (l₁:=[_,_])) (by rw [hel];simp;omega) (by rw [hel];simp;omega) trivial fun q'=>?_
    repeat' (first|fail)
    refine LP [1,6,27,28,29,77,84] I9 ?_
    refine aS (aR (L':=(ob,.box (iX (EK l A)) 243)::(eb,.box [.vec q 10 (es.map iX),.vec none 1 []] 237)::tok q' 243 10 (es.map iX++[iX (EK l A)]).length) (List.perm_append_comm (l₂:=[_,_]))) ?_
    repeat' (first|refine a6 ?_|refine a8 ?_|refine aM ?_|refine aa ?_|refine LF a7 I9 ?_|(apply aY;refine aX ?_)|(apply aK;first|refine LH 8 a7 0 LE ?_|refine LH 8 a7 1 LE ?_|refine LH 8 a7 2 LE ?_|refine LH 10 a7 0 LE ?_|refine LH 10 a7 1 LE ?_|refine LH 10 a7 2 LE ?_|refine LH 13 a7 0 LE ?_|refine LH 13 a7 1 LE ?_|refine LH 13 a7 2 LE ?_|refine LH 15 a7 0 LE ?_|refine LH 15 a7 1 LE ?_|refine LH 15 a7 2 LE ?_|refine LG a7 0 LD ?_|refine LG a7 1 LD ?_|refine LG a7 2 LD ?_|refine LG a7 3 LD ?_|fail))
    have hll2:(es++[EK l A]).length=es.length+1:=by simp
    refine aE (es++[EK l A],q') rfl ⟨by dsimp only;rw [hll2,Ls];rfl,trivial⟩ ⟨by dsimp only;omega,?_,?_⟩ (by dsimp only;omega) (fun σ w hh=>?_)
    ·dsimp only
     rw [List.map_append,hes,hll2,List.take_add_one,hl]
     rfl
    ·intro e he h1 h6
     rw [List.mem_append,List.mem_singleton] at he
     rcases he with he | rfl
     ·exact hau e he h1 h6
     ·exact Ew hbl (hA h1 h6)
    ·have h2:=hh.sublist (List.sublist_cons_self ..)
     rw [hsn,Lr] at h2
     dsimp only
     rw [←hsn]
     exact h2
 ·have hk2:es.length=f.Lookups.length:=by have:=Lw h1;omega
  rw [hk2,List.take_length] at hes
  clear h1
  repeat' (first|refine ae ?_|refine a6 ?_|refine am ?_|refine aL ?_|refine a8 ?_|refine av ?_|refine aA ?_|refine aw ?_|refine aa ?_|refine LF a7 I9 ?_)
  refine aJ [6,89,90] (α:=Nat×Option (Nat×Nat)) (fun s=>[(91,aH s.1)]) (fun s=>s.1≤f.Glyphs.length) (fun s=>(eb,.box [.vec q 10 (es.map iX),.vec s.2 1 (rI ((f.Glyphs.map bf.Mark).take s.1))] 237)::(tok q 243 10 es.length++tok s.2 4 1 s.1)) (fun s=>f.Glyphs.length - s.1) (0,none) rfl ⟨rfl,trivial⟩ (Nat.zero_le _) (fun σ w hh=>by show cZ B σ ((eb,.box [.vec q 10 (es.map iX),.vec none 1 []] 237)::(tok q 243 10 es.length++[])) w;rw [List.append_nil];exact hh) ?_
  rintro ⟨k,q2⟩ hk3
  dsimp only at hk3 ⊢
  try dsimp only [Lp,Lo,Ln,Lh]
  repeat' (first|refine ae ?_|refine a6 ?_|refine a8 ?_|refine aa ?_|refine LF a7 I9 ?_)
  refine ay rfl (fun h1=>?_) (fun h1=>?_)
  ·have hk4:k < f.Glyphs.length:=by have:=Ly h1;omega
   obtain ⟨g,hg⟩:∃z,f.Glyphs[k]?=some z:=⟨_,Lz hk4⟩
   have hgg:(f.Glyphs.map bj)[k]?=some (bj g):=by simp [hg]
   have hbl:(rI ((f.Glyphs.map bf.Mark).take k)).length=k:=by rw [BU,List.length_take,Lr];omega
   have hbs:(f.Glyphs.map bf.Mark).take (k+1)=(f.Glyphs.map bf.Mark).take k++[g.Mark]:=by rw [List.take_add_one,List.getElem?_map,hg];rfl
   have hsn:=zh ((f.Glyphs.map bf.Mark).take k) g.Mark
   rw [←hbs] at hsn
   generalize rI ((f.Glyphs.map bf.Mark).take k)=bl at *
   clear h1
   repeat' (first|refine ae ?_|refine a6 ?_|refine am ?_|refine au ?_|refine a8 ?_|refine aa ?_|refine LF a7 I9 ?_|(apply aU;first|refine aT a7 ?_|refine aN a7 ?_)|(apply aK;first|refine LH 8 a7 0 LE ?_|refine LH 8 a7 1 LE ?_|refine LH 8 a7 2 LE ?_|refine LH 10 a7 0 LE ?_|refine LH 10 a7 1 LE ?_|refine LH 10 a7 2 LE ?_|refine LH 13 a7 0 LE ?_|refine LH 13 a7 1 LE ?_|refine LH 13 a7 2 LE ?_|refine LH 15 a7 0 LE ?_|refine LH 15 a7 1 LE ?_|refine LH 15 a7 2 LE ?_|refine LG a7 0 LD ?_|refine LG a7 1 LD ?_|refine LG a7 2 LD ?_|refine LG a7 3 LD ?_|fail)|refine bg a7 fun _=>?_|fail)
   refine bI 9 [(0,.v),(1,.v),(2,.v),(3,.v),(4,.l),(5,.v),(6,.v),(7,.v),(8,.e)] none ?_ trivial rfl (by kernel_rfl) (by kernel_rfl) (by kernel_rfl) mixed (by kernel_rfl) rfl
   repeat' (first|refine aF ?_|refine b9 a7 ?_|refine dX a7 ?_|refine cS a7 0 rfl rfl rfl rfl (by first|trivial|rfl) ?_)
   refine fg a7 ((eb,.box [.vec q 10 (es.map iX),.vec q2 1 bl] 237)::tok q 243 10 es.length) rfl rfl rfl rfl (by rw [hbl];exact (List.perm_append_comm (l₁:=_::tok q 243 10 es.length))) (by rw [hbl];simp;omega) (by rw [hbl];simp;omega) trivial fun q'=>?_
   repeat' (first|fail)
   refine LP [6,89,90,91,95,103] I9 ?_
   refine aS (aR (L':=(eb,.box [.vec q 10 (es.map iX),.vec q2 1 bl] 237)::(tok q 243 10 es.length++tok q' 4 1 (k+1))) (by rw [List.length_append,hbl];exact (List.perm_append_comm (l₂:=_::tok q 243 10 es.length)))) ?_
   repeat' (first|refine a6 ?_|refine a8 ?_|refine aM ?_|refine aa ?_|refine LF a7 I9 ?_|(apply aY;refine aX ?_)|(apply aK;first|refine LH 8 a7 0 LE ?_|refine LH 8 a7 1 LE ?_|refine LH 8 a7 2 LE ?_|refine LH 10 a7 0 LE ?_|refine LH 10 a7 1 LE ?_|refine LH 10 a7 2 LE ?_|refine LH 13 a7 0 LE ?_|refine LH 13 a7 1 LE ?_|refine LH 13 a7 2 LE ?_|refine LH 15 a7 0 LE ?_|refine LH 15 a7 1 LE ?_|refine LH 15 a7 2 LE ?_|refine LG a7 0 LD ?_|refine LG a7 1 LD ?_|refine LG a7 2 LD ?_|refine LG a7 3 LD ?_|fail))
   exact aE (k+1,q') rfl ⟨by rw [Ls];rfl,trivial⟩ hk4 (by dsimp only;omega) (fun _ _ hh=>by dsimp only;rw [←hsn];exact hh)
  ·have hk4:k=f.Glyphs.length:=by have:=Lw h1;omega
   subst hk4
   rw [List.take_of_length_le (by rw [Lr];exact Nat.le_refl _)]
   clear h1
   repeat' (first|refine ae ?_|refine a6 ?_|refine aq ?_|refine aL ?_|refine a8 ?_|refine av ?_|refine aA ?_|refine aw ?_|refine aa ?_|refine LF a7 I9 ?_)
   refine b6 (bq 0 (cs':=q9 ⟨es,f.Glyphs.map bf.Mark⟩) rfl fun σ vs hh=>ld.vrs (a:=[.vec q 10 (es.map iX),.vec q2 1 (rI (f.Glyphs.map bf.Mark))]) (b:=q9 ⟨es,f.Glyphs.map bf.Mark⟩) ⟨fun σ v h=>VR.im h,fun σ v h=>VR.im h,trivial⟩ hh) ?_
   refine b6 (vX (t:=2) (cs:=q9 ⟨es,f.Glyphs.map bf.Mark⟩) 0 rfl rfl rfl) ?_
   refine dW (List.nil_sublist _) ?_
   exact LQ LA ⟨⟨es,f.Glyphs.map bf.Mark⟩,⟨hes,rfl,hau⟩,rfl⟩
set_option maxRecDepth 8000
def sF:Nat→List Int→List bn
 | _,[]=>[]
 | i,g::l=>⟨g,i,0,0,0,0⟩::sF (i+1) l
def nS (l:List Int):List bn:=sF 0 l
def nZ:List Bool:=[false,false,false,false,true]
def IX (ig:Bool):List b7:=[⟨3,ig,[⟨[],[[0],[1]],[],[2],[],0⟩]⟩]
def tI (a b c:Nat):List Int:=List.replicate a 4++0::(List.replicate b 4++1::List.replicate c 4)
def ve (a b c:Nat) (ig:Bool):List Int:=if 0 < b∧ig=false then tI a b c else List.replicate a 4++2::(List.replicate b 4++List.replicate c 4)
def CK (a b c:Nat) (ig:Bool):Bool:=
 let out:=nz nZ (IX ig) 0 (nS (tI a b c)) []
 (out.map bn.Glyph==ve a b c ig) && (decide ((ve a b c ig).length=(tI a b c).length) || (match out[a]? with | some x=>decide (x.Cluster=a) | none=>false))
def JB:Bool:=(List.range 8).all fun a=>(List.range 8).all fun b=>(List.range 8).all fun c=>CK a b c true && CK a b c false
def Ji:bz:=⟨[],[[0]],[[1]],[1],[],0⟩
def FA:List b7:=[⟨5,false,[Ji]⟩,⟨1,false,[Ji]⟩]
def Dq (n:Nat):List Int:=List.replicate n 0++[1]
def HW (n:Nat):List Int:=(List.range (n+1)).map fun (k:Nat)=>if (n:Int) - 1≤(k:Int) then (1:Int) else 0
def KO (n:Nat):Bool:=((nz nZ FA 0 (nS (Dq n)) []).map bn.Glyph==List.replicate (n+1) 1) && ((nz nZ FA 1 (nS (Dq n)) []).map bn.Glyph==HW n)
def IE (k:Nat):List b7:=[⟨4,false,[⟨[],[[0]],[],[],[⟨0,1⟩,⟨0,2⟩,⟨0,0⟩],0⟩]⟩,⟨1,false,[⟨[],[[0]],[],[2],[],0⟩]⟩,⟨2,false,[⟨[],[[2]],[],List.replicate k 1,[],0⟩]⟩]
def Kk (n k:Nat):Bool:=
 let out:=nz nZ (IE k) 0 (nS (List.replicate n 0)) []
 if k=0 then decide (out.length < n) else out.map bn.Glyph==List.replicate (n * k) 1
set_option maxRecDepth 8000
def J6 (c:UInt8) (m:Bool):bf:=⟨⟨#[c]⟩,0,m,[],[],[],[],[],[]⟩
def HS:List bf:=[J6 97 false,J6 98 false,J6 99 false,J6 100 false,J6 109 true]
def HR (ls:List b7):aV:=⟨1000,HS,[],ls,[],[],[],[],[]⟩
def Ky:List b7:=[⟨3,false,[⟨[],[[0],[1]],[],[2],[],0⟩]⟩,⟨1,false,[⟨[],[[2]],[],[3],[],0⟩]⟩]
def HD (ls:List b7):Bool:=decide ((cg 40 ls (iT (HR ls))).1=0)
set_option maxRecDepth 8000
theorem zJ {f:aV} (hr:(iA f).1=0) (ha:kv f.Glyphs.length (prt f)):AC Tryz.prog 60 [cD f] [] fun c _=>∃n:Int,c=cm (0,n):=
 AC.mono (yb f fun _=>ha) fun c L hc=>⟨(iA f).2,by rw [hc,←hr]⟩
def I2 (N:Nat) (s:List Int):Bool:=decide (s.Pairwise (· < ·)) && s.all fun g=>decide (0≤g) && decide (g < (N:Int))
def Jl (N:Nat) (r:bz):Bool:=r.Back.all (I2 N) && (r.In.all (I2 N) && (r.Ahead.all (I2 N) && (decide (r.Back.length≤200) && (decide (r.In.length+r.Ahead.length≤200) && (decide (r.Out.length≤1000000) && (decide (r.Calls.length≤1000000) && r.Calls.all fun c=>decide (0≤c.At) && decide (c.At≤1000000)))))))
def IU (N:Nat) (l:b7):Bool:=decide (l.Rules.length≤6) && l.Rules.all (Jl N)
structure Ij (N:Nat) (r:bz):Prop where
 b:uf N r
 out:r.Out.length≤1000000
 calls:r.Calls.length≤1000000
 at_:∀c∈r.Calls,0≤c.At∧c.At≤1000000
structure pA (f:aV):Prop where
 glyphs:0 < f.Glyphs.length∧f.Glyphs.length≤65536
 lookups:f.Lookups.length≤1000000
 few:∀l∈f.Lookups,l.Rules.length≤6
 rule:∀l∈f.Lookups,∀r∈l.Rules,Ij f.Glyphs.length r
theorem pA.new {f:aV} (h:pA f):Gc f:=by
 refine ⟨h.glyphs,h.lookups,fun l hl=>⟨h.few l hl,fun r hr=>(h.rule l hl r hr).b⟩,fun l hl r hr=>?_⟩
 have hb:=h.rule l hl r hr
 have hg:=h.glyphs.2
 exact ⟨⟨by have:=hb.b.long;omega,fun s hs=>by have:=fK (gV (hb.b.in_ s hs).1) (hb.b.in_ s hs).2;omega⟩,hb.out,hb.calls⟩
theorem pA.eng {f:aV} (h:pA f) {E:w6} (hE:Ig f E):pz E:=⟨hE.auto,fun e he r hr hin=>by
 have hl:e.l∈f.Lookups:=by rw [←hE.ls];exact List.mem_map.2 ⟨e,he,rfl⟩
 have hb:=h.rule e.l hl r hr
 exact ⟨hin,hb.out,hb.calls,hb.at_⟩⟩
theorem HQ {f:aV} (h:pA f) (hr:(iA f).1=0) (ha:kv f.Glyphs.length (prt f)):AC Tryz.prog 61 [cD f] [] fun c _=>∃E,pz E∧E.ls=f.Lookups∧E.ms=f.Glyphs.map bf.Mark∧c= .tup [.iptr (q9 E),aH 0]:=
 AC.mono (HP f h.new (zJ hr ha)) fun c L ⟨E,hE,hc⟩=>⟨E,h.eng hE,hE.ls,hE.ms,hc⟩
set_option maxRecDepth 8000
noncomputable def p8 (f:aV) (rs place:List Int):Int:=if (iA f).1≠0 then (iA f).1 else if 500 < rs.length then 2 else if place≠[] then 1 else 0
def JN (f:aV) (v:AV) (L:AL):Prop:=∃E sb,pz E∧E.ls=f.Lookups∧E.ms=f.Glyphs.map bf.Mark∧v=iO sb∧L=[(sb,w4 f f (.fnB 62 [.iptr (q9 E)] []))]
structure Jw (f:aV):Prop where
 ac:kv f.Glyphs.length (prt f)
 sm:(iA f).1=0→Eb f
 nn:(iA f).1=0→pA f
set_option maxHeartbeats 4000000 in
theorem BS (f:aV) (hf:Jw f) (rs place:List Int):AC Tryz.prog 37 [cD f,.imm 1 (aO rs),.imm 1 (aO place)] [] fun c L=>(p8 f rs place≠0∧c= .tup [J5,aH (p8 f rs place)]∧L=[])∨(p8 f rs place=0∧∃v,JN f v L∧c= .tup [v,aH 0]):=by
 refine aP Tryz.func37 rfl Tryz.ntmps37 rfl fun B=>?_
 have hck:=yb f fun _=>hf.ac
 have hil:=aW rs
 unfold p8
 repeat' (first|refine ae ?_|refine a6 ?_|refine a8 ?_|refine aa ?_|refine LF a7 I9 ?_|refine bo ?_|fail)
 refine bh [] [] hck rfl rfl (Ll _) rfl fun c L1 hc=>?_
 subst hc
 unfold cm
 repeat' (first|refine ae ?_|refine a6 ?_|refine a8 ?_|refine aa ?_|refine LF a7 I9 ?_)
 refine xQ (List.nil_sublist _) ?_
 refine ay rfl (fun h=>?_) (fun h=>?_)
 ·have h1:(iA f).1≠0:=Ly h
  rw [if_pos h1]
  clear h
  repeat' (first|refine ae ?_|refine a6 ?_|refine aq ?_|refine a8 ?_|refine aC ?_|refine aa ?_|refine LF a7 I9 ?_)
  exact LQ LA (.inl ⟨h1,rfl,rfl⟩)
 have h1:(iA f).1=0:=Decidable.not_not.1 (Lw h)
 rw [if_neg (by rw [h1];simp)]
 clear h
 have hnew:=HQ (hf.nn h1) h1 hf.ac
 have hv:=Ht f (hf.sm h1) place
 repeat' (first|refine ae ?_|refine a6 ?_|refine au ?_|refine a8 ?_|refine aa ?_|refine LF a7 I9 ?_)
 rw [hil]
 refine ay rfl (fun h=>?_) (fun h=>?_)
 ·have h2:500 < rs.length:=by have:=Ly h;omega
  rw [if_pos h2]
  clear h
  repeat' (first|refine ae ?_|refine a6 ?_|refine aq ?_|refine a8 ?_|refine aC ?_|refine aa ?_|refine LF a7 I9 ?_)
  exact LQ LA (.inl ⟨by simp,rfl,rfl⟩)
 have h2:¬500 < rs.length:=by have:=Lw h;omega
 rw [if_neg h2]
 clear h
 by_cases h3:place=[]
 ·rw [if_neg (show ¬(place≠[]) from fun e=>e h3)]
  simp only [if_pos h3] at hv
  haveI:=AD.mk hv
  repeat' (first|refine ae ?_|refine a6 ?_|refine au ?_|refine a8 ?_|refine aa ?_|refine LF a7 I9 ?_|(apply aK;first|refine LH 10 a7 0 LE ?_|refine LH 10 a7 1 LE ?_|refine LH 10 a7 2 LE ?_|refine LG a7 0 LD ?_|refine LG a7 1 LD ?_|refine LG a7 2 LD ?_|refine LG a7 3 LD ?_|fail)|refine bg a7 fun _=>?_|(apply bw;refine bi ?_)|refine bk rfl ?_)
  refine bh [] [] hnew rfl rfl (Ll _) rfl fun c L1 ⟨E,hE1,hE2,hE3,hc⟩=>?_
  subst hc
  refine aS (bX (List.nil_sublist _)) ?_
  repeat' (first|refine ae ?_|refine a6 ?_|refine au ?_|refine aq ?_|refine a8 ?_|refine aa ?_|refine LF a7 I9 ?_|refine vh (d:=46) fun _=>?_|refine bk rfl ?_)
  rename_i sb
  exact LQ LA (.inr ⟨rfl,_,⟨E,sb,hE1,hE2,hE3,rfl,rfl⟩,rfl⟩)
 ·rw [if_pos (show (place≠[]) from h3)]
  simp only [if_neg h3] at hv
  haveI:=AD.mk hv
  repeat' (first|refine ae ?_|refine a6 ?_|refine au ?_|refine aq ?_|refine a8 ?_|refine aC ?_|refine aa ?_|refine LF a7 I9 ?_|(apply aK;first|refine LH 10 a7 0 LE ?_|refine LH 10 a7 1 LE ?_|refine LH 10 a7 2 LE ?_|refine LG a7 0 LD ?_|refine LG a7 1 LD ?_|refine LG a7 2 LD ?_|refine LG a7 3 LD ?_|fail)|refine bg a7 fun _=>?_|(apply bw;refine bi ?_)|refine bV rfl ?_)
  refine dW (List.nil_sublist _) ?_
  exact LQ LA (.inl ⟨by simp,rfl,rfl⟩)
set_option maxRecDepth 8000
noncomputable def FG (f:aV) (rs place:List Int) (run:List bn):AV:= .tup [.imm 6 ((if p8 f rs place=0 then run.map (kw f) else []).map dB),aH (p8 f rs place)]
structure GS (f:aV) (rs:List Int) (want:List ByteArray):Prop where
 len:rs.length≤1000000
 grp:rV rs
 chars:f.Chars.length≤1000000
 feats:f.Features.length≤1000000
 pairs:(c5 want f.Features).length≤1000000
 kinds:∀l∈cI want f,0≤l∧∃q,f.Lookups[l.toNat]?=some q∧1≤q.Kind∧q.Kind≤5
structure GQ (f:aV) (rs:List Int) (want:List ByteArray) (Lu:AL) (run:List bn):Prop where
 ac:∀E,pz E→E.ls=f.Lookups→E.ms=f.Glyphs.map bf.Mark→∀q,kD q (d8 f rs)→AC Tryz.prog 62 [.iptr (q9 E),.imm 1 (aO (cI want f)),.imm 1 (aZ (gk want f)),fH q (d8 f rs)] (eZ q (d8 f rs)++Lu) (GR run Lu)
 len:run.length≤1000000
 glyph:∀x∈run,0≤x.Glyph∧x.Glyph < f.Glyphs.length
set_option maxHeartbeats 4000000 in
theorem vL (f:aV) (hf:Jw f) (rs place:List Int) (want:List ByteArray) (Lu:AL) (run:List bn) (ht:GS f rs want) (hr:p8 f rs place=0→GQ f rs want Lu run):AC Tryz.prog 19 [cD f,.imm 1 (aO rs),.imm 1 (rq want),.imm 1 (aO place)] Lu fun c L=>c=FG f rs place run∧L=Lu:=by
 refine aP Tryz.func19 rfl Tryz.ntmps19 rfl fun B=>?_
 have hb:=BS f hf rs place
 unfold FG
 generalize p8 f rs place=e at *
 repeat' (first|refine ae ?_|refine a6 ?_|refine a8 ?_|refine aa ?_|refine LF a7 I9 ?_|refine bo ?_|fail)
 refine bh [] Lu hb rfl rfl (Ll _) rfl fun c L1 hc=>?_
 rcases hc with ⟨h1,rfl,rfl⟩ | ⟨h1,v,⟨E,sb,e1,e2,e3,rfl,rfl⟩,rfl⟩
 ·rw [if_neg h1]
  repeat' (first|refine ae ?_|refine a6 ?_|refine a8 ?_|refine aa ?_|refine LF a7 I9 ?_)
  refine ay rfl (fun h=>?_) (fun h=>absurd (Lw h) (fun k=>k h1))
  clear h
  repeat' (first|refine ae ?_|refine a6 ?_|refine aq ?_|refine a8 ?_|refine aC ?_|refine aa ?_|refine LF a7 I9 ?_)
  refine b6 (bA (t:=8) (c':= .imm 6 (([]:List bn).map dB)) rfl fun σ v h=>dJ 6 h) ?_
  exact LQ LA ⟨rfl,rfl⟩
 ·subst h1
  rw [if_pos rfl]
  have hrn:=hr rfl
  have hsh:=AN f f rs want (.fnB 62 [.iptr (q9 E)] []) sb Lu ht.len ht.grp ht.chars ht.feats ht.pairs ht.kinds run (fun q hq=>ja.fnB (f:=62) (fs:=[.iptr (q9 E)]) (caps:=[]) (hrn.ac E e1 e2 e3 q hq)) hrn.len hrn.glyph
  repeat' (first|refine ae ?_|refine a6 ?_|refine au ?_|refine a8 ?_|refine aa ?_|refine LF a7 I9 ?_|refine bk rfl ?_)
  refine bh ((sb,w4 f f (.fnB 62 [.iptr (q9 E)] []))::Lu) [] hsh rfl rfl (by rw [List.append_nil];exact Ll _) rfl fun c L1 ⟨hc,hL⟩=>?_
  subst hc;subst hL
  repeat' (first|refine aq ?_|refine a8 ?_|refine aa ?_|refine LF a7 I9 ?_)
  refine dW (L':=L1) (by rw [List.append_nil];exact List.Sublist.refl _) ?_
  exact LQ LA ⟨rfl,rfl⟩
set_option maxRecDepth 8000
def Kn (ls:List b7):Bool:=ls.all (IU 5) && (decide (ls.length≤1000000) && HD ls)
set_option maxRecDepth 8000
def yE (m k:Nat):List Int:=(List.range k).map fun (j:Nat)=>if j=m then (1:Int) else 0
def FB (m k:Nat):List Int:=(List.range k).map fun (j:Nat)=>if (m:Int) - 1≤(j:Int) then (1:Int) else 0
def JD (m:Nat):Bool:=decide ((nz nZ FA 0 (nS (yE m (m+1))) []).map bn.Glyph=List.replicate (m+1) 1) && decide ((nz nZ FA 1 (nS (yE m (m+1))) []).map bn.Glyph=FB m (m+1))
end Go.Proofs.YtamjlkdanllgjaaGreatDoor
