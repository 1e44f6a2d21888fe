/-
  Groups of runes, one by one; a group is shown.
-/
import Derived.Test.YtamjlkdanllgjaaGreatDoorM17
import Derived.Test.YtamjlkdanllgjaaGreatDoorM11
import Derived.Test.YtamjlkdanllgjaaGreatDoorM07
namespace Go.Proofs.YtamjlkdanllgjaaGreatDoor
open Go.RowKit
attribute [local irreducible] AT bz AX AO Av Kt aZ cY DA cu
set_option maxRecDepth 8000
theorem vS (rs:List Int):bD Tryz.prog 39 [.imm 1 (aT rs)] (.fn 64 [.iptr [.imm 1 (aT rs)]]):=by
 refine aI Tryz.func39 rfl Tryz.ntmps39 rfl fun B=>?_
 repeat' (first|refine ae ?_|refine a6 ?_|refine am ?_|refine a8 ?_|refine aa ?_|refine LR a7 LL ?_|refine bi ?_|fail)
 exact LY LM
instance (rs:List Int):AD Tryz.prog 39 [.imm 1 (aT rs)] (.fn 64 [.iptr [.imm 1 (aT rs)]]):=⟨vS rs⟩
theorem r3 {α:Type} {l:List α} {k:Nat} {x:α} {r:List α} (h:l.drop k=x::r):l[k]?=some x∧l.drop (k+1)=r:=by
 have h1:(l.drop k)[0]?=some x:=by rw [h];rfl
 rw [List.getElem?_drop,Nat.add_zero] at h1
 refine ⟨h1,?_⟩
 rw [←List.drop_drop,h]
 rfl
set_option maxHeartbeats 4000000 in
theorem BB {α:Type} {σ0:bW} {l:Nat} (rs:List Int) (hr:rs.length≤1000000) (E:α→AL) (J:Nat→α→Prop) (hy:∀(k:Nat) x (g:Nat×Nat),J k x→(dk rs)[k]?=some g→AY Tryz.prog σ0 l [.agg [aF g.1,aF g.2]] (E x) fun c L=>c=cw true∧∃x',J (k+1) x'∧L=E x') (x0:α) (h0:J 0 x0):
  FF Tryz.prog σ0 64 [.sc (.func (.yield l) #[] #[]),.iptr [.imm 1 (aT rs)]] (E x0) fun _ L=>∃x,J (dk rs).length x∧L=E x:=by
 refine vd Tryz.func64 rfl Tryz.ntmps64 rfl fun B hB=>?_
 have hil:=b7 rs
 repeat' (first|refine ae ?_|refine a6 ?_|refine ar ?_|refine a8 ?_|refine aa ?_|refine LR a7 LL ?_)
 refine aN [0,1,6,7] (α:=Nat×Nat×Nat×α) (fun y=>[(3,aF y.2.1),(8,aF y.1)]) (fun y=>y.1≤rs.length∧y.2.1≤y.1∧m9 rs (rs.length - y.1) y.2.1 y.1=(dk rs).drop y.2.2.1∧y.2.2.1≤(dk rs).length∧J y.2.2.1 y.2.2.2) (fun y=>E y.2.2.2) (fun y=>rs.length - y.1) (0,0,0,x0) rfl ⟨rfl,rfl,trivial⟩ ⟨Nat.zero_le _,Nat.le_refl _,rfl,Nat.zero_le _,h0⟩ (fun _ _ h=>h) ?_
 rintro ⟨i,a,k,x⟩ ⟨hi,ha,hg,hkk,hj⟩
 dsimp only at hi ha hg hkk hj ⊢
 try dsimp only [Mt,Ms,Mr,Mn]
 repeat' (first|refine ae ?_|refine a6 ?_|refine a8 ?_|refine aa ?_|refine LR a7 LL ?_)
 refine aB rfl (fun h=>?_) (fun h=>?_)
 ·have hil2:i < rs.length:=by have:=Mz h;omega
  have h1:=bH (ea hil2)
  rw [show rs.length - i=(rs.length - (i+1))+1 by omega,m9] at hg
  clear h
  repeat' (first|refine ae ?_|refine a6 ?_|refine ar ?_|refine aq ?_|refine a8 ?_|refine aa ?_|refine LR a7 LL ?_|(apply aL;first|refine aK a7 ?_|refine aH a7 ?_)|fail)
  refine bN [0,1,3,4,6,7,8] (i=a∨cO (rs.getD i 0)=3) rfl (fun Q' K=>?_) (fun hC=>?_) (fun hC=>?_)
  ·repeat' (first|refine aa ?_|refine LR a7 LL ?_|refine MB LL ?_|refine MC LN ?_|(apply bk;refine b9 ?_)|refine MD LM (fun _=>?_) (fun _=>?_))
   all_goals exact K _ _ rfl rfl (by simp_all <;> omega)
  ·rw [if_pos hC] at hg
   repeat' (first|refine a6 ?_|refine aO ?_|refine a8 ?_|refine av ?_|refine aC ?_|refine aa ?_|refine LR a7 LL ?_|(apply aY;refine aX ?_)|fail)
   exact aE (i+1,a,k,x) rfl ⟨rfl,by rw [Mw];rfl,trivial⟩ ⟨by dsimp only;omega,by dsimp only;omega,hg,hkk,hj⟩ (by dsimp only;omega) (fun _ _ h=>h)
  ·rw [if_neg hC] at hg
   obtain ⟨hk1,hk2⟩:=r3 hg.symm
   repeat' (first|refine ae ?_|refine a6 ?_|refine aq ?_|refine a8 ?_|refine LR a7 LL ?_)
   refine oK (E x) [] hB (hy k x (a,i) hj hk1) rfl rfl rfl (by rw [List.append_nil]) rfl rfl fun c L1 ⟨hc,x',hj',hL⟩=>?_
   subst hc;subst hL
   rw [List.append_nil]
   repeat' (first|refine a6 ?_|refine aq ?_|refine a8 ?_|refine aP ?_|refine aa ?_|refine LR a7 LL ?_|(apply aY;refine aX ?_)|refine bo rfl ?_)
   exact aE (i+1,i,k+1,x') rfl ⟨rfl,by rw [Mw];rfl,trivial⟩ ⟨by dsimp only;omega,by dsimp only;omega,hk2.symm,(Mq hk1).1,hj'⟩ (by dsimp only;omega) (fun _ _ h=>h)
 ·have hil2:i=rs.length:=by have:=My h;omega
  subst hil2
  rw [Nat.sub_self,m9] at hg
  clear h
  repeat' (first|refine ae ?_|refine a6 ?_|refine aO ?_|refine a8 ?_|refine av ?_|refine aC ?_|refine aA ?_|refine aa ?_|refine LR a7 LL ?_)
  refine aB rfl (fun h=>?_) (fun h=>?_)
  ·have hlt:a < rs.length:=by have:=Mz h;omega
   rw [if_pos hlt] at hg
   obtain ⟨hk1,hk2⟩:=r3 hg.symm
   have hkl:(dk rs).length=k+1:=by
    have h2:=congrArg List.length hk2
    have h3:=(Mq hk1).1
    rw [List.length_drop,List.length_nil] at h2
    omega
   clear h
   repeat' (first|refine a6 ?_|refine LR a7 LL ?_)
   rw [hil]
   refine oK (E x) [] hB (hy k x (a,rs.length) hj hk1) rfl rfl rfl (by rw [List.append_nil]) rfl rfl fun c L1 ⟨hc,x',hj',hL⟩=>?_
   subst hc;subst hL
   rw [List.append_nil]
   repeat' (first|refine aa ?_)
   exact bT rfl ⟨x',by rw [hkl];exact hj',rfl⟩
  ·have hlt:¬a < rs.length:=by have:=My h;omega
   rw [if_neg hlt] at hg
   have hkl:(dk rs).length≤k:=by
    have:=congrArg List.length hg
    rw [List.length_drop] at this
    simp at this
    omega
   have hkl:(dk rs).length=k:=by omega
   repeat' (first|refine aq ?_)
   exact bT rfl ⟨x,by rw [hkl];exact hj,rfl⟩
theorem wC (g:FuncId) (caps:List AV) (a:Option Addr) (cap:Nat) (L:AL):AC Tryz.prog 147 [.sc (.slice a 0 cap),aF 0,.fn g caps] L fun _ L'=>L'=L:=by
 refine aI Tryz.func147 rfl Tryz.ntmps147 rfl fun B=>?_
 repeat' (first|refine ae ?_|refine a6 ?_|refine ar ?_|refine a8 ?_|refine aa ?_|refine LR a7 LL ?_)
 refine aN [0,1,2,6] (α:=Unit) (fun _=>[(7,aF 0),(8,aF 20)]) (fun _=>True) (fun _=>L) (fun _=>0) () rfl ⟨rfl,rfl,trivial⟩ trivial (fun _ _ h=>h) fun _ _=>?_
 try dsimp only [Mt,Ms,Mr,Mn]
 repeat' (first|refine ae ?_|refine a6 ?_|refine aO ?_|refine a8 ?_|refine av ?_|refine aC ?_|refine aA ?_|refine aa ?_|refine LR a7 LL ?_|refine bo rfl ?_)
 refine aW L [] (pB _ _ 0 0 (by omega) (by omega) L) rfl rfl (by rw [List.append_nil]) rfl fun c L1 hL=>?_
 subst hL
 rw [List.append_nil]
 repeat' (first|refine ar ?_|refine a8 ?_|refine aa ?_)
 refine aN [0,1,2] (α:=Unit) (fun _=>[(6,aF 20)]) (fun _=>True) (fun _=>L1) (fun _=>0) () rfl ⟨rfl,trivial⟩ trivial (fun _ _ h=>h) fun _ _=>?_
 try dsimp only [Mt,Ms,Mr,Mn]
 repeat' (first|refine ae ?_|refine a6 ?_|refine aO ?_|refine a8 ?_|refine av ?_|refine aC ?_|refine aA ?_|refine aa ?_|refine LR a7 LL ?_|refine bo rfl ?_)
 exact bT rfl rfl
theorem kg (g:FuncId) (caps:List AV) (a:Option Addr) (cap:Nat) (L:AL):AC Tryz.prog 65 [.sc (.slice a 0 cap),.fn g caps] L fun _ L'=>L'=L:=by
 refine aI Tryz.func65 rfl Tryz.ntmps65 rfl fun B=>?_
 repeat' (first|refine a6 ?_|refine LR a7 LL ?_)
 refine aW L [] (wC _ _ _ _ L) rfl rfl (by rw [List.append_nil]) rfl fun c L1 hL=>?_
 subst hL
 repeat' (first|refine aa ?_)
 exact bT rfl (List.append_nil _)
def oR (o:List Nat) (cs:List AV):Prop:=cs.take o.length=cW o∧o.length≤cs.length
theorem k8 (a b:List Nat):cW (a++b)=cW a++cW b:=by simp [cW]
theorem oR.split {o:List Nat} {cs:List AV} (h:oR o cs):cs=cW o++cs.drop o.length:=by
 rw [←h.1,List.take_append_drop]
theorem sR {o:List Nat} {cs:List AV}:oR o (cW o++cs):=by
 refine ⟨?_,by rw [List.length_append,eu];omega⟩
 rw [←eu o,List.take_left']
 rfl
def Do (rs:List Int) (g:Nat×Nat):Nat:=if g.1 < g.2∧cO (rs.getD g.1 0)≠3 then g.2 - (g.1+1) else g.2 - g.1
def D0 (b n:Nat) (o:List Nat) (c:AV) (L:AL):Prop:=∃cs,oR o cs∧cs.length=n∧c= .sc (.slice (some ⟨b,0,none⟩) o.length n)∧L=[(b,.box cs 3)]
set_option maxHeartbeats 8000000 in
theorem t6 (rs:List Int) (b0:Nat) (cs0:List AV) (o:List Nat) (g:Nat×Nat) (hg1:g.1≤g.2) (hg2:g.2≤rs.length) (hm:Do rs g≤20) (ho:oR o cs0) (hol:o.length+(g.2 - g.1)≤cs0.length) (hrl:cs0.length≤1000000) (hrs:rs.length≤1000000):
  AC Tryz.prog 41 [.sc (.slice (some ⟨b0,0,none⟩) o.length cs0.length),.imm 1 (aT rs),.agg [aF g.1,aF g.2]] [(b0,.box cs0 3)] (D0 b0 cs0.length (o++cC rs g)):=by
 obtain ⟨a,c⟩:=g
 dsimp only at hg1 hg2 hm hol ⊢
 generalize hcap:cs0.length=cap at *
 refine aI Tryz.func41 rfl Tryz.ntmps41 rfl fun B=>?_
 repeat' (first|refine ae ?_|refine a6 ?_|refine ar ?_|refine a8 ?_|refine aa ?_|refine LR a7 LL ?_|refine bi ?_|fail)
 refine aN [4,5,7] (α:=Nat×List AV) (fun s=>[(0,.sc (.slice (some ⟨b0,0,none⟩) (o.length+s.1) cap)),(8,aF ((a+s.1:Nat):Int))]) (fun s=>s.1≤c - a∧oR (o++List.range' a s.1) s.2∧s.2.length=cap) (fun s=>[(b0,.box s.2 3)]) (fun s=>c - a - s.1) (0,cs0) rfl ⟨rfl,rfl,trivial⟩ ⟨Nat.zero_le _,by simpa using ho,hcap⟩ (fun _ _ h=>h) ?_
 clear ho hcap
 rintro ⟨k,cs⟩ ⟨hk,hP,hcap⟩
 dsimp only at hk hP hcap ⊢
 have hPl:=hP.2
 rw [List.length_append,List.length_range'] at hPl
 try dsimp only [Mt,Ms,Mr,Mn]
 repeat' (first|refine ae ?_|refine a6 ?_|refine a8 ?_|refine aa ?_|refine LR a7 LL ?_)
 refine aB rfl (fun h=>?_) (fun h=>?_)
 ·have hkc:a+k < c:=by have:=Mz h;omega
  clear h
  repeat' (first|refine ae ?_|refine a6 ?_|refine ar ?_|refine aq ?_|refine a8 ?_|refine LR a7 LL ?_|refine cA a7 ?_|fail)
  refine iH a7 0 rfl rfl rfl rfl (f9 rfl rfl) rfl (by omega) (by omega) (by unfold maxLen;omega) (by simp only [List.length_cons,List.length_nil];unfold maxLen;omega) (by simp only [List.length_cons,List.length_nil];omega) rfl fun b' cs' cap' e1 e2 e3 e4 e5=>?_
  obtain ⟨rfl,rfl,h1⟩:=e5 (by simp only [List.length_cons,List.length_nil];omega)
  clear e1 e2 e3 e4 e5
  have hn1:(o++List.range' a (k+1)).length=o.length+k+1:=by rw [List.length_append,List.length_range'];omega
  have hcs:cs'=cW (o++List.range' a (k+1))++cs.drop (o.length+k+1):=by
   rw [h1]
   have h3:=hP.1
   rw [List.length_append,List.length_range'] at h3
   simp only [List.length_cons,List.length_nil,Nat.mul_one]
   rw [h3,List.range'_1_concat,←List.append_assoc,k8 (o++_) [a+k]]
   rfl
  clear h1
  subst hcs
  repeat' (first|refine a6 ?_|refine a8 ?_|refine aP ?_|refine aa ?_|refine LR a7 LL ?_|(apply aY;refine aX ?_)|fail)
  refine aE (k+1,cW (o++List.range' a (k+1))++cs.drop (o.length+k+1)) rfl ⟨rfl,by rw [show a+(k+1)=(a+k)+1 by omega,Mw];rfl,trivial⟩ ⟨by dsimp only;omega,sR,?_⟩ (by dsimp only;omega) (fun _ _ h=>h)
  dsimp only
  rw [List.length_append,eu,hn1,List.length_drop]
  omega
 ·have hkc:k=c - a:=by have:=My h;omega
  subst hkc
  clear h
  repeat' (first|refine ae ?_|refine a6 ?_|refine aO ?_|refine a8 ?_|refine av ?_|refine aC ?_|refine aA ?_|refine LR a7 LL ?_)
  subst hcap
  refine uk a7 o.length rfl rfl rfl rfl (by omega) (by omega) rfl ?_
  rw [Nat.add_sub_cancel_left]
  repeat' (first|refine ae ?_|refine a6 ?_|refine a8 ?_|refine aa ?_|refine LR a7 LL ?_)
  by_cases hac:a < c
  ·have hg:=bH (ea (show a < rs.length by omega))
   rw [if_neg (by omega),show 0+o.length * 1=o.length by omega,decide_eq_true (show (0:Int) < ((c - a:Nat):Int) by omega)]
   have hcs:=hP.split
   rw [List.length_append,List.length_range'] at hcs
   generalize cs.drop (o.length+(c - a))=post at hcs
   subst hcs
   repeat' (first|refine a8 ?_|refine aa ?_|refine LR a7 LL ?_|refine MB LL ?_|(apply aL;first|refine aK a7 ?_|refine aH a7 ?_)|(apply bk;refine b9 ?_)|fail)
   refine aB rfl (fun h=>?_) (fun h=>?_)
   ·have hk3:cO (rs.getD a 0)≠3:=Mz h
    have hmk:c - (a+1)≤20:=by unfold Do at hm;rwa [if_pos ⟨hac,hk3⟩] at hm
    clear h
    repeat' (first|refine a6 ?_|refine LR a7 LL ?_)
    refine uk a7 1 rfl rfl rfl rfl (by omega) (by omega) rfl ?_
    have hpl:cC rs (a,c)=a::eI (kS rs) (List.range' (a+1) (c - (a+1))):=by
     unfold cC
     rw [if_pos ⟨hac,hk3⟩]
    have hsp:=mw hac
    rw [hsp] at hP hPl ⊢
    have hlen:(cW (o++a::List.range' (a+1) (c - (a+1)))++post).length=o.length+(c - a)+post.length:=by
     rw [List.length_append,eu,List.length_append,List.length_cons,List.length_range']
     omega
    have hcell:cW (o++a::List.range' (a+1) (c - (a+1)))++post=cW (o++[a])++(cW (List.range' (a+1) (c - (a+1)))++post):=by
     rw [←List.append_assoc,←k8,List.append_assoc]
     rfl
    by_cases h1:c=a+1
    ·subst h1
     rw [show a+1 - a - 1=0 by omega]
     rw [show a+1 - (a+1)=0 by omega] at *
     repeat' (first|refine ae ?_|refine a6 ?_|refine a8 ?_|refine aa ?_|refine LR a7 LL ?_)
     refine aW [(b0,.box (cW (o++a::List.range' (a+1) 0)++post) 3)] [] (kg 66 [.iptr [.imm 1 (aT rs)]] _ _ _) rfl rfl (Mp _) rfl fun c1 L1 hL=>?_
     subst hL
     repeat' (first|refine ae ?_|refine a6 ?_|refine am ?_|refine a8 ?_|refine aa ?_|refine LR a7 LL ?_)
     refine MA LL ⟨_,?_,rfl,?_,rfl⟩
     ·rw [hpl];exact hP
     ·rw [hpl];simp [eI]
    ·have hl2:(List.range' (a+1) (c - (a+1))).length=c - (a+1):=List.length_range' ..
     have hpre:(cW (o++[a])).length=o.length+1:=by rw [eu,List.length_append];rfl
     have hsort:=l7 66 [.iptr [.imm 1 (aT rs)]] (kS rs) (fun x=>x < rs.length) (fun x y hx hy=>gF.fn (x9 rs x y hx hy).nil) b0 ((cW (o++a::List.range' (a+1) (c - (a+1)))++post).length - o.length - 1) (cW (o++[a])) post (List.range' (a+1) (c - (a+1))) (fun x hx=>by rw [List.mem_range'_1] at hx;omega) (by omega)
     rw [←hcell,hl2,hpre] at hsort
     rw [if_neg (by omega),show o.length+1 * 1=o.length+1 by omega,show c - a - 1=c - (a+1) by omega]
     repeat' (first|refine ae ?_|refine a6 ?_|refine a8 ?_|refine aa ?_|refine LR a7 LL ?_)
     refine aW [(b0,.box (cW (o++a::List.range' (a+1) (c - (a+1)))++post) 3)] [] hsort rfl rfl (Mp _) rfl fun c1 L1 hL=>?_
     subst hL
     repeat' (first|refine ae ?_|refine a6 ?_|refine am ?_|refine a8 ?_|refine aa ?_|refine LR a7 LL ?_)
     have hfin:cW (o++[a])++(cW (eI (kS rs) (List.range' (a+1) (c - (a+1))))++post)=cW (o++cC rs (a,c))++post:=by
      rw [hpl,←List.append_assoc,←k8,List.append_assoc]
      rfl
     rw [hfin]
     refine MA LL ⟨_,sR,?_,?_,rfl⟩
     ·rw [hlen,List.length_append,eu,List.length_append,ek]
     ·rw [show (o++cC rs (a,c)).length=o.length+(c - a) by rw [List.length_append,ek]]
   ·have hk3:cO (rs.getD a 0)=3:=Decidable.not_not.1 (My h)
    have hmk:c - a≤20:=by unfold Do at hm;rwa [if_neg (fun hc=>hc.2 hk3)] at hm
    clear h
    have hpl:cC rs (a,c)=eI (kS rs) (List.range' a (c - a)):=by
     unfold cC
     rw [if_neg (fun hc=>hc.2 hk3)]
    have hcell:cW (o++List.range' a (c - a))++post=cW o++(cW (List.range' a (c - a))++post):=by
     rw [k8,List.append_assoc]
    have hl2:(List.range' a (c - a)).length=c - a:=List.length_range' ..
    have hsort:=l7 66 [.iptr [.imm 1 (aT rs)]] (kS rs) (fun x=>x < rs.length) (fun x y hx hy=>gF.fn (x9 rs x y hx hy).nil) b0 ((cW (o++List.range' a (c - a))++post).length - o.length) (cW o) post (List.range' a (c - a)) (fun x hx=>by rw [List.mem_range'_1] at hx;omega) (by omega)
    rw [←hcell,hl2,eu o] at hsort
    repeat' (first|refine ae ?_|refine a6 ?_|refine aq ?_|refine a8 ?_|refine LR a7 LL ?_)
    refine aW [(b0,.box (cW (o++List.range' a (c - a))++post) 3)] [] hsort rfl rfl (Mp _) rfl fun c1 L1 hL=>?_
    subst hL
    repeat' (first|refine ae ?_|refine a6 ?_|refine am ?_|refine a8 ?_|refine aa ?_|refine LR a7 LL ?_)
    have hfin:cW o++(cW (eI (kS rs) (List.range' a (c - a)))++post)=cW (o++cC rs (a,c))++post:=by
     rw [hpl,k8,List.append_assoc]
    rw [hfin]
    refine MA LL ⟨_,sR,?_,?_,rfl⟩
    ·rw [List.length_append,eu,List.length_append,ek,List.length_append,eu,List.length_append,List.length_range']
    ·rw [show (o++cC rs (a,c)).length=o.length+(c - a) by rw [List.length_append,ek]]
  ·have hpl:cC rs (a,c)=[]:=List.length_eq_zero_iff.1 (by rw [ek];dsimp only;omega)
   rw [show c - a=0 by omega] at *
   repeat' (first|refine ae ?_|refine a6 ?_|refine aq ?_|refine a8 ?_|refine aa ?_|refine LR a7 LL ?_|refine MC LN ?_|refine bo rfl ?_)
   refine aW [(b0,.box cs 3)] [] (kg 66 [.iptr [.imm 1 (aT rs)]] _ _ _) rfl rfl (Mp _) rfl fun c1 L1 hL=>?_
   subst hL
   repeat' (first|refine ae ?_|refine a6 ?_|refine am ?_|refine a8 ?_|refine aa ?_|refine LR a7 LL ?_)
   refine MA LL ⟨cs,?_,rfl,?_,rfl⟩
   ·rw [hpl];exact hP
   ·rw [hpl,List.append_nil];rfl
set_option maxRecDepth 8000
open Go.MapKept
section
variable {P:Program} {r:Option Nat} {ops:Array Oper} {Q:Exit→Act→World→Prop} {nt:Nat} {D:List Deferred} {fr:bP} {B:Bs} {L:AL} {rest:List Oper} {d:Nat} {ty t:TypeId} {pos:String} {af:Array Edge} {x y z:Operand} {u:AV} {cd:Code}
theorem iI {f:FuncId} {args:Array Operand} {ts:Array TypeId} {cs caps:List AV} {v:AV} [bC P f] (hc:bD P f (cs++caps) v) (hx:bc fr x=some u) (hu:jB u=some (f,caps)) (hv:eM fr args.toList=some cs) (hn:Oper.noDefer ⟨some d,.call ⟨.value x,args,ts⟩,ty,pos,af,none⟩=true) (hd:Nat.ble nt d=false) (h:bz P r ops Q nt D rest ((d,v)::fr) B L):
  bz P r ops Q nt D (⟨some d,.call ⟨.value x,args,ts⟩,ty,pos,af,none⟩::rest) fr B L:=
 dl [] L hc hx hu hv (Mp _) hn hd fun c L1 hc=>by
  have hc':c=v:=hc
  subst hc'
  exact bq (dE (List.sublist_append_right ..)) h
theorem DS (t:Nat) {u:AV} {s:Nat} {l:List (List AV)} (hl:bX fr t=some u) (hu:iE u=some (s,l)) (h:l.length≤9223372036854775807→bz P r ops Q nt D rest fr B L):bz P r ops Q nt D rest fr B L:=
 DR (fun σ a w ha _=>(BH (ha.look t u hl) hu).1) h
end
def xr (t:bQ) (i:Nat) (l:Int):Bool:=match i with | 0=>false | j+1=>match t.Lookups[j]? with | some b=>decide (l≤b) | none=>false
def oH (f:aS) (t:bQ) (i:Nat) (l:Int):Int:=dP (decide (l < 0∨l≥f.Lookups.length) || xr t i l) 43
set_option maxHeartbeats 1000000 in
theorem yC (f:aS) (t:bQ) (i:Nat) (l:Int) (hl:t.Lookups[i]?=some l) (hn:t.Lookups.length≤9223372036854775807):bD Tryz.prog 203 [aF i,aF l,.iptr (bY f),.iptr (bJ t)] (aF (oH f t i l)):=by
 refine aI Tryz.func203 rfl Tryz.ntmps203 rfl fun B=>?_
 have hil:=(Mq hl).1
 unfold oH
 cases i with
 | zero=>
  repeat' (first|refine ae ?_|refine a6 ?_|refine a8 ?_|refine aa ?_|refine LR a7 LL ?_)
  refine di (t:=7) [] (l < 0∨l≥f.Lookups.length) rfl (fun Q' K=>?_) ?_
  ·repeat' (first|refine aa ?_|refine LR a7 LL ?_|refine MB LL ?_|refine MC LN ?_|refine dq rfl rfl rfl ?_|refine MD LM (fun _=>?_) (fun _=>?_))
   all_goals exact K _ _ rfl rfl (by clear K;simp_all <;> omega)
  repeat' (first|refine ae ?_|refine a6 ?_|refine am ?_|refine a8 ?_|refine aa ?_|refine LR a7 LL ?_|(apply bk;refine b9 ?_)|fail)
  refine MA LL ?_
  simp [xr]
 | succ j=>
  obtain ⟨b,hb⟩:∃b,t.Lookups[j]?=some b:=⟨_,Ia (by omega)⟩
  have hbg:(aT t.Lookups)[(((j+1:Nat):Int) - 1).toNat]?=some [aF b]:=by rw [show (((j+1:Nat):Int) - 1).toNat=j by omega];exact bH hb
  have hlt:xr t (j+1) l=decide (l≤b):=by simp [xr,hb]
  have hpos:decide (0 < ((j+1:Nat):Int))=true:=decide_eq_true (by omega)
  rw [hlt]
  repeat' (first|refine ae ?_|refine a6 ?_|refine a8 ?_|refine aa ?_|refine LR a7 LL ?_)
  refine di (t:=7) [] ((l < 0∨l≥f.Lookups.length)∨l≤b) rfl (fun Q' K=>?_) ?_
  ·repeat' (first|refine aa ?_|refine LR a7 LL ?_|refine MB LL ?_|refine MC LN ?_|refine dq rfl rfl rfl ?_|(apply aY;refine aX ?_)|(apply aL;first|refine aK a7 ?_|refine aH a7 ?_)|refine MD LM (fun _=>?_) (fun _=>?_))
   all_goals exact K _ _ rfl rfl (by clear K;simp_all <;> omega)
  repeat' (first|refine ae ?_|refine a6 ?_|refine am ?_|refine a8 ?_|refine aa ?_|refine LR a7 LL ?_|(apply bk;refine b9 ?_)|fail)
  refine MA LL ?_
  rw [Bool.decide_or]
def xg (f:aS) (t:bQ) (name:Int):Int:=if name≠0 then name else (cT t.Lookups (oH f t)).1
theorem tZ (f:aS) (t:bQ) (name:Int):bD Tryz.prog 122 [cD f,.agg (bJ t),aF name] (aF (xg f t name)):=by
 refine aI Tryz.func122 rfl Tryz.ntmps122 rfl fun B=>?_
 unfold xg
 repeat' (first|refine ae ?_|refine a6 ?_|refine a8 ?_|refine aa ?_|refine LR a7 LL ?_|refine bi ?_|fail)
 refine aB rfl (fun h=>?_) (fun h=>?_)
 ·rw [if_pos (Mz h)]
  repeat' (first|refine ae ?_|refine a6 ?_|refine am ?_|refine a8 ?_|refine az ?_|refine aa ?_|refine LR a7 LL ?_)
  exact LY LM
 rw [if_neg (My h)]
 repeat' (first|refine ae ?_|refine a6 ?_|refine aq ?_|refine a8 ?_|refine LR a7 LL ?_)
 refine DS 14 rfl rfl fun hlen=>?_
 rw [b7] at hlen
 refine aW [] [] (lY (u:= .fn 203 [.iptr (bY f),.iptr (bJ t)]) (g:=203) rfl t.Lookups _ (fun _ _=>True) [] trivial (cV (fun i x hx=>yC f t i x hx (by omega)))) rfl rfl (Mp _) rfl fun c L1 hc=>?_
 have hc:c=cf (cT t.Lookups (oH f t)):=hc
 subst hc
 unfold cf
 repeat' (first|refine ae ?_|refine a6 ?_|refine am ?_|refine a8 ?_|refine aa ?_|refine LR a7 LL ?_)
 exact LY LM
instance (f:aS) (t:bQ) (name:Int):AD Tryz.prog 122 [cD f,.agg (bJ t),aF name] (aF (xg f t name)):=⟨tZ f t name⟩
def d5 (names:List ByteArray) (s:ByteArray):Option Nat:=names.findIdx? (fun x=>decide (x=s))
def cz (names:List ByteArray) (v:Value):Option AV:=match v with
 | .string s=>(d5 names s).map fun (n:Nat)=>aF (n:Int)
 | _=>none
theorem j7 {names:List ByteArray} {i:Nat} {s:ByteArray} (h:names[i]?=some s) (q:ByteArray):d5 (names.take (i+1)) q=match d5 (names.take i) q with | some n=>some n | none=>if s=q then some i else none:=by
 unfold d5
 have hlt:=(Mq h).1
 have hlen:(names.take i).length=i:=by rw [List.length_take];omega
 rw [List.take_add_one,h,Option.toList_some,List.findIdx?_append,hlen]
 cases List.findIdx? (fun x=>decide (x=q)) (names.take i) with
 | some n=>rfl
 | none=>
  by_cases e:s=q
  ·simp [e]
  ·simp [e]
theorem li:cz []=fun _=>none:=by
 funext v
 cases v <;> rfl
theorem jT {names:List ByteArray} {s:ByteArray}:(cz names (.string s)).isSome=(d5 names s).isSome:=by
 show (Option.map (fun n:Nat=>aF (n:Int)) (d5 names s)).isSome=_
 cases d5 names s <;> rfl
theorem j8 {names:List ByteArray} {i:Nat} {s:ByteArray} (h:names[i]?=some s) (hk:(d5 (names.take i) s).isSome=true):cz (names.take (i+1))=cz (names.take i):=by
 funext v
 cases v with
 | string q=>
  simp only [cz]
  rw [j7 h]
  cases hq:d5 (names.take i) q with
  | some n=>rfl
  | none=>
   by_cases e:s=q
   ·subst e;rw [hq] at hk;cases hk
   ·simp [e]
 | _=>rfl
theorem jS {names:List ByteArray} {i:Nat} {s:ByteArray} (h:names[i]?=some s) (hk:(d5 (names.take i) s).isSome=false):cz (names.take (i+1)) (.string s)=some (aF i):=by
 simp only [cz]
 rw [j7 h]
 cases hq:d5 (names.take i) s with
 | some n=>rw [hq] at hk;cases hk
 | none=>simp
theorem j9 {names:List ByteArray} {i:Nat} {s:ByteArray} (h:names[i]?=some s) (q:Value) (hne:q≠ .string s):cz (names.take (i+1)) q=cz (names.take i) q:=by
 cases q with
 | string q=>
  have hne':s≠q:=fun e=>hne (by rw [e])
  simp only [cz]
  rw [j7 h]
  cases hq:d5 (names.take i) q with
  | some n=>rfl
  | none=>simp [hne']
 | _=>rfl
theorem pT (g:bn):bD Tryz.prog 99 [.agg (bK g)] (mP g.Name):=by
 refine aI Tryz.func99 rfl Tryz.ntmps99 rfl fun B=>?_
 repeat' (first|refine ae ?_|refine a6 ?_|refine am ?_|refine a8 ?_|refine aa ?_|refine LR a7 LL ?_|refine bi ?_|fail)
 exact LY LM
theorem pU (g:bQ):bD Tryz.prog 101 [.agg (bJ g)] (mP g.Name):=by
 refine aI Tryz.func101 rfl Tryz.ntmps101 rfl fun B=>?_
 repeat' (first|refine ae ?_|refine a6 ?_|refine am ?_|refine a8 ?_|refine aa ?_|refine LR a7 LL ?_|refine bi ?_|fail)
 exact LY LM
theorem pV (g:eV):bD Tryz.prog 103 [.agg (fx g)] (mP g.Name):=by
 refine aI Tryz.func103 rfl Tryz.ntmps103 rfl fun B=>?_
 repeat' (first|refine ae ?_|refine a6 ?_|refine am ?_|refine a8 ?_|refine aa ?_|refine LR a7 LL ?_|refine bi ?_|fail)
 exact LY LM
set_option maxHeartbeats 1000000 in
theorem Bi (l:List bn):AC Tryz.prog 98 [.imm 9 (l.map bK),.sc (.func (.func 99) #[] #[])] [] fun c L=>∃m,c= .sc (.map (some m))∧L=[(m,bV .string (cz (l.map bn.Name)))]:=by
 refine aI Tryz.func98 rfl Tryz.ntmps98 rfl fun B=>?_
 refine cF 0 rfl rfl fun hlen=>?_
 rw [Mv] at hlen
 repeat' (first|refine ae ?_|refine a6 ?_|refine a8 ?_|refine aa ?_|refine LR a7 LL ?_)
 refine dJ .string fun m=>?_
 repeat' (first|refine ae ?_|refine a6 ?_|refine ar ?_|refine a8 ?_|refine aa ?_|refine LR a7 LL ?_)
 refine aN [1,5,11,12] (α:=Nat) (fun i=>[(13,aF i)]) (fun i=>i≤l.length) (fun i=>[(m,bV .string (cz ((l.map bn.Name).take i)))]) (fun i=>l.length - i) 0 rfl ⟨rfl,trivial⟩ (Nat.zero_le _) (fun _ _ h=>by rw [List.take_zero,li];exact h) fun i hi=>?_
 try dsimp only [Mt,Ms,Mr,Mn]
 repeat' (first|refine ae ?_|refine a6 ?_|refine a8 ?_|refine aa ?_|refine LR a7 LL ?_)
 refine aB rfl (fun h=>?_) (fun h=>?_)
 ·have hil:i < l.length:=by have:=Mz h;simp at this;omega
  obtain ⟨z,hz⟩:∃z,l[i]?=some z:=⟨_,Ia hil⟩
  have hzg:=c6 (c:=bK) hz
  have hzn:(l.map bn.Name)[i]?=some z.Name:=by rw [List.getElem?_map,hz];rfl
  repeat' (first|refine ae ?_|refine a6 ?_|refine ar ?_|refine aq ?_|refine a8 ?_|refine aa ?_|refine LR a7 LL ?_|(apply aL;first|refine aK a7 ?_|refine aH a7 ?_)|(apply aU;first|refine LT 7 a7 0 LQ ?_|refine LT 7 a7 1 LQ ?_|refine LT 7 a7 2 LQ ?_|refine LU a7 0 LP ?_|refine LU a7 1 LP ?_|refine LU a7 2 LP ?_|refine LU a7 3 LP ?_|fail)|refine bf a7 fun _=>?_|fail)
  refine iI (cs:=[.agg (bK z)]) (caps:=[]) (pT z) rfl rfl rfl rfl rfl ?_
  repeat' (first|fail)
  refine ge 0 (.int .i64 0) Tryz.underlying196 Tryz.underlying9 rfl rfl trivial rfl (by kernel_rfl) rfl ?_
  rw [jT]
  repeat' (first|refine ae ?_|refine a6 ?_|refine a8 ?_|refine aa ?_|refine LR a7 LL ?_)
  refine aB rfl (fun h2=>?_) (fun h2=>?_)
  ·have h2':(d5 ((l.map bn.Name).take i) z.Name).isSome=false:=by simpa using h2
   repeat' (first|refine a6 ?_|refine LR a7 LL ?_)
   refine iI (cs:=[.agg (bK z)]) (caps:=[]) (pT z) rfl rfl rfl rfl rfl ?_
   repeat' (first|refine LR a7 LL ?_)
   refine cZ 0 (cz ((l.map bn.Name).take (i+1))) Tryz.underlying196 Tryz.underlying9 rfl rfl trivial rfl rfl (jS hzn h2') (j9 hzn) ?_
   repeat' (first|refine a6 ?_|refine a8 ?_|refine aP ?_|refine aa ?_|refine LR a7 LL ?_|(apply aY;refine aX ?_)|fail)
   exact aE (i+1) rfl ⟨by rw [Mw];rfl,trivial⟩ (by omega) (by omega) (fun _ _ h=>h)
  ·have h2':(d5 ((l.map bn.Name).take i) z.Name).isSome=true:=by simpa using h2
   repeat' (first|refine a6 ?_|refine aq ?_|refine a8 ?_|refine aP ?_|refine aa ?_|refine LR a7 LL ?_|(apply aY;refine aX ?_)|fail)
   exact aE (i+1) rfl ⟨by rw [Mw];rfl,trivial⟩ (by omega) (by omega) (fun _ _ h=>by rw [j8 hzn h2'];exact h)
 ·have hil:i=l.length:=by have:=My h;simp at this;omega
  subst hil
  rw [List.take_of_length_le (by simp)]
  repeat' (first|refine ae ?_|refine a6 ?_|refine am ?_|refine aO ?_|refine a8 ?_|refine av ?_|refine aC ?_|refine aA ?_|refine aa ?_|refine LR a7 LL ?_)
  exact MA LL ⟨_,rfl,rfl⟩
set_option maxHeartbeats 1000000 in
theorem Bj (l:List bQ):AC Tryz.prog 100 [.imm 2 (l.map bJ),.sc (.func (.func 101) #[] #[])] [] fun c L=>∃m,c= .sc (.map (some m))∧L=[(m,bV .string (cz (l.map bQ.Name)))]:=by
 refine aI Tryz.func100 rfl Tryz.ntmps100 rfl fun B=>?_
 refine cF 0 rfl rfl fun hlen=>?_
 rw [Mv] at hlen
 repeat' (first|refine ae ?_|refine a6 ?_|refine a8 ?_|refine aa ?_|refine LR a7 LL ?_)
 refine dJ .string fun m=>?_
 repeat' (first|refine ae ?_|refine a6 ?_|refine ar ?_|refine a8 ?_|refine aa ?_|refine LR a7 LL ?_)
 refine aN [1,5,11,12] (α:=Nat) (fun i=>[(13,aF i)]) (fun i=>i≤l.length) (fun i=>[(m,bV .string (cz ((l.map bQ.Name).take i)))]) (fun i=>l.length - i) 0 rfl ⟨rfl,trivial⟩ (Nat.zero_le _) (fun _ _ h=>by rw [List.take_zero,li];exact h) fun i hi=>?_
 try dsimp only [Mt,Ms,Mr,Mn]
 repeat' (first|refine ae ?_|refine a6 ?_|refine a8 ?_|refine aa ?_|refine LR a7 LL ?_)
 refine aB rfl (fun h=>?_) (fun h=>?_)
 ·have hil:i < l.length:=by have:=Mz h;simp at this;omega
  obtain ⟨z,hz⟩:∃z,l[i]?=some z:=⟨_,Ia hil⟩
  have hzg:=c6 (c:=bJ) hz
  have hzn:(l.map bQ.Name)[i]?=some z.Name:=by rw [List.getElem?_map,hz];rfl
  repeat' (first|refine ae ?_|refine a6 ?_|refine ar ?_|refine aq ?_|refine a8 ?_|refine aa ?_|refine LR a7 LL ?_|(apply aL;first|refine aK a7 ?_|refine aH a7 ?_)|(apply aU;first|refine LT 7 a7 0 LQ ?_|refine LT 7 a7 1 LQ ?_|refine LT 7 a7 2 LQ ?_|refine LU a7 0 LP ?_|refine LU a7 1 LP ?_|refine LU a7 2 LP ?_|refine LU a7 3 LP ?_|fail)|refine bf a7 fun _=>?_|fail)
  refine iI (cs:=[.agg (bJ z)]) (caps:=[]) (pU z) rfl rfl rfl rfl rfl ?_
  repeat' (first|fail)
  refine ge 0 (.int .i64 0) Tryz.underlying196 Tryz.underlying9 rfl rfl trivial rfl (by kernel_rfl) rfl ?_
  rw [jT]
  repeat' (first|refine ae ?_|refine a6 ?_|refine a8 ?_|refine aa ?_|refine LR a7 LL ?_)
  refine aB rfl (fun h2=>?_) (fun h2=>?_)
  ·have h2':(d5 ((l.map bQ.Name).take i) z.Name).isSome=false:=by simpa using h2
   repeat' (first|refine a6 ?_|refine LR a7 LL ?_)
   refine iI (cs:=[.agg (bJ z)]) (caps:=[]) (pU z) rfl rfl rfl rfl rfl ?_
   repeat' (first|refine LR a7 LL ?_)
   refine cZ 0 (cz ((l.map bQ.Name).take (i+1))) Tryz.underlying196 Tryz.underlying9 rfl rfl trivial rfl rfl (jS hzn h2') (j9 hzn) ?_
   repeat' (first|refine a6 ?_|refine a8 ?_|refine aP ?_|refine aa ?_|refine LR a7 LL ?_|(apply aY;refine aX ?_)|fail)
   exact aE (i+1) rfl ⟨by rw [Mw];rfl,trivial⟩ (by omega) (by omega) (fun _ _ h=>h)
  ·have h2':(d5 ((l.map bQ.Name).take i) z.Name).isSome=true:=by simpa using h2
   repeat' (first|refine a6 ?_|refine aq ?_|refine a8 ?_|refine aP ?_|refine aa ?_|refine LR a7 LL ?_|(apply aY;refine aX ?_)|fail)
   exact aE (i+1) rfl ⟨by rw [Mw];rfl,trivial⟩ (by omega) (by omega) (fun _ _ h=>by rw [j8 hzn h2'];exact h)
 ·have hil:i=l.length:=by have:=My h;simp at this;omega
  subst hil
  rw [List.take_of_length_le (by simp)]
  repeat' (first|refine ae ?_|refine a6 ?_|refine am ?_|refine aO ?_|refine a8 ?_|refine av ?_|refine aC ?_|refine aA ?_|refine aa ?_|refine LR a7 LL ?_)
  exact MA LL ⟨_,rfl,rfl⟩
set_option maxHeartbeats 1000000 in
theorem Bk (l:List eV):AC Tryz.prog 102 [.imm 4 (l.map fx),.sc (.func (.func 103) #[] #[])] [] fun c L=>∃m,c= .sc (.map (some m))∧L=[(m,bV .string (cz (l.map eV.Name)))]:=by
 refine aI Tryz.func102 rfl Tryz.ntmps102 rfl fun B=>?_
 refine cF 0 rfl rfl fun hlen=>?_
 rw [Mv] at hlen
 repeat' (first|refine ae ?_|refine a6 ?_|refine a8 ?_|refine aa ?_|refine LR a7 LL ?_)
 refine dJ .string fun m=>?_
 repeat' (first|refine ae ?_|refine a6 ?_|refine ar ?_|refine a8 ?_|refine aa ?_|refine LR a7 LL ?_)
 refine aN [1,5,11,12] (α:=Nat) (fun i=>[(13,aF i)]) (fun i=>i≤l.length) (fun i=>[(m,bV .string (cz ((l.map eV.Name).take i)))]) (fun i=>l.length - i) 0 rfl ⟨rfl,trivial⟩ (Nat.zero_le _) (fun _ _ h=>by rw [List.take_zero,li];exact h) fun i hi=>?_
 try dsimp only [Mt,Ms,Mr,Mn]
 repeat' (first|refine ae ?_|refine a6 ?_|refine a8 ?_|refine aa ?_|refine LR a7 LL ?_)
 refine aB rfl (fun h=>?_) (fun h=>?_)
 ·have hil:i < l.length:=by have:=Mz h;simp at this;omega
  obtain ⟨z,hz⟩:∃z,l[i]?=some z:=⟨_,Ia hil⟩
  have hzg:=c6 (c:=fx) hz
  have hzn:(l.map eV.Name)[i]?=some z.Name:=by rw [List.getElem?_map,hz];rfl
  repeat' (first|refine ae ?_|refine a6 ?_|refine ar ?_|refine aq ?_|refine a8 ?_|refine aa ?_|refine LR a7 LL ?_|(apply aL;first|refine aK a7 ?_|refine aH a7 ?_)|(apply aU;first|refine LT 7 a7 0 LQ ?_|refine LT 7 a7 1 LQ ?_|refine LT 7 a7 2 LQ ?_|refine LU a7 0 LP ?_|refine LU a7 1 LP ?_|refine LU a7 2 LP ?_|refine LU a7 3 LP ?_|fail)|refine bf a7 fun _=>?_|fail)
  refine iI (cs:=[.agg (fx z)]) (caps:=[]) (pV z) rfl rfl rfl rfl rfl ?_
  repeat' (first|fail)
  refine ge 0 (.int .i64 0) Tryz.underlying196 Tryz.underlying9 rfl rfl trivial rfl (by kernel_rfl) rfl ?_
  rw [jT]
  repeat' (first|refine ae ?_|refine a6 ?_|refine a8 ?_|refine aa ?_|refine LR a7 LL ?_)
  refine aB rfl (fun h2=>?_) (fun h2=>?_)
  ·have h2':(d5 ((l.map eV.Name).take i) z.Name).isSome=false:=by simpa using h2
   repeat' (first|refine a6 ?_|refine LR a7 LL ?_)
   refine iI (cs:=[.agg (fx z)]) (caps:=[]) (pV z) rfl rfl rfl rfl rfl ?_
   repeat' (first|refine LR a7 LL ?_)
   refine cZ 0 (cz ((l.map eV.Name).take (i+1))) Tryz.underlying196 Tryz.underlying9 rfl rfl trivial rfl rfl (jS hzn h2') (j9 hzn) ?_
   repeat' (first|refine a6 ?_|refine a8 ?_|refine aP ?_|refine aa ?_|refine LR a7 LL ?_|(apply aY;refine aX ?_)|fail)
   exact aE (i+1) rfl ⟨by rw [Mw];rfl,trivial⟩ (by omega) (by omega) (fun _ _ h=>h)
  ·have h2':(d5 ((l.map eV.Name).take i) z.Name).isSome=true:=by simpa using h2
   repeat' (first|refine a6 ?_|refine aq ?_|refine a8 ?_|refine aP ?_|refine aa ?_|refine LR a7 LL ?_|(apply aY;refine aX ?_)|fail)
   exact aE (i+1) rfl ⟨by rw [Mw];rfl,trivial⟩ (by omega) (by omega) (fun _ _ h=>by rw [j8 hzn h2'];exact h)
 ·have hil:i=l.length:=by have:=My h;simp at this;omega
  subst hil
  rw [List.take_of_length_le (by simp)]
  repeat' (first|refine ae ?_|refine a6 ?_|refine am ?_|refine aO ?_|refine a8 ?_|refine av ?_|refine aC ?_|refine aA ?_|refine aa ?_|refine LR a7 LL ?_)
  exact MA LL ⟨_,rfl,rfl⟩
end Go.Proofs.YtamjlkdanllgjaaGreatDoor
namespace Go.Proofs.YtamjlkdanllgjaaGreatDoor
open Go.RowKit
attribute [local irreducible] AT bz AX AO Av Kt aZ cY DA cu
set_option maxRecDepth 8000
theorem jR (names:List ByteArray) (s:ByteArray):(cz names (.string s)).getD (.sc (.int .i64 0))=aF ((d5 names s).getD 0:Nat):=by
 show (Option.map (fun n:Nat=>aF (n:Int)) (d5 names s)).getD (.sc (.int .i64 0))=_
 cases d5 names s <;> rfl
def wG (names:List ByteArray) (i:Nat) (s:ByteArray):Bool:=decide ((((d5 names s).getD 0:Nat):Int) < (i:Int))
def nh (f:aS):List ByteArray:=f.Glyphs.map bn.Name
def nC (f:aS):List ByteArray:=f.Features.map bQ.Name
def mR (f:aS):List ByteArray:=f.Axes.map eV.Name
def fK (f:aS) (i:Nat) (g:bn):Int:=py f g (pq (jd g.Name) (wG (nh f) i g.Name))
def ky (f:aS) (i:Nat) (t:bQ):Int:=xg f t (pq (ga t.Name) (wG (nC f) i t.Name))
def lO (f:aS) (i:Nat) (a:eV):Int:=x5 a (pq (jd a.Name) (wG (mR f) i a.Name))
set_option maxHeartbeats 1000000 in
theorem vQ (f:aS) (i:Nat) (g:bn) (m:Nat):AC Tryz.prog 108 [aF i,.agg (bK g),.iptr (bY f),.iptr [.sc (.map (some m))]] [(m,bV .string (cz (nh f)))] fun c L=>c=aF (fK f i g)∧L=[(m,bV .string (cz (nh f)))]:=by
 refine aI Tryz.func108 rfl Tryz.ntmps108 rfl fun B=>?_
 repeat' (first|refine ae ?_|refine a6 ?_|refine a8 ?_|refine aa ?_|refine LR a7 LL ?_|refine bi ?_|fail)
 refine bB 12 [(0,.v),(1,.v),(2,.v),(3,.v),(4,.v),(5,.v),(6,.v),(7,.v),(9,.v),(8,.e),(10,.v),(11,.v)] none ?_ trivial rfl (by kernel_rfl) (by kernel_rfl) (by kernel_rfl) mixed (by kernel_rfl) rfl
 repeat' (first|refine aJ ?_|refine bw a7 ?_|(apply cM;refine dc ?_)|fail)
 refine lX 0 (.int .i64 0) Tryz.underlying196 Tryz.underlying9 rfl rfl trivial rfl (by kernel_rfl) trivial ?_
 rw [jR]
 repeat' (first|refine aJ ?_|refine bw a7 ?_|(apply cM;refine dc ?_)|fail)
 refine MG [7,8,18] LL ?_
 repeat' (first|refine am ?_|refine a8 ?_|refine aa ?_|refine LR a7 LL ?_|(apply bk;refine b9 ?_)|fail)
 exact MA LL ⟨rfl,rfl⟩
set_option maxHeartbeats 1000000 in
theorem yD (f:aS) (i:Nat) (t:bQ) (m:Nat):AC Tryz.prog 121 [aF i,.agg (bJ t),.iptr (bY f),.iptr [.sc (.map (some m))]] [(m,bV .string (cz (nC f)))] fun c L=>c=aF (ky f i t)∧L=[(m,bV .string (cz (nC f)))]:=by
 refine aI Tryz.func121 rfl Tryz.ntmps121 rfl fun B=>?_
 repeat' (first|refine ae ?_|refine a6 ?_|refine a8 ?_|refine aa ?_|refine LR a7 LL ?_|refine bi ?_|fail)
 refine bB 12 [(0,.v),(1,.v),(2,.v),(3,.v),(4,.v),(5,.v),(6,.v),(7,.v),(9,.v),(8,.e),(10,.v),(11,.v)] none ?_ trivial rfl (by kernel_rfl) (by kernel_rfl) (by kernel_rfl) mixed (by kernel_rfl) rfl
 repeat' (first|refine aJ ?_|refine bw a7 ?_|(apply cM;refine dc ?_)|fail)
 refine lX 0 (.int .i64 0) Tryz.underlying196 Tryz.underlying9 rfl rfl trivial rfl (by kernel_rfl) trivial ?_
 rw [jR]
 repeat' (first|refine aJ ?_|refine bw a7 ?_|(apply cM;refine dc ?_)|fail)
 refine MG [7,8,18] LL ?_
 repeat' (first|refine am ?_|refine a8 ?_|refine aa ?_|refine LR a7 LL ?_|(apply bk;refine b9 ?_)|fail)
 exact MA LL ⟨rfl,rfl⟩
set_option maxHeartbeats 1000000 in
theorem ye (f:aS) (i:Nat) (a:eV) (m:Nat):AC Tryz.prog 125 [aF i,.agg (fx a),.iptr [.sc (.map (some m))]] [(m,bV .string (cz (mR f)))] fun c L=>c=aF (lO f i a)∧L=[(m,bV .string (cz (mR f)))]:=by
 refine aI Tryz.func125 rfl Tryz.ntmps125 rfl fun B=>?_
 repeat' (first|refine ae ?_|refine a6 ?_|refine a8 ?_|refine aa ?_|refine LR a7 LL ?_|refine bi ?_|fail)
 refine bB 11 [(0,.v),(1,.v),(2,.v),(3,.v),(4,.v),(5,.v),(6,.v),(8,.v),(7,.e),(9,.v),(10,.v)] none ?_ trivial rfl (by kernel_rfl) (by kernel_rfl) (by kernel_rfl) mixed (by kernel_rfl) rfl
 repeat' (first|refine aJ ?_|refine bw a7 ?_|(apply cM;refine dc ?_)|fail)
 refine lX 0 (.int .i64 0) Tryz.underlying196 Tryz.underlying9 rfl rfl trivial rfl (by kernel_rfl) trivial ?_
 rw [jR]
 repeat' (first|refine aJ ?_|refine bw a7 ?_|(apply cM;refine dc ?_)|fail)
 refine MG [6,16] LL ?_
 repeat' (first|refine am ?_|refine a8 ?_|refine aa ?_|refine LR a7 LL ?_|(apply bk;refine b9 ?_)|fail)
 exact MA LL ⟨rfl,rfl⟩
set_option maxRecDepth 8000
theorem EI (n:Nat) (hn:n≤1000000):AC Tryz.prog 316 [.sc (.slice none 0 0),aF n] [] fun c L=>∃k,c= .vec k 1 []∧L=tok k 22 1 0:=by
 refine aI Tryz.func316 rfl Tryz.ntmps316 rfl fun B=>?_
 repeat' (first|refine ae ?_|refine a6 ?_|refine aq ?_|refine a8 ?_|refine aa ?_|refine LR a7 LL ?_|refine bo rfl ?_)
 refine sE a7 rfl rfl rfl ?_
 repeat' (first|refine ae ?_|refine a6 ?_|refine a8 ?_|refine aa ?_|refine LR a7 LL ?_|(apply aY;refine aX ?_)|fail)
 by_cases h0:n=0
 ·subst h0
  repeat' (first|refine ae ?_|refine a6 ?_|refine aq ?_|refine am ?_|refine a8 ?_|refine aa ?_|refine LR a7 LL ?_|refine bo rfl ?_)
  refine br (bE (t:=4) (c':= .vec none 1 []) rfl fun σ v h=>eh 1 h) (MA LL ⟨none,rfl,rfl⟩)
 ·refine aB rfl (fun h2=>?_) (fun h2=>?_)
  ·repeat' (first|refine a6 ?_|refine LR a7 LL ?_)
   refine sE a7 rfl rfl rfl ?_
   repeat' (first|fail)
   refine Hu a7 rfl rfl rfl rfl ?_
   repeat' (first|refine LR a7 LL ?_)
   refine z2 a7 n rfl Tryz.underlying3 rfl rfl (by omega) (by omega) (by omega) (by omega) rfl fun b cap h3 h4=>?_
   repeat' (first|refine LR a7 LL ?_)
   refine C8 a7 0 rfl rfl rfl rfl (by omega) (by omega) rfl ?_
   repeat' (first|refine ae ?_|refine a6 ?_|refine am ?_|refine a8 ?_|refine aa ?_|refine LR a7 LL ?_)
   refine br (bE (t:=4) (c':= .vec (some (b,cap)) 1 []) rfl fun σ v h=>FA h4 h) (MA LL ⟨some (b,cap),rfl,rfl⟩)
  ·exact absurd (My h2) (by omega)
def q9 (l:List (List (List Int))):List (List AV):=l.map fun r=>[.imm 1 (bj r)]
def gk (l:List (List (List Int))):Nat:=(l.map List.length).sum
theorem oo {l:List (List (List Int))} {i:Nat} {r:List (List Int)} (h:l[i]?=some r):gk (l.take (i+1))=gk (l.take i)+r.length:=by
 unfold gk
 rw [List.take_add_one,h]
 simp
theorem rO (l:List (List (List Int))) (i:Nat):gk (l.take i)≤gk l:=by
 have h:((l.take i++l.drop i).map List.length).sum=(l.map List.length).sum:=by rw [List.take_append_drop]
 rw [List.map_append,List.sum_append] at h
 unfold gk
 omega
theorem Bl (l:List (List (List Int))):l.flatten.length=gk l:=by
 unfold gk
 rw [List.length_flatten]
theorem zp (a b:List (List Int)):bj a++bj b=bj (a++b):=by unfold bj;rw [List.map_append]
set_option maxHeartbeats 1000000 in
theorem vD (l:List (List (List Int))) (hs:gk l≤1000000):bD Tryz.prog 262 [.imm 1 (q9 l)] (.imm 1 (bj l.flatten)):=by
 refine aI Tryz.func262 rfl Tryz.ntmps262 rfl fun B=>?_
 have hrl:(q9 l).length=l.length:=by simp [q9]
 refine cF 0 rfl rfl fun hlen=>?_
 rw [hrl] at hlen
 repeat' (first|refine ae ?_|refine a6 ?_|refine ar ?_|refine a8 ?_|refine aa ?_|refine LR a7 LL ?_)
 refine aN [0,9,10] (α:=Nat) (fun i=>[(11,aF i),(3,aF (gk (l.take i)))]) (fun i=>i≤l.length) (fun _=>[]) (fun i=>l.length - i) 0 rfl ⟨rfl,rfl,trivial⟩ (Nat.zero_le _) (fun _ _ h=>h) fun i hi=>?_
 try dsimp only [Mt,Ms,Mr,Mn]
 repeat' (first|refine ae ?_|refine a6 ?_|refine a8 ?_|refine aa ?_|refine LR a7 LL ?_)
 refine aB rfl (fun h=>?_) (fun h=>?_)
 ·have hil:i < l.length:=by have:=Mz h;rw [hrl] at this;omega
  obtain ⟨z,hz⟩:∃z,l[i]?=some z:=⟨_,Ia hil⟩
  have hzg:(q9 l)[i]?=some [.imm 1 (bj z)]:=by simp [q9,hz]
  have hsz:=oo hz
  have hle:=rO l (i+1)
  have hzl:(bj z).length=z.length:=by simp [bj]
  repeat' (first|refine ae ?_|refine a6 ?_|refine ar ?_|refine aq ?_|refine a8 ?_|refine aP ?_|refine aa ?_|refine LR a7 LL ?_|(apply aY;refine aX ?_)|(apply aL;first|refine aK a7 ?_|refine aH a7 ?_)|refine bo rfl ?_)
  exact aE (i+1) rfl ⟨by rw [Mw];rfl,by rw [hsz,Mw,hzl];rfl,trivial⟩ (by omega) (by omega) (fun _ _ h=>h)
 have hil:i=l.length:=by have:=My h;rw [hrl] at this;omega
 subst hil
 rw [List.take_length]
 clear h
 repeat' (first|refine ae ?_|refine a6 ?_|refine aO ?_|refine a8 ?_|refine av ?_|refine aC ?_|refine aA ?_|refine LR a7 LL ?_)
 refine aW [] [] (EI (gk l) hs) rfl rfl (Mp _) rfl fun c L1 ⟨k,hc,hL⟩=>?_
 subst hc;subst hL
 rw [List.append_nil]
 repeat' (first|refine ae ?_|refine a6 ?_|refine ar ?_|refine a8 ?_|refine aa ?_|refine LR a7 LL ?_)
 refine aN [25,26] (α:=Nat×Option (Nat×Nat)) (fun x=>[(27,aF x.1),(6,.vec x.2 1 (bj (l.take x.1).flatten))]) (fun x=>x.1≤l.length) (fun x=>tok x.2 22 1 (bj (l.take x.1).flatten).length) (fun x=>l.length - x.1) (0,k) rfl ⟨rfl,rfl,trivial⟩ (Nat.zero_le _) (fun _ _ h=>h) ?_
 rintro ⟨i,k⟩ hi
 dsimp only at hi ⊢
 try dsimp only [Mt,Ms,Mr,Mn]
 repeat' (first|refine ae ?_|refine a6 ?_|refine a8 ?_|refine aa ?_|refine LR a7 LL ?_)
 refine aB rfl (fun h=>?_) (fun h=>?_)
 ·have hil:i < l.length:=by have:=Mz h;rw [hrl] at this;omega
  obtain ⟨z,hz⟩:∃z,l[i]?=some z:=⟨_,Ia hil⟩
  have hzg:(q9 l)[i]?=some [.imm 1 (bj z)]:=by simp [q9,hz]
  have hsz:=oo hz
  have hle:=rO l (i+1)
  have hzl:(bj z).length=z.length:=by simp [bj]
  have hfl:(bj (l.take i).flatten).length=gk (l.take i):=by rw [c8,Bl]
  have hcat:bj (l.take i).flatten++bj z=bj (l.take (i+1)).flatten:=by rw [zp,List.take_add_one,hz];simp
  repeat' (first|refine ae ?_|refine a6 ?_|refine ar ?_|refine aq ?_|refine a8 ?_|refine aa ?_|refine LR a7 LL ?_|(apply aL;first|refine aK a7 ?_|refine aH a7 ?_)|fail)
  refine cr a7 [] rfl rfl rfl rfl (by rw [List.append_nil]) (by rw [hfl,hzl];omega) (by rw [hfl,hzl];omega) rfl fun k'=>?_
  rw [hcat,List.append_nil]
  repeat' (first|refine a6 ?_|refine a8 ?_|refine aP ?_|refine aa ?_|refine LR a7 LL ?_|(apply aY;refine aX ?_)|fail)
  exact aE (i+1,k') rfl ⟨by rw [Mw];rfl,rfl,trivial⟩ (by dsimp only;omega) (by dsimp only;omega) (fun _ _ h=>h)
 ·have hil:i=l.length:=by have:=My h;rw [hrl] at this;omega
  subst hil
  rw [List.take_length]
  repeat' (first|refine ae ?_|refine a6 ?_|refine am ?_|refine aO ?_|refine a8 ?_|refine av ?_|refine aC ?_|refine aA ?_|refine aa ?_|refine LR a7 LL ?_)
  exact AE rfl rfl rfl rfl
end Go.Proofs.YtamjlkdanllgjaaGreatDoor
