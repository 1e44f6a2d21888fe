/-
  Code points: their kinds and classes, their forms.
-/
import Derived.Test.YtamjlkdanllgjaaGreatDoorM24
import Derived.Test.YtamjlkdanllgjaaGreatDoorM07
import Derived.Test.YtamjlkdanllgjaaGreatDoorM05
import Derived.Test.YtamjlkdanllgjaaGreatDoorM06
import Derived.Test.YtamjlkdanllgjaaGreatDoorM11
import Derived.Test.YtamjlkdanllgjaaGreatDoorM13
import Derived.Test.YtamjlkdanllgjaaGreatDoorM12
import Derived.Test.YtamjlkdanllgjaaGreatDoorM10
namespace Go.Proofs.YtamjlkdanllgjaaGreatDoor
open Go.RowKit
attribute [local irreducible] AT bB AX AO Av Kt ba dt DA cz
set_option maxRecDepth 8000
theorem Cy (r:Int):bH Tryz.prog 40 [aH r] (aH (d3 r)):=by
 refine aP Tryz.func40 rfl Tryz.ntmps40 rfl fun B=>?_
 repeat' (first|refine ae ?_|refine a6 ?_|refine am ?_|refine a8 ?_|refine aa ?_|refine LF a7 I9 ?_)
 refine cN [0] (57344≤r∧r≤57599) rfl (fun Q' K=>?_) (fun hC0=>?_) (fun hC0=>?_)
 ·repeat' (first|refine aa ?_|refine LF a7 I9 ?_|refine LN I9 ?_|refine LO LB ?_|refine bc rfl rfl rfl (fun _=>?_) (fun _=>?_))
  all_goals exact K _ _ rfl rfl (by simp_all <;> omega)
 ·repeat' (first|refine ae ?_|refine a6 ?_|refine aq ?_|refine a8 ?_|refine aC ?_|refine aQ ?_|refine aa ?_|refine LF a7 I9 ?_)
  exact LM I9 (by rw [d3,if_pos hC0])
 repeat' (first|refine ae ?_|refine a6 ?_|refine LF a7 I9 ?_)
 refine cN [0] (57600≤r∧r≤57855) rfl (fun Q' K=>?_) (fun hC1=>?_) (fun hC1=>?_)
 ·repeat' (first|refine aa ?_|refine LF a7 I9 ?_|refine LN I9 ?_|refine LO LB ?_|refine bc rfl rfl rfl (fun _=>?_) (fun _=>?_))
  all_goals exact K _ _ rfl rfl (by simp_all <;> omega)
 ·repeat' (first|refine ae ?_|refine a6 ?_|refine aq ?_|refine a8 ?_|refine aC ?_|refine aQ ?_|refine aa ?_|refine LF a7 I9 ?_)
  exact LM I9 (by rw [d3,if_neg hC0,if_pos hC1])
 repeat' (first|refine ae ?_|refine a6 ?_|refine LF a7 I9 ?_)
 refine cN [0] (57856≤r∧r≤58111) rfl (fun Q' K=>?_) (fun hC2=>?_) (fun hC2=>?_)
 ·repeat' (first|refine aa ?_|refine LF a7 I9 ?_|refine LN I9 ?_|refine LO LB ?_|refine bc rfl rfl rfl (fun _=>?_) (fun _=>?_))
  all_goals exact K _ _ rfl rfl (by simp_all <;> omega)
 ·repeat' (first|refine ae ?_|refine a6 ?_|refine aq ?_|refine a8 ?_|refine aC ?_|refine aQ ?_|refine aa ?_|refine LF a7 I9 ?_)
  exact LM I9 (by rw [d3,if_neg hC0,if_neg hC1,if_pos hC2])
 repeat' (first|refine ae ?_|refine a6 ?_|refine LF a7 I9 ?_)
 refine cN [0] (58112≤r∧r≤58367) rfl (fun Q' K=>?_) (fun hC3=>?_) (fun hC3=>?_)
 ·repeat' (first|refine aa ?_|refine LF a7 I9 ?_|refine LN I9 ?_|refine LO LB ?_|refine bc rfl rfl rfl (fun _=>?_) (fun _=>?_))
  all_goals exact K _ _ rfl rfl (by simp_all <;> omega)
 ·repeat' (first|refine ae ?_|refine a6 ?_|refine aq ?_|refine a8 ?_|refine aC ?_|refine aQ ?_|refine aa ?_|refine LF a7 I9 ?_)
  exact LM I9 (by rw [d3,if_neg hC0,if_neg hC1,if_neg hC2,if_pos hC3])
 repeat' (first|refine ae ?_|refine a6 ?_|refine LF a7 I9 ?_)
 refine cN [] (58368≤r∧r≤58623) rfl (fun Q' K=>?_) (fun hC4=>?_) (fun hC4=>?_)
 ·repeat' (first|refine aa ?_|refine LF a7 I9 ?_|refine LN I9 ?_|refine LO LB ?_|refine bc rfl rfl rfl (fun _=>?_) (fun _=>?_))
  all_goals exact K _ _ rfl rfl (by simp_all <;> omega)
 ·repeat' (first|refine ae ?_|refine a6 ?_|refine aq ?_|refine a8 ?_|refine aC ?_|refine aQ ?_|refine aa ?_|refine LF a7 I9 ?_)
  exact LM I9 (by rw [d3,if_neg hC0,if_neg hC1,if_neg hC2,if_neg hC3,if_pos hC4])
 repeat' (first|refine ae ?_|refine a6 ?_|refine au ?_|refine aq ?_|refine a8 ?_|refine aM ?_|refine aa ?_|refine LF a7 I9 ?_)
 exact LM I9 (by rw [d3,if_neg hC0,if_neg hC1,if_neg hC2,if_neg hC3,if_neg hC4])
instance (r:Int):AD Tryz.prog 40 [aH r] (aH (d3 r)):=⟨Cy r⟩
theorem zo (r:Int):bH Tryz.prog 68 [aH r] (aH (qd r)):=by
 refine aP Tryz.func68 rfl Tryz.ntmps68 rfl fun B=>?_
 repeat' (first|refine ae ?_|refine a6 ?_|refine a8 ?_|refine aa ?_|refine LF a7 I9 ?_|(apply bw;refine bi ?_)|fail)
 refine ay rfl (fun h=>?_) (fun h=>?_)
 ·repeat' (first|refine ae ?_|refine a6 ?_|refine aq ?_|refine a8 ?_|refine aC ?_|refine aa ?_|refine LF a7 I9 ?_)
  exact LM I9 (by rw [qd,if_neg (by simpa using h)])
 ·repeat' (first|refine ae ?_|refine a6 ?_|refine au ?_|refine a8 ?_|refine LF a7 I9 ?_)
  refine x6 rfl rfl rfl ?_
  repeat' (first|refine aq ?_|refine a8 ?_|refine aa ?_|refine LF a7 I9 ?_)
  exact LM I9 (by rw [qd,if_pos (by simpa using h)])
instance (r:Int):AD Tryz.prog 68 [aH r] (aH (qd r)):=⟨zo r⟩
theorem D1 (a:Int):bH Tryz.prog 148 [aH a] (cQ false):=by
 refine aP Tryz.func148 rfl Tryz.ntmps148 rfl fun B=>?_
 repeat' (first|refine ae ?_|refine a6 ?_|refine aq ?_|refine a8 ?_|refine aa ?_|refine LF a7 I9 ?_)
 exact LM I9 (by simp)
instance (a:Int):AD Tryz.prog 148 [aH a] (cQ false):=⟨D1 a⟩
def tj (a b:Int):Int:=if a < b then -1 else if b < a then 1 else 0
theorem EC (a b:Int):bH Tryz.prog 67 [aH a,aH b] (aH (tj a b)):=by
 refine aP Tryz.func67 rfl Tryz.ntmps67 rfl fun B=>?_
 repeat' (first|refine ae ?_|refine a6 ?_|refine au ?_|refine a8 ?_|refine aa ?_|refine LF a7 I9 ?_|(apply bw;refine bi ?_)|refine bk rfl ?_)
 refine ay rfl (fun h=>?_) (fun h=>?_)
 ·repeat' (first|refine ae ?_|refine a6 ?_|refine aq ?_|refine a8 ?_|refine aC ?_|refine aa ?_|refine LF a7 I9 ?_)
  exact LM I9 (by rw [tj,if_pos (Ly h)])
 ·repeat' (first|refine ae ?_|refine a6 ?_|refine au ?_|refine a8 ?_|refine aa ?_|refine LF a7 I9 ?_)
  refine ay rfl (fun h2=>?_) (fun h2=>?_)
  ·repeat' (first|refine ae ?_|refine a6 ?_|refine aq ?_|refine a8 ?_|refine aC ?_|refine aa ?_|refine LF a7 I9 ?_)
   exact LM I9 (by rw [tj,if_neg (Lw h),if_pos (Ly h2)])
  ·repeat' (first|refine ae ?_|refine a6 ?_|refine au ?_|refine aq ?_|refine a8 ?_|refine aa ?_|refine LF a7 I9 ?_)
   exact LM I9 (by rw [tj,if_neg (Lw h),if_neg (Lw h2)])
instance (a b:Int):AD Tryz.prog 67 [aH a,aH b] (aH (tj a b)):=⟨EC a b⟩
theorem eC {l:List Int} {i:Nat} (h:i < l.length):l[i]?=some (l.getD i 0):=by
 rw [List.getD_eq_getElem?_getD,Lz h];rfl
theorem xW (rs:List Int) (a b:Nat) (ha:a < rs.length) (hb:b < rs.length):bH Tryz.prog 66 [aH a,aH b,.iptr [.imm 1 (aO rs)]] (aH (tj (lD rs a) (lD rs b))):=by
 refine aP Tryz.func66 rfl Tryz.ntmps66 rfl fun B=>?_
 have h1:=bO (eC ha)
 have h2:=bO (eC hb)
 repeat' (first|refine ae ?_|refine a6 ?_|refine a8 ?_|refine aa ?_|refine LF a7 I9 ?_)
 refine bI 9 [(0,.v),(1,.v),(2,.v),(3,.v),(4,.v),(5,.v),(6,.v),(7,.v),(8,.v)] none ?_ trivial rfl (by kernel_rfl) (by kernel_rfl) (by kernel_rfl) mixed (by kernel_rfl) rfl
 repeat' (first|refine aF ?_|refine b9 a7 ?_|(apply cE;refine d5 a7 ?_)|(apply du;refine dT ?_)|fail)
 refine LP [10,14] I9 ?_
 repeat' (first|refine aq ?_|refine a8 ?_|refine aa ?_|refine LF a7 I9 ?_|(apply bw;refine bi ?_)|fail)
 exact LK LA
theorem DK (b:Nat) (rs fs:List Int) (i j:Nat) (hi:i < rs.length) (hj:j < rs.length) (hl:fs.length=rs.length):AC Tryz.prog 42 [.imm 1 (aO rs),.sc (.slice (some ⟨b,0,none⟩) rs.length rs.length),aH i,aH j] [(b,.box (fs.map aH) 3)] fun _ L=>L=[(b,.box ((oC rs fs i j).map aH) 3)]:=by
 refine aP Tryz.func42 rfl Tryz.ntmps42 rfl fun B=>?_
 have h1:=bO (eC hi)
 have h2:=bO (eC hj)
 repeat' (first|refine ae ?_)
 refine bI 9 [(0,.v),(1,.v),(2,.v),(3,.v),(4,.v),(5,.v),(6,.v),(7,.v),(8,.v)] none ?_ trivial rfl (by kernel_rfl) (by kernel_rfl) (by kernel_rfl) mixed (by kernel_rfl) rfl
 repeat' (first|refine aF ?_|refine b9 a7 ?_|(apply cE;refine d5 a7 ?_)|(apply du;refine dT ?_)|fail)
 refine LP [1,2,3,14,18] I9 ?_
 repeat' (first|refine ae ?_|refine a6 ?_|refine a8 ?_|refine aa ?_|refine LF a7 I9 ?_|(apply bw;refine bi ?_)|fail)
 refine cN [1,2,3] (¬(d3 (rs.getD i 0)=2∧(d3 (rs.getD j 0)=1∨d3 (rs.getD j 0)=2))) rfl (fun Q' K=>?_) (fun hC=>?_) (fun hC=>?_)
 ·repeat' (first|refine aa ?_|refine LF a7 I9 ?_|refine LN I9 ?_|refine LO LB ?_|refine dk rfl rfl rfl ?_|refine bc rfl rfl rfl (fun _=>?_) (fun _=>?_))
  all_goals exact K _ _ rfl rfl (by simp_all <;> omega)
 ·repeat' (first|refine aq ?_|refine aC ?_)
  exact tf rfl (by rw [oC,if_neg hC])
 ·have hC:=Classical.not_not.1 hC
  rw [oC,if_pos hC]
  repeat' (first|refine ae ?_|refine a6 ?_|refine au ?_|refine a8 ?_|refine LF a7 I9 ?_|(apply aU;first|refine aT a7 ?_|refine aN a7 ?_)|fail)
  refine mS a7 0 j rfl rfl (by omega) rfl rfl (by omega) ?_
  have h3:(fs.set j 4)[i]?=some ((fs.set j 4).getD i 0):=eC (by rw [List.length_set];omega)
  repeat' (first|refine ae ?_|refine a6 ?_|refine a8 ?_|refine aa ?_|refine LF a7 I9 ?_|(apply aU;first|refine aT a7 ?_|refine aN a7 ?_)|fail)
  refine Fn a7 0 i rfl rfl (by omega) rfl h3 rfl ?_
  repeat' (first|refine a8 ?_|refine aa ?_|refine LF a7 I9 ?_)
  refine ay rfl (fun h=>?_) (fun h=>?_)
  ·rw [if_pos (Ly h)]
   repeat' (first|refine a6 ?_|refine LF a7 I9 ?_|(apply aU;first|refine aT a7 ?_|refine aN a7 ?_)|fail)
   refine mS a7 0 i rfl rfl (by omega) rfl rfl (by rw [List.length_set];omega) ?_
   repeat' (first|refine aa ?_)
   exact cX rfl rfl
  ·rw [if_neg (Lw h)]
   repeat' (first|refine a6 ?_|refine LF a7 I9 ?_|(apply aU;first|refine aT a7 ?_|refine aN a7 ?_)|fail)
   refine mS a7 0 i rfl rfl (by omega) rfl rfl (by rw [List.length_set];omega) ?_
   repeat' (first|refine aa ?_)
   exact cX rfl rfl
def IA:Option Nat→Int
 | none=> -1
 | some a=>a
theorem su (rs:List Int) (hr:rs.length≤1000000):bH Tryz.prog 21 [.imm 1 (aO rs)] (.imm 1 (aO (jS rs))):=by
 refine aP Tryz.func21 rfl Tryz.ntmps21 rfl fun B=>?_
 have hil:=aW rs
 repeat' (first|refine ae ?_|refine a6 ?_|refine a8 ?_|refine aa ?_|refine LF a7 I9 ?_)
 refine ep a7 rs.length rfl rfl rfl rfl rfl (by rw [hil]) (by rw [hil]) (by omega) (by omega) rfl fun b=>?_
 repeat' (first|refine ae ?_|refine a6 ?_|refine am ?_|refine a8 ?_|refine aa ?_|refine LF a7 I9 ?_)
 have hz:(List.replicate rs.length ([Value.int .i64 0].map AV.sc)).flatten=(List.replicate rs.length (0:Int)).map aH:=by
  simp [List.map_replicate,List.flatten_replicate_singleton]
 rw [hz]
 refine aJ [0,3,11,12] (α:=Nat) (fun i=>[(4,aH (IA (gF rs i).2)),(13,aH i)]) (fun i=>i≤rs.length) (fun i=>[(b,.box ((gF rs i).1.map aH) 3)]) (fun i=>rs.length - i) 0 rfl ⟨rfl,rfl,trivial⟩ (Nat.zero_le _) (fun _ _ h=>h) fun i hi=>?_
 try dsimp only [Lp,Lo,Ln,Lh]
 have hok:=nM rs i
 rw [show (aH (IA (gF rs i).2))=aH (IA (gF rs i).2) from rfl]
 generalize hs:gF rs i=s at hok
 obtain ⟨fs,q⟩:=s
 have hfl:fs.length=rs.length:=hok.len
 dsimp only
 repeat' (first|refine ae ?_|refine a6 ?_|refine a8 ?_|refine aa ?_|refine LF a7 I9 ?_)
 refine ay rfl (fun h=>?_) (fun h=>?_)
 ·have hil2:i < rs.length:=by have:=Ly h;omega
  have h1:=bO (eC hil2)
  have hsu:=oA rs i
  rw [hs] at hsu
  unfold vO at hsu
  dsimp only at hsu
  repeat' (first|refine ae ?_|refine a6 ?_|refine am ?_|refine au ?_|refine a8 ?_|refine aa ?_|refine LF a7 I9 ?_|(apply aU;first|refine aT a7 ?_|refine aN a7 ?_)|(apply bw;refine bi ?_)|fail)
  refine ay rfl (fun h3=>?_) (fun h3=>?_)
  ·rw [if_pos (Ly h3)] at hsu
   repeat' (first|refine a6 ?_|refine aL ?_|refine a8 ?_|refine av ?_|refine aA ?_|refine aa ?_|refine LF a7 I9 ?_|(apply aY;refine aX ?_)|fail)
   exact aE (i+1) rfl ⟨by rw [hsu];rfl,by rw [Ls];rfl,trivial⟩ (by omega) (by omega) (fun _ _ h=>by rw [hsu];exact h)
  ·rw [if_neg (Lw h3)] at hsu
   repeat' (first|refine ae ?_|refine a6 ?_|refine au ?_|refine a8 ?_|refine LF a7 I9 ?_)
   refine Ev [0,3,4,5,11,12,13] [(b,.box ((if d3 (rs.getD i 0)=1∨d3 (rs.getD i 0)=2 then fs.set i 1 else fs).map aH) 3)] rfl (fun Q1 K1=>?_) ?_
   ·refine cN [0,3,4,5,11,12,13] (d3 (rs.getD i 0)=1∨d3 (rs.getD i 0)=2) rfl (fun Q' K=>?_) (fun hC=>?_) (fun hC=>?_)
    ·repeat' (first|refine aa ?_|refine LF a7 I9 ?_|refine LN I9 ?_|refine LO LB ?_|refine bc rfl rfl rfl (fun _=>?_) (fun _=>?_))
     all_goals exact K _ _ rfl rfl (by simp_all <;> omega)
    ·rw [if_pos hC] at K1
     repeat' (first|refine a6 ?_|refine LF a7 I9 ?_|(apply aU;first|refine aT a7 ?_|refine aN a7 ?_)|fail)
     refine mS a7 0 i rfl rfl (by omega) rfl rfl (by omega) ?_
     repeat' (first|refine aa ?_)
     exact K1 _ rfl
    ·rw [if_neg hC] at K1
     repeat' (first|refine au ?_)
     exact K1 _ rfl
   have hgl:(if d3 (rs.getD i 0)=1∨d3 (rs.getD i 0)=2 then fs.set i 1 else fs).length=rs.length:=by
    split
    ·rw [List.length_set];exact hfl
    ·exact hfl
   generalize (if d3 (rs.getD i 0)=1∨d3 (rs.getD i 0)=2 then fs.set i 1 else fs)=gs at hsu hgl
   cases q with
   | none=>
    dsimp only at hsu
    unfold IA
    repeat' (first|refine ae ?_|refine a6 ?_|refine au ?_|refine a8 ?_|refine aM ?_|refine aa ?_|refine LF a7 I9 ?_|(apply aY;refine aX ?_)|refine bk rfl ?_)
    exact aE (i+1) rfl ⟨by rw [hsu];rfl,by rw [Ls];rfl,trivial⟩ (by omega) (by omega) (fun _ _ h=>by rw [hsu];exact h)
   | some a=>
    dsimp only at hsu
    have ha:=hok.at_ a rfl
    unfold IA
    repeat' (first|refine ae ?_|refine a6 ?_|refine a8 ?_|refine aa ?_|refine LF a7 I9 ?_|refine bV rfl ?_)
    refine bh [(b,.box (gs.map aH) 3)] [] (DK b rs gs a i (by omega) hil2 hgl) rfl rfl (Ll _) rfl fun c L1 hL=>?_
    subst hL
    repeat' (first|refine a6 ?_|refine a8 ?_|refine aM ?_|refine aa ?_|refine LF a7 I9 ?_|(apply aY;refine aX ?_)|fail)
    exact aE (i+1) rfl ⟨by rw [hsu];rfl,by rw [Ls];rfl,trivial⟩ (by omega) (by omega) (fun _ _ h=>by rw [hsu];exact h)
 ·have hil2:i=rs.length:=by have:=Lw h;omega
  subst hil2
  repeat' (first|refine ae ?_|refine a6 ?_|refine aq ?_|refine aL ?_|refine a8 ?_|refine av ?_|refine aA ?_|refine aw ?_|refine aa ?_|refine LF a7 I9 ?_)
  refine b6 (B5 (t:=2) fs 0 rfl rfl (List.take_of_length_le (by omega)) (by omega) (Nat.le_refl _) (by unfold maxLen;omega)) ?_
  exact LM I9 (by unfold jS;rw [hs])
set_option maxRecDepth 8000
def Bd (u:AV) (key:Nat→Int) (D:Nat→Prop):Prop:=∀a b,D a→D b→ja Tryz.prog u [aH a,aH b] [] fun c L=>c=aH (tj (key a) (key b))∧L=[]
def il (p rest:List Nat) (x j:Nat):List Nat:=p.take j++x::(p.drop j++rest)
theorem n9 (p rest:List Nat) (x j:Nat):(il p rest x j).length=p.length+1+rest.length:=by
 unfold il
 rw [List.length_append,List.length_cons,List.length_append]
 have:=congrArg List.length (List.take_append_drop j p)
 rw [List.length_append] at this
 omega
theorem yF {p rest:List Nat} {x j:Nat} (h:j≤p.length):(il p rest x j)[j]?=some x:=by
 unfold il
 rw [List.getElem?_append_right (by rw [List.length_take];omega),List.length_take,Nat.min_eq_left h,Nat.sub_self]
 rfl
theorem xj {p rest:List Nat} {x j:Nat} (h:j+1≤p.length):(il p rest x (j+1))[j]?=p[j]?:=by
 unfold il
 rw [List.getElem?_append_left (by rw [List.length_take];omega),List.getElem?_take_of_lt (by omega)]
theorem Ar {p rest:List Nat} {x y j:Nat} (h:p[j]?=some y):((il p rest x (j+1)).set (j+1) y).set j x=il p rest x j:=by
 have hj:=(Lm h).1
 have hy:p[j]=y:=by rw [Lz hj] at h;exact Option.some.inj h
 apply List.ext_getElem?
 intro i
 have hl:(il p rest x (j+1)).length=(il p rest x j).length:=by rw [n9,n9]
 have hjl:j+1 < (il p rest x (j+1)).length:=by rw [n9];omega
 by_cases h1:i=j
 ·subst h1
  rw [List.getElem?_set_self (by rw [List.length_set];omega),yF (by omega)]
 ·rw [List.getElem?_set_ne (by omega)]
  by_cases h2:i=j+1
  ·subst h2
   rw [List.getElem?_set_self hjl]
   unfold il
   rw [List.getElem?_append_right (by rw [List.length_take];omega),List.length_take,Nat.min_eq_left (by omega),show j+1 - j=0+1 by omega,List.getElem?_cons_succ,List.drop_eq_getElem_cons hj]
   simp [hy]
  ·rw [List.getElem?_set_ne (by omega)]
   unfold il
   by_cases h3:i < j
   ·rw [List.getElem?_append_left (by rw [List.length_take];omega),List.getElem?_append_left (by rw [List.length_take];omega),List.getElem?_take_of_lt (by omega),List.getElem?_take_of_lt (by omega)]
   ·rw [List.getElem?_append_right (by rw [List.length_take];omega),List.getElem?_append_right (by rw [List.length_take];omega),List.length_take,List.length_take,Nat.min_eq_left (by omega),Nat.min_eq_left (by omega)]
    rw [show i - (j+1)=(i - j - 2)+1 by omega,show i - j=(i - j - 2)+1+1 by omega,List.getElem?_cons_succ,List.getElem?_cons_succ,List.drop_eq_getElem_cons hj,Lp,List.getElem?_cons_succ]
    rfl
theorem Dt (p rest:List Nat) (x:Nat):il p rest x p.length=p++x::rest:=by unfold il;simp
theorem vH (key:Nat→Int) (p rest:List Nat) (x:Nat):il p rest x (qA key x p p.length)=wR key p x++rest:=by unfold il wR;simp
def di (l:List Nat):List AV:=l.map fun (n:Nat)=>aH n
theorem eT (l:List Nat):(di l).length=l.length:=Lr ..
theorem vp {l:List Nat} {i v:Nat} (h:l[i]?=some v):(di l)[i]?=some (aH v):=by simp [di,h]
theorem vq (l:List Nat) (i v:Nat):(di l).set i (aH v)=di (l.set i v):=by simp [di,List.map_set]
theorem yo {a c m:List AV} {i:Nat} (h:i < m.length):(a++(m++c))[a.length+i]?=m[i]?:=by
 rw [List.getElem?_append_right (by omega),Nat.add_sub_cancel_left,List.getElem?_append_left h]
theorem yp {a c m:List AV} {i:Nat} {v:AV} (h:i < m.length):(a++(m++c)).set (a.length+i) v=a++(m.set i v++c):=by
 rw [List.set_append_right _ _ (by omega),Nat.add_sub_cancel_left,List.set_append_left _ _ h]
set_option maxHeartbeats 4000000 in
theorem zR (g:FuncId) (caps:List AV) (key:Nat→Int) (D:Nat→Prop) (hu:Bd (.fn g caps) key D) (b cap:Nat) (pre post:List AV) (l:List Nat) (hD:∀x∈l,D x) (hl:l.length≤1000000):
  AC Tryz.prog 228 [.sc (.slice (some ⟨b,pre.length,none⟩) l.length cap),aH 0,aH l.length,.fn g caps] [(b,.box (pre++(di l++post)) 3)] fun _ L=>L=[(b,.box (pre++(di (fa key l)++post)) 3)]:=by
 refine aP Tryz.func228 rfl Tryz.ntmps228 rfl fun B=>?_
 have h0:fa key (l.take 1)++l.drop 1=l:=by
  cases l with
  | nil=>rfl
  | cons x r=>rfl
 repeat' (first|refine ae ?_|refine a6 ?_|refine am ?_|refine a8 ?_|refine aa ?_|refine LF a7 I9 ?_|(apply aY;refine aX ?_)|fail)
 refine aJ [0,1,2,3] (α:=Nat) (fun i=>[(8,aH i)]) (fun i=>1≤i∧i≤max l.length 1) (fun i=>[(b,.box (pre++(di (fa key (l.take i)++l.drop i)++post)) 3)]) (fun i=>l.length+1 - i) 1 rfl ⟨rfl,trivial⟩ ⟨Nat.le_refl _,by omega⟩ (fun _ _ h=>by rw [h0];exact h) fun i hi=>?_
 try dsimp only [Lp,Lo,Ln,Lh]
 repeat' (first|refine ae ?_|refine a6 ?_|refine a8 ?_|refine aa ?_|refine LF a7 I9 ?_)
 refine ay rfl (fun h=>?_) (fun h=>?_)
 ·have hil:i < l.length:=by have:=Ly h;omega
  obtain ⟨x,hx⟩:∃x,l[i]?=some x:=⟨_,Lz hil⟩
  have hdx:D x:=hD x (Lv hx)
  have hsucc:fa key (l.take (i+1))=wR key (fa key (l.take i)) x:=by
   unfold fa
   rw [List.take_add_one,hx,List.foldl_append]
   rfl
  have hpl:(fa key (l.take i)).length=i:=by rw [(lw _ _).length_eq,List.length_take];omega
  have hpD:∀y∈fa key (l.take i),D y:=fun y hy=>hD y (List.mem_of_mem_take ((lw _ _).mem_iff.1 hy))
  have hdr:l.drop i=x::l.drop (i+1):=by
   rw [List.drop_eq_getElem_cons hil]
   congr 1
   rw [Lz hil] at hx
   exact Option.some.inj hx
  have hrl:(l.drop (i+1)).length=l.length - (i+1):=List.length_drop ..
  rw [hdr]
  generalize fa key (l.take i)=p at *
  generalize hrest:l.drop (i+1)=rest at *
  clear h
  repeat' (first|refine ae ?_|refine a6 ?_|refine am ?_|refine au ?_|refine a8 ?_|refine aa ?_|refine LF a7 I9 ?_)
  refine aJ [0,1,2,3,8] (α:=Nat) (fun j=>[(9,aH j)]) (fun j=>j≤i∧qA key x p j=qA key x p p.length) (fun j=>[(b,.box (pre++(di (il p rest x j)++post)) 3)]) (fun j=>j) i rfl ⟨rfl,trivial⟩ ⟨Nat.le_refl _,by rw [hpl]⟩ (fun _ _ h=>by rw [←hpl,Dt];exact h) fun j hj=>?_
  try dsimp only [Lp,Lo,Ln,Lh]
  have hrow:(di (il p rest x j)).length=l.length:=by rw [eT,n9,hpl,hrl];omega
  obtain ⟨hji,hins⟩:=hj
  cases j with
  | zero=>
   repeat' (first|refine ae ?_)
   refine bI 17 [(0,.v),(1,.v),(2,.v),(3,.v),(4,.v),(5,.v),(6,.v),(7,.v),(8,.v),(9,.v),(10,.v),(11,.v),(12,.v),(13,.v),(14,.v),(15,.v),(16,.v)] none ?_ trivial rfl (by kernel_rfl) (by kernel_rfl) (by kernel_rfl) mixed (by kernel_rfl) rfl
   repeat' (first|refine aF ?_|refine b9 a7 ?_|refine qj rfl rfl ?_)
   refine LP [0,1,2,3,8,34] I9 ?_
   repeat' (first|refine a6 ?_|refine aL ?_|refine a8 ?_|refine av ?_|refine aM ?_|refine aA ?_|refine aw ?_|refine aa ?_|refine LF a7 I9 ?_|(apply aY;refine aX ?_)|refine bk rfl ?_)
   have hj1:qA key x p p.length=0:=by rw [←hins];rfl
   refine aE (i+1) rfl ⟨by rw [Ls];rfl,trivial⟩ ⟨by omega,by omega⟩ (by omega) (fun _ _ h=>?_)
   rw [hsucc,hrest,←vH,hj1]
   exact h
  | succ j=>
   obtain ⟨y,hy⟩:∃y,p[j]?=some y:=⟨_,Lz (by omega)⟩
   have hdy:D y:=hpD y (Lv hy)
   have g1:(pre++(di (il p rest x (j+1))++post))[pre.length+(j+1)]?=some (aH x):=by
    rw [yo (by omega)]
    exact vp (yF (by omega))
   have g2:(pre++(di (il p rest x (j+1))++post))[pre.length+j]?=some (aH y):=by
    rw [yo (by omega)]
    exact vp (by rw [xj (by omega)];exact hy)
   repeat' (first|refine ae ?_)
   refine bI 14 [(0,.v),(1,.v),(2,.v),(3,.v),(4,.v),(5,.v),(6,.v),(7,.v),(8,.l),(9,.v),(10,.v),(11,.v),(12,.v),(13,.l)] none ?_ trivial rfl (by kernel_rfl) (by kernel_rfl) (by kernel_rfl) mixed (by kernel_rfl) rfl
   repeat' (first|refine aF ?_|refine b9 a7 ?_|fail)
   rw [decide_eq_true (show (0:Int) < ((j+1:Nat):Int) by omega)]
   repeat' (first|refine aF ?_|refine b9 a7 ?_|fail)
   refine df a7 rfl rfl rfl ⟨by omega,by omega⟩ (by first | trivial | rfl) ?_
   repeat' (first|refine aF ?_|fail)
   refine mB a7 0 (pre.length+(j+1)) rfl rfl (by omega) rfl g1 (by first | trivial | rfl) ?_
   repeat' (first|refine aF ?_|refine b9 a7 ?_|(apply eA;refine fX ?_)|fail)
   refine df a7 rfl rfl rfl ⟨by omega,by omega⟩ (by first | trivial | rfl) ?_
   repeat' (first|refine aF ?_|fail)
   refine mB a7 0 (pre.length+j) rfl rfl (by omega) rfl g2 (by first | trivial | rfl) ?_
   repeat' (first|fail)
   refine LP [0,1,2,3,8,9,21,22,26,31] I9 ?_
   repeat' (first|refine LN I9 ?_)
   refine lm [] [(b,.box (pre++(di (il p rest x (j+1))++post)) 3)] (hu x y hdx hdy) rfl rfl (Ll _) rfl rfl fun c L1 ⟨hc,hL⟩=>?_
   subst hc;subst hL
   repeat' (first|refine a8 ?_|refine aa ?_|refine LF a7 I9 ?_|refine LN I9 ?_)
   refine ay rfl (fun h=>?_) (fun h=>?_)
   ·have hlt:key x < key y:=by
     have:=Ly h
     unfold tj at this
     split at this
     ·assumption
     ·split at this <;> omega
    clear h
    repeat' (first|refine ae ?_|refine am ?_|refine au ?_|refine a8 ?_)
    refine bI 16 [(0,.v),(1,.v),(2,.v),(3,.v),(4,.v),(5,.v),(6,.v),(7,.v),(8,.v),(9,.l),(10,.v),(11,.v),(12,.v),(13,.l),(14,.v),(15,.e)] none ?_ trivial rfl (by kernel_rfl) (by kernel_rfl) (by kernel_rfl) mixed (by kernel_rfl) rfl
    repeat' (first|refine aF ?_|refine b9 a7 ?_|(apply eA;refine fX ?_)|fail)
    refine df a7 rfl rfl rfl ⟨by omega,by omega⟩ (by first | trivial | rfl) ?_
    repeat' (first|refine aF ?_|fail)
    refine mB a7 0 (pre.length+j) rfl rfl (by omega) rfl g2 (by first | trivial | rfl) ?_
    repeat' (first|refine aF ?_|refine b9 a7 ?_|fail)
    refine df a7 rfl rfl rfl ⟨by omega,by omega⟩ (by first | trivial | rfl) ?_
    repeat' (first|refine aF ?_|fail)
    refine mB a7 0 (pre.length+(j+1)) rfl rfl (by omega) rfl g1 (by first | trivial | rfl) ?_
    repeat' (first|refine aF ?_|fail)
    refine df a7 rfl rfl rfl ⟨by omega,by omega⟩ (by first | trivial | rfl) ?_
    repeat' (first|refine aF ?_|fail)
    refine C5 a7 0 (pre.length+(j+1)) rfl rfl (by omega) rfl rfl rfl (by simp only [List.length_append];omega) (by first | trivial | rfl) fun _=>?_
    repeat' (first|fail)
    refine LP [0,1,2,3,8,9,39,41,50] I9 ?_
    repeat' (first|(apply aU;first|refine aT a7 ?_|refine aN a7 ?_)|fail)
    refine jt a7 0 (pre.length+j) rfl rfl (by omega) rfl rfl rfl (by simp only [List.length_set,List.length_append];omega) ?_
    repeat' (first|refine a6 ?_|refine a8 ?_|refine aM ?_|refine aa ?_|refine LF a7 I9 ?_|(apply aY;refine aX ?_)|fail)
    have hsw:((pre++(di (il p rest x (j+1))++post)).set (pre.length+(j+1)) (aH y)).set (pre.length+j) (aH x)=pre++(di (il p rest x j)++post):=by
     rw [yp (by omega),vq,yp (by rw [eT,List.length_set,←eT];omega),vq,Ar hy]
    rw [hsw]
    refine aE j rfl ⟨?_,trivial⟩ ⟨by omega,?_⟩ (by omega) (fun _ _ h=>h)
    ·rw [show ((j+1:Nat):Int) - 1=(j:Int) by omega];rfl
    ·rw [←hins,qA,if_pos (by rw [List.getD_eq_getElem?_getD,hy];exact hlt)]
   ·have hlt:¬key x < key y:=by
     have:=Lw h
     unfold tj at this
     intro hc
     rw [if_pos hc] at this
     omega
    clear h
    have hj1:qA key x p p.length=j+1:=by rw [←hins,qA,if_neg (by rw [List.getD_eq_getElem?_getD,hy];exact hlt)]
    repeat' (first|refine a6 ?_|refine aL ?_|refine a8 ?_|refine av ?_|refine aM ?_|refine aA ?_|refine aw ?_|refine aa ?_|refine LF a7 I9 ?_|(apply aY;refine aX ?_)|fail)
    refine aE (i+1) rfl ⟨by rw [Ls];rfl,trivial⟩ ⟨by omega,by omega⟩ (by omega) (fun _ _ h=>?_)
    rw [hsucc,hrest,←vH,hj1]
    exact h
 ·have hil:l.length≤i:=by have:=Lw h;omega
  rw [List.take_of_length_le hil,List.drop_of_length_le hil,List.append_nil]
  repeat' (first|refine aL ?_|refine av ?_|refine aA ?_|refine aw ?_)
  exact cX rfl rfl
set_option maxRecDepth 8000
theorem qB (v u:AV) (a c:Int) (h:c≤a+1) (ha:0≤a∧a≤1000000) (L:AL):AC Tryz.prog 228 [v,aH a,aH c,u] L fun _ L'=>L'=L:=by
 refine aP Tryz.func228 rfl Tryz.ntmps228 rfl fun B=>?_
 repeat' (first|refine ae ?_|refine a6 ?_|refine am ?_|refine a8 ?_|refine aa ?_|refine LF a7 I9 ?_|(apply aY;refine aX ?_)|fail)
 refine aJ [0,1,2,3] (α:=Unit) (fun _=>[(8,aH (a+1))]) (fun _=>True) (fun _=>L) (fun _=>0) () rfl ⟨rfl,trivial⟩ trivial (fun _ _ h=>h) fun _ _=>?_
 try dsimp only [Lp,Lo,Ln,Lh]
 repeat' (first|refine ae ?_|refine a6 ?_|refine a8 ?_|refine aa ?_|refine LF a7 I9 ?_)
 refine ay rfl (fun h=>by have:=Ly h;omega) (fun _=>?_)
 repeat' (first|refine aL ?_|refine av ?_|refine aA ?_|refine aw ?_)
 exact cX rfl rfl
set_option maxHeartbeats 4000000 in
theorem AS (g:FuncId) (caps:List AV) (key:Nat→Int) (D:Nat→Prop) (hu:Bd (.fn g caps) key D) (b cap:Nat) (pre post:List AV) (l:List Nat) (hD:∀x∈l,D x) (hl:l.length≤20):
  AC Tryz.prog 147 [.sc (.slice (some ⟨b,pre.length,none⟩) l.length cap),aH l.length,.fn g caps] [(b,.box (pre++(di l++post)) 3)] fun _ L=>L=[(b,.box (pre++(di (fa key l)++post)) 3)]:=by
 refine aP Tryz.func147 rfl Tryz.ntmps147 rfl fun B=>?_
 have hins:=zR g caps key D hu b cap pre post l hD (by omega)
 repeat' (first|refine ae ?_|refine a6 ?_|refine am ?_|refine a8 ?_|refine aa ?_|refine LF a7 I9 ?_)
 refine aJ [0,1,2,6] (α:=Bool) (fun k=>[(7,aH (if k then 20 else 0)),(8,aH (if k then 40 else 20))]) (fun k=>k=true→l.length=20) (fun k=>[(b,.box (pre++(di (if k then fa key l else l)++post)) 3)]) (fun k=>if k then 0 else 1) false rfl ⟨rfl,rfl,trivial⟩ (fun h=>by cases h) (fun _ _ h=>h) fun k hk=>?_
 try dsimp only [Lp,Lo,Ln,Lh]
 repeat' (first|refine ae ?_|refine a6 ?_|refine a8 ?_|refine aa ?_|refine LF a7 I9 ?_)
 cases k with
 | false=>
  simp only [Bool.false_eq_true,if_false]
  repeat' (first|fail)
  refine ay rfl (fun h=>?_) (fun h=>?_)
  ·have hn:l.length=20:=by have:=Ly h;omega
   clear h
   rw [show ((l.length:Nat):Int)=20 by omega] at hins
   repeat' (first|refine ae ?_|refine a6 ?_|refine am ?_|refine au ?_|refine a8 ?_|refine LF a7 I9 ?_)
   refine bh [(b,.box (pre++(di l++post)) 3)] [] hins rfl rfl (Ll _) rfl fun c L1 hL=>?_
   subst hL
   repeat' (first|refine ae ?_|refine a6 ?_|refine a8 ?_|refine aM ?_|refine aa ?_|refine LF a7 I9 ?_|(apply aY;refine aX ?_)|fail)
   exact aE true rfl ⟨rfl,rfl,trivial⟩ (fun _=>hn) (by decide) (fun _ _ h=>h)
  ·have hn:¬(20:Int)≤l.length:=Lw h
   repeat' (first|refine ae ?_|refine a6 ?_|refine aL ?_|refine a8 ?_|refine av ?_|refine aA ?_|refine aw ?_|refine LF a7 I9 ?_)
   refine bh [(b,.box (pre++(di l++post)) 3)] [] hins rfl rfl (Ll _) rfl fun c L1 hL=>?_
   subst hL
   repeat' (first|refine am ?_|refine a8 ?_|refine aa ?_)
   refine aJ [0,1,2] (α:=Unit) (fun _=>[(6,aH 20)]) (fun _=>True) (fun _=>[(b,.box (pre++(di (fa key l)++post)) 3)]) (fun _=>0) () rfl ⟨rfl,trivial⟩ trivial (fun _ _ h=>h) fun _ _=>?_
   try dsimp only [Lp,Lo,Ln,Lh]
   repeat' (first|refine ae ?_|refine a6 ?_|refine a8 ?_|refine aa ?_|refine LF a7 I9 ?_)
   refine ay rfl (fun h=>by have:=Ly h;omega) (fun _=>?_)
   repeat' (first|refine aL ?_|refine av ?_|refine aA ?_|refine aw ?_)
   exact cX rfl rfl
 | true=>
  have hn:=hk rfl
  simp only [if_true]
  repeat' (first|fail)
  refine ay rfl (fun h=>by have:=Ly h;omega) (fun _=>?_)
  repeat' (first|refine ae ?_|refine a6 ?_|refine aL ?_|refine a8 ?_|refine av ?_|refine aA ?_|refine aw ?_|refine LF a7 I9 ?_)
  refine bh [(b,.box (pre++(di (fa key l)++post)) 3)] [] (qB _ _ 20 l.length (by omega) (by omega) _) rfl rfl (Ll _) rfl fun c L1 hL=>?_
  subst hL
  repeat' (first|refine am ?_|refine a8 ?_|refine aa ?_)
  refine aJ [0,1,2] (α:=Unit) (fun _=>[(6,aH 20)]) (fun _=>True) (fun _=>[(b,.box (pre++(di (fa key l)++post)) 3)]) (fun _=>0) () rfl ⟨rfl,trivial⟩ trivial (fun _ _ h=>h) fun _ _=>?_
  try dsimp only [Lp,Lo,Ln,Lh]
  repeat' (first|refine ae ?_|refine a6 ?_|refine a8 ?_|refine aa ?_|refine LF a7 I9 ?_)
  refine ay rfl (fun h=>by have:=Ly h;omega) (fun _=>?_)
  repeat' (first|refine aL ?_|refine av ?_|refine aA ?_|refine aw ?_)
  exact cX rfl rfl
theorem lN (g:FuncId) (caps:List AV) (key:Nat→Int) (D:Nat→Prop) (hu:Bd (.fn g caps) key D) (b cap:Nat) (pre post:List AV) (l:List Nat) (hD:∀x∈l,D x) (hl:l.length≤20):
  AC Tryz.prog 65 [.sc (.slice (some ⟨b,pre.length,none⟩) l.length cap),.fn g caps] [(b,.box (pre++(di l++post)) 3)] fun _ L=>L=[(b,.box (pre++(di (fa key l)++post)) 3)]:=by
 refine aP Tryz.func65 rfl Tryz.ntmps65 rfl fun B=>?_
 repeat' (first|refine a6 ?_|refine LF a7 I9 ?_)
 refine bh [(b,.box (pre++(di l++post)) 3)] [] (AS g caps key D hu b cap pre post l hD hl) rfl rfl (Ll _) rfl fun c L1 hL=>?_
 subst hL
 repeat' (first|refine aa ?_)
 exact cX rfl rfl
set_option maxRecDepth 8000
theorem wP (rs:List Int):bH Tryz.prog 39 [.imm 1 (aO rs)] (.fn 64 [.iptr [.imm 1 (aO rs)]]):=by
 refine aP Tryz.func39 rfl Tryz.ntmps39 rfl fun B=>?_
 repeat' (first|refine ae ?_|refine a6 ?_|refine aq ?_|refine a8 ?_|refine aa ?_|refine LF a7 I9 ?_|refine bo ?_|fail)
 exact LK LA
instance (rs:List Int):AD Tryz.prog 39 [.imm 1 (aO rs)] (.fn 64 [.iptr [.imm 1 (aO rs)]]):=⟨wP rs⟩
theorem s8 {α:Type} {l:List α} {k:Nat} {x:α} {r:List α} (h:l.drop k=x::r):l[k]?=some x∧l.drop (k+1)=r:=by
 have h1:(l.drop k)[0]?=some x:=by rw [h];rfl
 rw [List.getElem?_drop,Nat.add_zero] at h1
 refine ⟨h1,?_⟩
 rw [←List.drop_drop,h]
 rfl
set_option maxHeartbeats 4000000 in
theorem Co {α:Type} {σ0:cf} {l:Nat} (rs:List Int) (hr:rs.length≤1000000) (E:α→AL) (J:Nat→α→Prop) (hy:∀(k:Nat) x (g:Nat×Nat),J k x→(dC rs)[k]?=some g→AY Tryz.prog σ0 l [.agg [aH g.1,aH g.2]] (E x) fun c L=>c=cQ true∧∃x',J (k+1) x'∧L=E x') (x0:α) (h0:J 0 x0):
  G7 Tryz.prog σ0 64 [.sc (.func (.yield l) #[] #[]),.iptr [.imm 1 (aO rs)]] (E x0) fun _ L=>∃x,J (dC rs).length x∧L=E x:=by
 refine wc Tryz.func64 rfl Tryz.ntmps64 rfl fun B hB=>?_
 have hil:=aW rs
 repeat' (first|refine ae ?_|refine a6 ?_|refine am ?_|refine a8 ?_|refine aa ?_|refine LF a7 I9 ?_)
 refine aJ [0,1,6,7] (α:=Nat×Nat×Nat×α) (fun y=>[(3,aH y.2.1),(8,aH y.1)]) (fun y=>y.1≤rs.length∧y.2.1≤y.1∧mI rs (rs.length - y.1) y.2.1 y.1=(dC rs).drop y.2.2.1∧y.2.2.1≤(dC rs).length∧J y.2.2.1 y.2.2.2) (fun y=>E y.2.2.2) (fun y=>rs.length - y.1) (0,0,0,x0) rfl ⟨rfl,rfl,trivial⟩ ⟨Nat.zero_le _,Nat.le_refl _,rfl,Nat.zero_le _,h0⟩ (fun _ _ h=>h) ?_
 rintro ⟨i,a,k,x⟩ ⟨hi,ha,hg,hkk,hj⟩
 dsimp only at hi ha hg hkk hj ⊢
 try dsimp only [Lp,Lo,Ln,Lh]
 repeat' (first|refine ae ?_|refine a6 ?_|refine a8 ?_|refine aa ?_|refine LF a7 I9 ?_)
 refine ay rfl (fun h=>?_) (fun h=>?_)
 ·have hil2:i < rs.length:=by have:=Ly h;omega
  have h1:=bO (eC hil2)
  rw [show rs.length - i=(rs.length - (i+1))+1 by omega,mI] at hg
  clear h
  repeat' (first|refine ae ?_|refine a6 ?_|refine am ?_|refine au ?_|refine a8 ?_|refine aa ?_|refine LF a7 I9 ?_|(apply aU;first|refine aT a7 ?_|refine aN a7 ?_)|fail)
  refine cN [0,1,3,4,6,7,8] (i=a∨d3 (rs.getD i 0)=3) rfl (fun Q' K=>?_) (fun hC=>?_) (fun hC=>?_)
  ·repeat' (first|refine aa ?_|refine LF a7 I9 ?_|refine LN I9 ?_|refine LO LB ?_|(apply bw;refine bi ?_)|refine bc rfl rfl rfl (fun _=>?_) (fun _=>?_))
   all_goals exact K _ _ rfl rfl (by simp_all <;> omega)
  ·rw [if_pos hC] at hg
   repeat' (first|refine a6 ?_|refine aL ?_|refine a8 ?_|refine av ?_|refine aA ?_|refine aa ?_|refine LF a7 I9 ?_|(apply aY;refine aX ?_)|fail)
   exact aE (i+1,a,k,x) rfl ⟨rfl,by rw [Ls];rfl,trivial⟩ ⟨by dsimp only;omega,by dsimp only;omega,hg,hkk,hj⟩ (by dsimp only;omega) (fun _ _ h=>h)
  ·rw [if_neg hC] at hg
   obtain ⟨hk1,hk2⟩:=s8 hg.symm
   repeat' (first|refine ae ?_|refine a6 ?_|refine au ?_|refine a8 ?_|refine LF a7 I9 ?_)
   refine pt (E x) [] hB (hy k x (a,i) hj hk1) rfl rfl rfl (by rw [List.append_nil]) rfl rfl fun c L1 ⟨hc,x',hj',hL⟩=>?_
   subst hc;subst hL
   rw [List.append_nil]
   repeat' (first|refine a6 ?_|refine au ?_|refine a8 ?_|refine aM ?_|refine aa ?_|refine LF a7 I9 ?_|(apply aY;refine aX ?_)|refine bk rfl ?_)
   exact aE (i+1,i,k+1,x') rfl ⟨rfl,by rw [Ls];rfl,trivial⟩ ⟨by dsimp only;omega,by dsimp only;omega,hk2.symm,(Lm hk1).1,hj'⟩ (by dsimp only;omega) (fun _ _ h=>h)
 ·have hil2:i=rs.length:=by have:=Lw h;omega
  subst hil2
  rw [Nat.sub_self,mI] at hg
  clear h
  repeat' (first|refine ae ?_|refine a6 ?_|refine aL ?_|refine a8 ?_|refine av ?_|refine aA ?_|refine aw ?_|refine aa ?_|refine LF a7 I9 ?_)
  refine ay rfl (fun h=>?_) (fun h=>?_)
  ·have hlt:a < rs.length:=by have:=Ly h;omega
   rw [if_pos hlt] at hg
   obtain ⟨hk1,hk2⟩:=s8 hg.symm
   have hkl:(dC rs).length=k+1:=by
    have h2:=congrArg List.length hk2
    have h3:=(Lm hk1).1
    rw [List.length_drop,List.length_nil] at h2
    omega
   clear h
   repeat' (first|refine a6 ?_|refine LF a7 I9 ?_)
   rw [hil]
   refine pt (E x) [] hB (hy k x (a,rs.length) hj hk1) rfl rfl rfl (by rw [List.append_nil]) rfl rfl fun c L1 ⟨hc,x',hj',hL⟩=>?_
   subst hc;subst hL
   rw [List.append_nil]
   repeat' (first|refine aa ?_)
   exact cX rfl ⟨x',by rw [hkl];exact hj',rfl⟩
  ·have hlt:¬a < rs.length:=by have:=Lw h;omega
   rw [if_neg hlt] at hg
   have hkl:(dC rs).length≤k:=by
    have:=congrArg List.length hg
    rw [List.length_drop] at this
    simp at this
    omega
   have hkl:(dC rs).length=k:=by omega
   repeat' (first|refine au ?_)
   exact cX rfl ⟨x,by rw [hkl];exact hj,rfl⟩
theorem xt (g:FuncId) (caps:List AV) (a:Option Addr) (cap:Nat) (L:AL):AC Tryz.prog 147 [.sc (.slice a 0 cap),aH 0,.fn g caps] L fun _ L'=>L'=L:=by
 refine aP Tryz.func147 rfl Tryz.ntmps147 rfl fun B=>?_
 repeat' (first|refine ae ?_|refine a6 ?_|refine am ?_|refine a8 ?_|refine aa ?_|refine LF a7 I9 ?_)
 refine aJ [0,1,2,6] (α:=Unit) (fun _=>[(7,aH 0),(8,aH 20)]) (fun _=>True) (fun _=>L) (fun _=>0) () rfl ⟨rfl,rfl,trivial⟩ trivial (fun _ _ h=>h) fun _ _=>?_
 try dsimp only [Lp,Lo,Ln,Lh]
 repeat' (first|refine ae ?_|refine a6 ?_|refine aL ?_|refine a8 ?_|refine av ?_|refine aA ?_|refine aw ?_|refine aa ?_|refine LF a7 I9 ?_|refine bk rfl ?_)
 refine bh L [] (qB _ _ 0 0 (by omega) (by omega) L) rfl rfl (by rw [List.append_nil]) rfl fun c L1 hL=>?_
 subst hL
 rw [List.append_nil]
 repeat' (first|refine am ?_|refine a8 ?_|refine aa ?_)
 refine aJ [0,1,2] (α:=Unit) (fun _=>[(6,aH 20)]) (fun _=>True) (fun _=>L1) (fun _=>0) () rfl ⟨rfl,trivial⟩ trivial (fun _ _ h=>h) fun _ _=>?_
 try dsimp only [Lp,Lo,Ln,Lh]
 repeat' (first|refine ae ?_|refine a6 ?_|refine aL ?_|refine a8 ?_|refine av ?_|refine aA ?_|refine aw ?_|refine aa ?_|refine LF a7 I9 ?_|refine bk rfl ?_)
 exact cX rfl rfl
theorem kY (g:FuncId) (caps:List AV) (a:Option Addr) (cap:Nat) (L:AL):AC Tryz.prog 65 [.sc (.slice a 0 cap),.fn g caps] L fun _ L'=>L'=L:=by
 refine aP Tryz.func65 rfl Tryz.ntmps65 rfl fun B=>?_
 repeat' (first|refine a6 ?_|refine LF a7 I9 ?_)
 refine bh L [] (xt _ _ _ _ L) rfl rfl (by rw [List.append_nil]) rfl fun c L1 hL=>?_
 subst hL
 repeat' (first|refine aa ?_)
 exact cX rfl (List.append_nil _)
def pC (o:List Nat) (cs:List AV):Prop:=cs.take o.length=di o∧o.length≤cs.length
theorem kU (a b:List Nat):di (a++b)=di a++di b:=by simp [di]
theorem pC.split {o:List Nat} {cs:List AV} (h:pC o cs):cs=di o++cs.drop o.length:=by
 rw [←h.1,List.take_append_drop]
theorem tW {o:List Nat} {cs:List AV}:pC o (di o++cs):=by
 refine ⟨?_,by rw [List.length_append,eT];omega⟩
 rw [←eT o,List.take_left']
 rfl
def E8 (rs:List Int) (g:Nat×Nat):Nat:=if g.1 < g.2∧d3 (rs.getD g.1 0)≠3 then g.2 - (g.1+1) else g.2 - g.1
def DG (b n:Nat) (o:List Nat) (c:AV) (L:AL):Prop:=∃cs,pC o cs∧cs.length=n∧c= .sc (.slice (some ⟨b,0,none⟩) o.length n)∧L=[(b,.box cs 3)]
set_option maxHeartbeats 8000000 in
theorem u7 (rs:List Int) (b0:Nat) (cs0:List AV) (o:List Nat) (g:Nat×Nat) (hg1:g.1≤g.2) (hg2:g.2≤rs.length) (hm:E8 rs g≤20) (ho:pC o cs0) (hol:o.length+(g.2 - g.1)≤cs0.length) (hrl:cs0.length≤1000000) (hrs:rs.length≤1000000):
  AC Tryz.prog 41 [.sc (.slice (some ⟨b0,0,none⟩) o.length cs0.length),.imm 1 (aO rs),.agg [aH g.1,aH g.2]] [(b0,.box cs0 3)] (DG b0 cs0.length (o++cP rs g)):=by
 obtain ⟨a,c⟩:=g
 dsimp only at hg1 hg2 hm hol ⊢
 generalize hcap:cs0.length=cap at *
 refine aP Tryz.func41 rfl Tryz.ntmps41 rfl fun B=>?_
 repeat' (first|refine ae ?_|refine a6 ?_|refine am ?_|refine a8 ?_|refine aa ?_|refine LF a7 I9 ?_|refine bo ?_|fail)
 refine aJ [4,5,7] (α:=Nat×List AV) (fun s=>[(0,.sc (.slice (some ⟨b0,0,none⟩) (o.length+s.1) cap)),(8,aH ((a+s.1:Nat):Int))]) (fun s=>s.1≤c - a∧pC (o++List.range' a s.1) s.2∧s.2.length=cap) (fun s=>[(b0,.box s.2 3)]) (fun s=>c - a - s.1) (0,cs0) rfl ⟨rfl,rfl,trivial⟩ ⟨Nat.zero_le _,by simpa using ho,hcap⟩ (fun _ _ h=>h) ?_
 clear ho hcap
 rintro ⟨k,cs⟩ ⟨hk,hP,hcap⟩
 dsimp only at hk hP hcap ⊢
 have hPl:=hP.2
 rw [List.length_append,List.length_range'] at hPl
 try dsimp only [Lp,Lo,Ln,Lh]
 repeat' (first|refine ae ?_|refine a6 ?_|refine a8 ?_|refine aa ?_|refine LF a7 I9 ?_)
 refine ay rfl (fun h=>?_) (fun h=>?_)
 ·have hkc:a+k < c:=by have:=Ly h;omega
  clear h
  repeat' (first|refine ae ?_|refine a6 ?_|refine am ?_|refine au ?_|refine a8 ?_|refine LF a7 I9 ?_|refine bS a7 ?_|fail)
  refine nW a7 0 rfl rfl rfl rfl (fN rfl rfl) rfl (by omega) (by omega) (by unfold maxLen;omega) (by simp only [List.length_cons,List.length_nil];unfold maxLen;omega) (by simp only [List.length_cons,List.length_nil];omega) rfl fun b' cs' cap' e1 e2 e3 e4 e5=>?_
  obtain ⟨rfl,rfl,h1⟩:=e5 (by simp only [List.length_cons,List.length_nil];omega)
  clear e1 e2 e3 e4 e5
  have hn1:(o++List.range' a (k+1)).length=o.length+k+1:=by rw [List.length_append,List.length_range'];omega
  have hcs:cs'=di (o++List.range' a (k+1))++cs.drop (o.length+k+1):=by
   rw [h1]
   have h3:=hP.1
   rw [List.length_append,List.length_range'] at h3
   simp only [List.length_cons,List.length_nil,Nat.mul_one]
   rw [h3,List.range'_1_concat,←List.append_assoc,kU (o++_) [a+k]]
   rfl
  clear h1
  subst hcs
  repeat' (first|refine a6 ?_|refine a8 ?_|refine aM ?_|refine aa ?_|refine LF a7 I9 ?_|(apply aY;refine aX ?_)|fail)
  refine aE (k+1,di (o++List.range' a (k+1))++cs.drop (o.length+k+1)) rfl ⟨rfl,by rw [show a+(k+1)=(a+k)+1 by omega,Ls];rfl,trivial⟩ ⟨by dsimp only;omega,tW,?_⟩ (by dsimp only;omega) (fun _ _ h=>h)
  dsimp only
  rw [List.length_append,eT,hn1,List.length_drop]
  omega
 ·have hkc:k=c - a:=by have:=Lw h;omega
  subst hkc
  clear h
  repeat' (first|refine ae ?_|refine a6 ?_|refine aL ?_|refine a8 ?_|refine av ?_|refine aA ?_|refine aw ?_|refine LF a7 I9 ?_)
  subst hcap
  refine vi a7 o.length rfl rfl rfl rfl (by omega) (by omega) rfl ?_
  rw [Nat.add_sub_cancel_left]
  repeat' (first|refine ae ?_|refine a6 ?_|refine a8 ?_|refine aa ?_|refine LF a7 I9 ?_)
  by_cases hac:a < c
  ·have hg:=bO (eC (show a < rs.length by omega))
   rw [if_neg (by omega),show 0+o.length * 1=o.length by omega,decide_eq_true (show (0:Int) < ((c - a:Nat):Int) by omega)]
   have hcs:=hP.split
   rw [List.length_append,List.length_range'] at hcs
   generalize cs.drop (o.length+(c - a))=post at hcs
   subst hcs
   repeat' (first|refine a8 ?_|refine aa ?_|refine LF a7 I9 ?_|refine LN I9 ?_|(apply aU;first|refine aT a7 ?_|refine aN a7 ?_)|(apply bw;refine bi ?_)|fail)
   refine ay rfl (fun h=>?_) (fun h=>?_)
   ·have hk3:d3 (rs.getD a 0)≠3:=Ly h
    have hmk:c - (a+1)≤20:=by unfold E8 at hm;rwa [if_pos ⟨hac,hk3⟩] at hm
    clear h
    repeat' (first|refine a6 ?_|refine LF a7 I9 ?_)
    refine vi a7 1 rfl rfl rfl rfl (by omega) (by omega) rfl ?_
    have hpl:cP rs (a,c)=a::fa (lD rs) (List.range' (a+1) (c - (a+1))):=by
     unfold cP
     rw [if_pos ⟨hac,hk3⟩]
    have hsp:=n5 hac
    rw [hsp] at hP hPl ⊢
    have hlen:(di (o++a::List.range' (a+1) (c - (a+1)))++post).length=o.length+(c - a)+post.length:=by
     rw [List.length_append,eT,List.length_append,List.length_cons,List.length_range']
     omega
    have hcell:di (o++a::List.range' (a+1) (c - (a+1)))++post=di (o++[a])++(di (List.range' (a+1) (c - (a+1)))++post):=by
     rw [←List.append_assoc,←kU,List.append_assoc]
     rfl
    by_cases h1:c=a+1
    ·subst h1
     rw [show a+1 - a - 1=0 by omega]
     rw [show a+1 - (a+1)=0 by omega] at *
     repeat' (first|refine ae ?_|refine a6 ?_|refine a8 ?_|refine aa ?_|refine LF a7 I9 ?_)
     refine bh [(b0,.box (di (o++a::List.range' (a+1) 0)++post) 3)] [] (kY 66 [.iptr [.imm 1 (aO rs)]] _ _ _) rfl rfl (Ll _) rfl fun c1 L1 hL=>?_
     subst hL
     repeat' (first|refine ae ?_|refine a6 ?_|refine aq ?_|refine a8 ?_|refine aa ?_|refine LF a7 I9 ?_)
     refine LM I9 ⟨_,?_,rfl,?_,rfl⟩
     ·rw [hpl];exact hP
     ·rw [hpl];simp [fa]
    ·have hl2:(List.range' (a+1) (c - (a+1))).length=c - (a+1):=List.length_range' ..
     have hpre:(di (o++[a])).length=o.length+1:=by rw [eT,List.length_append];rfl
     have hsort:=lN 66 [.iptr [.imm 1 (aO rs)]] (lD rs) (fun x=>x < rs.length) (fun x y hx hy=>ja.fn (xW rs x y hx hy).nil) b0 ((di (o++a::List.range' (a+1) (c - (a+1)))++post).length - o.length - 1) (di (o++[a])) post (List.range' (a+1) (c - (a+1))) (fun x hx=>by rw [List.mem_range'_1] at hx;omega) (by omega)
     rw [←hcell,hl2,hpre] at hsort
     rw [if_neg (by omega),show o.length+1 * 1=o.length+1 by omega,show c - a - 1=c - (a+1) by omega]
     repeat' (first|refine ae ?_|refine a6 ?_|refine a8 ?_|refine aa ?_|refine LF a7 I9 ?_)
     refine bh [(b0,.box (di (o++a::List.range' (a+1) (c - (a+1)))++post) 3)] [] hsort rfl rfl (Ll _) rfl fun c1 L1 hL=>?_
     subst hL
     repeat' (first|refine ae ?_|refine a6 ?_|refine aq ?_|refine a8 ?_|refine aa ?_|refine LF a7 I9 ?_)
     have hfin:di (o++[a])++(di (fa (lD rs) (List.range' (a+1) (c - (a+1))))++post)=di (o++cP rs (a,c))++post:=by
      rw [hpl,←List.append_assoc,←kU,List.append_assoc]
      rfl
     rw [hfin]
     refine LM I9 ⟨_,tW,?_,?_,rfl⟩
     ·rw [hlen,List.length_append,eT,List.length_append,eM]
     ·rw [show (o++cP rs (a,c)).length=o.length+(c - a) by rw [List.length_append,eM]]
   ·have hk3:d3 (rs.getD a 0)=3:=Decidable.not_not.1 (Lw h)
    have hmk:c - a≤20:=by unfold E8 at hm;rwa [if_neg (fun hc=>hc.2 hk3)] at hm
    clear h
    have hpl:cP rs (a,c)=fa (lD rs) (List.range' a (c - a)):=by
     unfold cP
     rw [if_neg (fun hc=>hc.2 hk3)]
    have hcell:di (o++List.range' a (c - a))++post=di o++(di (List.range' a (c - a))++post):=by
     rw [kU,List.append_assoc]
    have hl2:(List.range' a (c - a)).length=c - a:=List.length_range' ..
    have hsort:=lN 66 [.iptr [.imm 1 (aO rs)]] (lD rs) (fun x=>x < rs.length) (fun x y hx hy=>ja.fn (xW rs x y hx hy).nil) b0 ((di (o++List.range' a (c - a))++post).length - o.length) (di o) post (List.range' a (c - a)) (fun x hx=>by rw [List.mem_range'_1] at hx;omega) (by omega)
    rw [←hcell,hl2,eT o] at hsort
    repeat' (first|refine ae ?_|refine a6 ?_|refine au ?_|refine a8 ?_|refine LF a7 I9 ?_)
    refine bh [(b0,.box (di (o++List.range' a (c - a))++post) 3)] [] hsort rfl rfl (Ll _) rfl fun c1 L1 hL=>?_
    subst hL
    repeat' (first|refine ae ?_|refine a6 ?_|refine aq ?_|refine a8 ?_|refine aa ?_|refine LF a7 I9 ?_)
    have hfin:di o++(di (fa (lD rs) (List.range' a (c - a)))++post)=di (o++cP rs (a,c))++post:=by
     rw [hpl,kU,List.append_assoc]
    rw [hfin]
    refine LM I9 ⟨_,tW,?_,?_,rfl⟩
    ·rw [List.length_append,eT,List.length_append,eM,List.length_append,eT,List.length_append,List.length_range']
    ·rw [show (o++cP rs (a,c)).length=o.length+(c - a) by rw [List.length_append,eM]]
  ·have hpl:cP rs (a,c)=[]:=List.length_eq_zero_iff.1 (by rw [eM];dsimp only;omega)
   rw [show c - a=0 by omega] at *
   repeat' (first|refine ae ?_|refine a6 ?_|refine au ?_|refine a8 ?_|refine aa ?_|refine LF a7 I9 ?_|refine LO LB ?_|refine bk rfl ?_)
   refine bh [(b0,.box cs 3)] [] (kY 66 [.iptr [.imm 1 (aO rs)]] _ _ _) rfl rfl (Ll _) rfl fun c1 L1 hL=>?_
   subst hL
   repeat' (first|refine ae ?_|refine a6 ?_|refine aq ?_|refine a8 ?_|refine aa ?_|refine LF a7 I9 ?_)
   refine LM I9 ⟨cs,?_,rfl,?_,rfl⟩
   ·rw [hpl];exact hP
   ·rw [hpl,List.append_nil];rfl
end Go.Proofs.YtamjlkdanllgjaaGreatDoor
