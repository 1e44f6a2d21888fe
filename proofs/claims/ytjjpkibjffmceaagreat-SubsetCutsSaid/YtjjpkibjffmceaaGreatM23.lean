/-
  The program: rules and lookups with new numbers.
-/
import Derived.Test.YtjjpkibjffmceaaGreatM13
import Derived.Test.YtjjpkibjffmceaaGreatM20
import Derived.Test.YtjjpkibjffmceaaGreatM22
import Derived.Test.YtjjpkibjffmceaaGreatM06
namespace Go.Proofs.YtjjpkibjffmceaaGreat
open Go.RowKit
attribute [local irreducible] AT cg AX AO Av Kt bJ eC DA du
open Go.MapKept
set_option maxHeartbeats 4000000 in
theorem uY (f:aL) (mg ml:Nat) (G K:List Int) (hG:cJ f.Glyphs.length G) (l:bj) (z:Int):AC Tryz.prog 98 [aP z,.iptr (cK f mg ml),.iptr (bi l)] (kL mg ml G K) fun c L=>(∃y b,c= .tup [aP y,cM b]∧ec f G l.Ignore z=if b=true then some y else none)∧L=kL mg ml G K:=by
 refine aX Tryz.func98 rfl Tryz.ntmps98 rfl fun B=>?_
 repeat' (first|refine go ?_|refine IG a6 EV ?_)
 refine bn (kL mg ml G K) [] (jm f mg ml G K z) rfl rfl (ck rfl) rfl fun r L1 ⟨hc,hL⟩=>?_
 subst hc;subst hL
 cases hp:di G z with
 | none=>
  dsimp only [Option.getD_none,Option.isSome_none]
  repeat' (first|refine go ?_|refine IG a6 EV ?_)
  refine br 17 [(0,.v),(1,.v),(2,.v),(3,.v),(4,.v),(5,.v),(6,.v),(7,.v),(8,.v),(9,.v),(10,.v),(11,.v),(12,.v),(13,.v),(14,.v),(15,.v),(16,.v)] none ?_ trivial rfl (by kernel_rfl) (by kernel_rfl) (by kernel_rfl) mixed (by kernel_rfl) rfl
  repeat' (first|refine aC ?_|refine aY a6 ?_|refine iU rfl rfl ?_|refine He rfl ?_)
  refine IQ [4,29] EV ?_
  repeat' (first|refine go ?_|refine aa ?_|refine IG a6 EV ?_)
  exact IU IB ⟨⟨0,false,rfl,by unfold ec;rw [hp];simp⟩,by simp⟩
 | some n=>
  dsimp only [Option.getD_some,Option.isSome_some]
  have hz:z∈G:=by
   unfold di at hp
   split at hp
   ·assumption
   ·cases hp
  have hd:=hG.dom z hz
  obtain ⟨g,hg⟩:∃x,f.Glyphs[z.toNat]?=some x:=⟨_,Jz (by omega)⟩
  have hgg:=bA (c:=bh) hg
  have hm:jH f z=g.Mark:=by unfold jH;rw [hg]
  repeat' (first|refine go ?_|refine IG a6 EV ?_)
  refine br 17 [(0,.v),(1,.v),(2,.v),(3,.v),(4,.v),(5,.v),(6,.v),(7,.v),(8,.v),(9,.v),(10,.v),(11,.v),(12,.v),(13,.v),(14,.v),(15,.v),(16,.v)] none ?_ trivial rfl (by kernel_rfl) (by kernel_rfl) (by kernel_rfl) mixed (by kernel_rfl) rfl
  repeat' (first|refine aC ?_|refine aY a6 ?_|fail)
  cases hi:l.Ignore with
  | true=>
   repeat' (first|refine aC ?_|refine aY a6 ?_|(apply bS;refine ce a6 ?_)|fail)
   refine IQ [4,29] EV ?_
   repeat' (first|refine go ?_|refine aa ?_|refine IG a6 EV ?_)
   exact IU IB ⟨⟨n, !g.Mark,rfl,by unfold ec;rw [hp,hm];cases g.Mark <;> rfl⟩,by simp⟩
  | false=>
   repeat' (first|refine aC ?_|refine aY a6 ?_|refine iU rfl rfl ?_)
   refine IQ [4,29] EV ?_
   repeat' (first|refine go ?_|refine aa ?_|refine IG a6 EV ?_)
   exact IU IB ⟨⟨n,true,rfl,by unfold ec;rw [hp];rfl⟩,by simp⟩
theorem G0 {α β:Type} (g:α→β) (l:List α):l.filterMap (fun x=>some (g x))=l.map g:=by
 induction l with
 | nil=>rfl
 | cons a r ih=>simp [ih]
def u6 (f:aL) (mg ml:Nat) (l:bj):AV:= .fn 98 [.iptr (cK f mg ml),.iptr (bi l)]
theorem Ev (f:aL) (mg ml:Nat) (G K:List Int) (hG:cJ f.Glyphs.length G) (l:bj) (s:List Int) (hs:s.length≤1000000):AC Tryz.prog 101 [.imm 1 (aS s),.iptr [u6 f mg ml l]] (kL mg ml G K) fun c L=>(∃y b,c= .tup [.imm 1 (aS y),cM b]∧some (nR f G l.Ignore s)=if b=true then some y else none)∧L=kL mg ml G K:=by
 refine aX Tryz.func101 rfl Tryz.ntmps101 rfl fun B=>?_
 have he:=vM (u:=u6 f mg ml l) rfl s hs (ec f G l.Ignore) (kL mg ml G K) fun z _=> .fn (uY f mg ml G K hG l z)
 repeat' (first|refine go ?_|refine IG a6 EV ?_)
 refine bn (kL mg ml G K) [] he rfl rfl (ck rfl) rfl fun c L1 ⟨hc,hL⟩=>?_
 subst hc;subst hL
 repeat' (first|refine go ?_|refine IG a6 EV ?_)
 exact IU IB ⟨⟨nR f G l.Ignore s,true,rfl,rfl⟩,by simp⟩
theorem qC (f:aL) (mg ml:Nat) (G K:List Int) (hG:cJ f.Glyphs.length G) (l:bj) (s:List (List Int)) (hs:s.length≤1000000) (hq:∀q∈s,q.length≤1000000):AC Tryz.prog 99 [.imm 1 (bw s),.iptr [u6 f mg ml l]] (kL mg ml G K) fun c L=>c= .imm 1 (bw (cR f G l.Ignore s))∧L=kL mg ml G K:=by
 refine aX Tryz.func99 rfl Tryz.ntmps99 rfl fun B=>?_
 have he:=Dy (u:= .fn 101 [.iptr [u6 f mg ml l]]) rfl s hs (fun q=>some (nR f G l.Ignore q)) (kL mg ml G K) fun q hqm=> .fn (Ev f mg ml G K hG l q (hq q hqm))
 repeat' (first|refine go ?_|refine IG a6 EV ?_)
 refine bn (kL mg ml G K) [] he rfl rfl (ck rfl) rfl fun c L1 ⟨hc,hL⟩=>?_
 subst hc;subst hL
 repeat' (first|refine go ?_|refine IG a6 EV ?_)
 exact IM EV ⟨by rw [G0];rfl,by simp⟩
theorem Be (s:List Int):AC Tryz.prog 102 [.imm 1 (aS s)] [] fun c L=>c=cM (decide (s.length=0))∧L=[]:=by
 refine aX Tryz.func102 rfl Tryz.ntmps102 rfl fun B=>?_
 have hil:=aF s
 refine cN 0 rfl rfl fun hlen=>?_
 repeat' (first|refine go ?_|refine IG a6 EV ?_)
 refine IM EV ?_
 rw [hil]
 exact ⟨congrArg (fun b=>cM b) (decide_eq_decide.2 (by omega)),rfl⟩
theorem G7 {g:FuncId} {caps:List AV} {u:AV} [bT Tryz.prog g] (hu:jV u=some (g,caps)) (l:List (List Int)) (p:List Int→Bool) (L0:AL) (hw:∀q,AC Tryz.prog g ([.imm 1 (aS q)]++caps) L0 fun c L'=>c=cM (p q)∧L'=L0):AC Tryz.prog 155 [.imm 1 (bw l),u] L0 fun c L=>(∃z:Int,c=aP z∧(0≤z↔l.any p=true))∧L=L0:=by
 refine aX Tryz.func155 rfl Tryz.ntmps155 rfl fun B=>?_
 have hll:(bw l).length=l.length:=Jt ..
 refine cN 0 rfl rfl fun hlen=>?_
 rw [hll] at hlen
 repeat' (first|refine go ?_|refine am ?_|refine IG a6 EV ?_)
 refine aO [0,1,7] (α:=Nat) (fun i=>[(8,aP i)]) (fun i=>i≤l.length∧(l.take i).any p=false) (fun _=>L0) (fun i=>l.length - i) 0 rfl ⟨rfl,trivial⟩ ⟨Nat.zero_le _,by simp⟩ (fun _ _ h=>h) fun i ⟨hi,ha⟩=>?_
 try dsimp only [Jr,Jq,Jp,Jk]
 repeat' (first|refine go ?_|refine IG a6 EV ?_)
 refine au rfl (fun h=>?_) (fun h=>?_)
 ·have hil:i < l.length:=by have:=Jy h;rw [hll] at this;omega
  obtain ⟨z,hz⟩:∃z,l[i]?=some z:=⟨_,Jz hil⟩
  have hzg:(bw l)[i]?=some [.imm 1 (aS z)]:=by unfold bw;rw [List.getElem?_map,hz];rfl
  repeat' (first|refine go ?_|refine am ?_|refine IG a6 EV ?_|(apply aV;first|refine aU a6 ?_|refine aN a6 ?_)|fail)
  refine dx L0 [] (hw z) rfl hu rfl (ck rfl) rfl rfl fun c L1 ⟨hc,hL⟩=>?_
  subst hc;subst hL
  rw [List.append_nil]
  repeat' (first|refine go ?_|fail)
  refine au rfl (fun h2=>?_) (fun h2=>?_)
  ·repeat' (first|refine go ?_|refine IG a6 EV ?_)
   refine IM EV ⟨⟨i,rfl,?_⟩,rfl⟩
   exact ⟨fun _=>List.any_eq_true.2 ⟨z,Jw hz,h2⟩,fun _=>by omega⟩
  ·repeat' (first|refine go ?_|refine IG a6 EV ?_|(apply aW;refine aT ?_)|fail)
   refine aB (i+1) rfl ⟨by rw [Jv];rfl,trivial⟩ ⟨by omega,?_⟩ (by omega) (fun _ _ h=>h)
   rw [List.take_add_one,hz,List.any_append,ha]
   simpa using h2
 ·have hil:i=l.length:=by have:=Jx h;rw [hll] at this;omega
  subst hil
  rw [List.take_length] at ha
  repeat' (first|refine go ?_|refine IG a6 EV ?_)
  refine IM EV ⟨⟨-1,rfl,?_⟩,rfl⟩
  rw [ha]
  exact ⟨fun h=>absurd h (by decide),fun h=>by cases h⟩
theorem yX (l:List (List Int)):bZ Tryz.prog 103 [.imm 1 (bw l),.sc (.func (.func 102) #[] #[])] (cM (gt l)):=by
 refine aX Tryz.func103 rfl Tryz.ntmps103 rfl fun B=>?_
 repeat' (first|refine go ?_|refine IG a6 EV ?_)
 refine bn [] [] (G7 (u:= .sc (.func (.func 102) #[] #[])) (g:=102) (caps:=[]) rfl l (fun q=>decide (q.length=0)) [] fun q=>Be q) rfl rfl (ck rfl) rfl fun c L1 ⟨⟨z,hc,hz⟩,hL⟩=>?_
 subst hc;subst hL
 rw [List.append_nil]
 repeat' (first|refine go ?_|refine IG a6 EV ?_)
 refine IM EV ?_
 refine congrArg (fun b=>cM b) ?_
 unfold gt
 rw [Bool.eq_iff_iff,decide_eq_true_eq]
 exact hz
set_option maxHeartbeats 4000000 in
theorem Ek (f:aL) (mg ml:Nat) (G K:List Int) (hG:cJ f.Glyphs.length G) (l:bj) (r:cb) (hr:r.In≠[]) (ho:r.Out.length≤1000000):AC Tryz.prog 104 [aP l.Kind,.agg (bE r),u6 f mg ml l] (kL mg ml G K) fun c L=>c= .imm 1 (aS (fA f G l r))∧L=kL mg ml G K:=by
 refine aX Tryz.func104 rfl Tryz.ntmps104 rfl fun B=>?_
 have hol:=aF r.Out
 obtain ⟨q,qs,hq⟩:∃q qs,r.In=q::qs:=by cases h:r.In with | nil=>exact absurd h hr | cons q qs=>exact ⟨q,qs,rfl⟩
 have hq0:(bw r.In)[0]?=some [.imm 1 (aS q)]:=by rw [hq];rfl
 have hh:r.In.headD []=q:=by rw [hq];rfl
 have hqle:=aF q
 have hseen:∀z,AC Tryz.prog 98 ([aP z]++[.iptr (cK f mg ml),.iptr (bi l)]) (kL mg ml G K) fun c L=>(∃y b,c= .tup [aP y,cM b]∧ec f G l.Ignore z=if b=true then some y else none)∧L=kL mg ml G K:=fun z=>uY f mg ml G K hG l z
 repeat' (first|refine go ?_|refine IG a6 EV ?_|refine bD ?_|fail)
 refine dH (t:=17) [2,4] (¬(l.Kind=1∨l.Kind=5)) rfl (fun Q' K'=>?_) ?_
 ·repeat' (first|refine go ?_|refine IG a6 EV ?_|refine IR EV ?_|refine IT IC ?_|refine bF rfl rfl rfl (fun _=>?_) (fun _=>?_))
  all_goals exact K' _ _ rfl rfl (by clear K';simp_all <;> omega)
 repeat' (first|refine go ?_|fail)
 refine au rfl (fun h1=>?_) (fun h1=>?_)
 ·have h1:=Jy h1
  have hco:fA f G l r=r.Out:=by unfold fA;rw [if_neg h1]
  rw [hco]
  repeat' (first|refine go ?_|refine IG a6 EV ?_)
  exact IM EV ⟨rfl,rfl⟩
 have h1:l.Kind=1∨l.Kind=5:=Decidable.byContradiction (Jx h1)
 have hco:fA f G l r=((r.Out.zip q).filter fun x=>(ec f G l.Ignore x.2).isSome).map (·.1):=by unfold fA;rw [if_pos h1,hh]
 repeat' (first|refine go ?_|refine IG a6 EV ?_)
 refine br 14 [(0,.v),(1,.v),(2,.v),(3,.v),(4,.v),(5,.v),(6,.v),(7,.v),(8,.v),(9,.v),(10,.v),(11,.v),(12,.v),(13,.v)] none ?_ trivial rfl (by kernel_rfl) (by kernel_rfl) (by kernel_rfl) mixed (by kernel_rfl) rfl
 repeat' (first|refine aC ?_|refine aY a6 ?_|(apply bS;refine ce a6 ?_)|fail)
 refine sh a6 (min r.Out.length q.length) rfl rfl rfl rfl rfl (by rw [hol,hqle];omega) (by rw [hol];omega) trivial ?_
 repeat' (first|refine aC ?_|refine aY a6 ?_|fail)
 refine IQ [2,4,7,31,32,33] EV ?_
 repeat' (first|refine am ?_|refine aa ?_|refine go ?_|fail)
 have hm:((aS r.Out).take (min r.Out.length q.length)).length=min r.Out.length q.length:=by rw [List.length_take,hol];omega
 refine bN (bo (t:=7) (c':= .vec none 1 []) rfl fun σ v h=>cO 1 h) ?_
 refine aO [2,4,31,32] (α:=Nat×Option (Nat×Nat)) (fun x=>[(33,aP x.1),(7,.vec x.2 1 (aS ((((r.Out.zip q).take x.1).filter fun y=>(ec f G l.Ignore y.2).isSome).map (·.1))))]) (fun x=>x.1≤min r.Out.length q.length) (fun x=>tok x.2 3 1 (aS ((((r.Out.zip q).take x.1).filter fun y=>(ec f G l.Ignore y.2).isSome).map (·.1))).length++kL mg ml G K) (fun x=>min r.Out.length q.length - x.1) (0,none) rfl ⟨rfl,rfl,trivial⟩ (Nat.zero_le _) (fun _ _ h=>h) ?_
 rintro ⟨i,k1⟩ hi
 dsimp only at hi ⊢
 have hfl:(aS ((((r.Out.zip q).take i).filter fun y=>(ec f G l.Ignore y.2).isSome).map (·.1))).length≤i:=by
  rw [aF,Jt]
  exact Nat.le_trans (List.length_filter_le ..) (by rw [List.length_take];omega)
 try dsimp only [Jr,Jq,Jp,Jk]
 repeat' (first|refine go ?_|refine IG a6 EV ?_)
 refine au rfl (fun e=>?_) (fun e=>?_)
 ·have hil:i < min r.Out.length q.length:=by have:=Jy e;rw [hm] at this;omega
  obtain ⟨o,hoo⟩:∃z,r.Out[i]?=some z:=⟨_,Jz (by omega)⟩
  obtain ⟨z,hz⟩:∃z,q[i]?=some z:=⟨_,Jz (by omega)⟩
  have hog:((aS r.Out).take (min r.Out.length q.length))[i]?=some [aP o]:=by rw [List.getElem?_take,if_pos hil];exact bQ hoo
  have hzg:=bQ hz
  have hzt:=qU hoo hz
  clear e
  repeat' (first|refine go ?_|refine am ?_|refine IG a6 EV ?_|(apply aV;first|refine aU a6 ?_|refine aN a6 ?_)|fail)
  refine dx (kL mg ml G K) (tok k1 3 1 (aS ((((r.Out.zip q).take i).filter fun y=>(ec f G l.Ignore y.2).isSome).map (·.1))).length) (hseen z) rfl rfl rfl List.perm_append_comm rfl rfl fun c L1 ⟨⟨y,b,hc,hb⟩,hL⟩=>?_
  subst hc;subst hL
  refine aK (aM List.perm_append_comm) ?_
  cases b with
  | true=>
   rw [if_pos rfl] at hb
   repeat' (first|refine go ?_|refine IG a6 EV ?_|refine bG a6 ?_|refine cf rfl ?_)
   refine IS a6 (kL mg ml G K) IC (Jn _) (by simp;omega) (by simp;omega) rfl fun k'=>?_
   repeat' (first|refine go ?_|refine IG a6 EV ?_|(apply aW;refine aT ?_)|fail)
   have hap:aS ((((r.Out.zip q).take i).filter fun y=>(ec f G l.Ignore y.2).isSome).map (·.1))++[[aP o]]=aS ((((r.Out.zip q).take (i+1)).filter fun y=>(ec f G l.Ignore y.2).isSome).map (·.1)):=by
    rw [hzt,List.filter_append,List.map_append]
    simp [aS,hb]
   exact aB (i+1,k') rfl ⟨by rw [Jv];rfl,by rw [←hap];rfl,trivial⟩ (by dsimp only;omega) (by dsimp only;omega) (fun _ _ h=>by dsimp only;rw [←hap];exact h)
  | false=>
   rw [if_neg (by decide)] at hb
   have hap:((r.Out.zip q).take (i+1)).filter (fun y=>(ec f G l.Ignore y.2).isSome)=((r.Out.zip q).take i).filter (fun y=>(ec f G l.Ignore y.2).isSome):=by
    rw [hzt,List.filter_append]
    simp [hb]
   repeat' (first|refine go ?_|refine IG a6 EV ?_|(apply aW;refine aT ?_)|refine bP rfl ?_)
   exact aB (i+1,k1) rfl ⟨by rw [Jv];rfl,by rw [hap];rfl,trivial⟩ (by dsimp only;omega) (by dsimp only;omega) (fun _ _ h=>by dsimp only;rw [hap];exact h)
 have hil:i=min r.Out.length q.length:=by have:=Jx e;rw [hm] at this;omega
 subst hil
 have htz:(r.Out.zip q).take (min r.Out.length q.length)=r.Out.zip q:=List.take_of_length_le (by rw [List.length_zip];exact Nat.le_refl _)
 rw [htz]
 repeat' (first|refine go ?_|refine IG a6 EV ?_)
 refine ba (bo (t:=6) (c':= .imm 1 (aS (fA f G l r))) rfl fun σ v h=>by rw [hco];exact VR.im h) ?_
 refine cQ (List.sublist_append_right ..) ?_
 exact IM EV ⟨rfl,rfl⟩
theorem AZ (f:aL) (mg ml:Nat) (G K:List Int) (c:gy):AC Tryz.prog 106 [.agg (dI c),.iptr (cK f mg ml)] (kL mg ml G K) fun r L=>(∃y b,r= .tup [.agg (dI y),cM b]∧eP K c=if b=true then some y else none)∧L=kL mg ml G K:=by
 refine aX Tryz.func106 rfl Tryz.ntmps106 rfl fun B=>?_
 repeat' (first|refine go ?_|refine IG a6 EV ?_|refine bD ?_|refine bc a6 fun _=>?_|fail)
 rename_i b
 refine bn (kL mg ml G K) [(b,_)] (nd f mg ml G K c.Lookup) rfl rfl (List.perm_append_singleton _ _).symm rfl fun r L1 ⟨hc,hL⟩=>?_
 subst hc;subst hL
 repeat' (first|refine go ?_|refine IG a6 EV ?_|(apply aJ;first|refine IH a6 0 IE ?_|refine IH a6 1 IE ?_|refine IH a6 2 IE ?_|refine IH a6 3 IE ?_|fail))
 refine er (cs:=[.agg (dI { c with Lookup:=(di K c.Lookup).getD 0 }),cM (di K c.Lookup).isSome]) (kL mg ml G K) ⟨⟨_,2,_,_,rfl,rfl,.inr ⟨cV a6 rfl,rfl⟩⟩,rfl,trivial⟩ (List.sublist_append_left ..) ⟨⟨{ c with Lookup:=(di K c.Lookup).getD 0 },_,rfl,?_⟩,rfl⟩
 unfold eP
 cases di K c.Lookup <;> rfl
structure wV (r:cb):Prop where
 back:r.Back.length≤1000000∧∀q∈r.Back,q.length≤1000000
 ins:r.In.length≤1000000∧∀q∈r.In,q.length≤1000000
 ahead:r.Ahead.length≤1000000∧∀q∈r.Ahead,q.length≤1000000
 out:r.Out.length≤1000000
 calls:r.Calls.length≤1000000
set_option maxHeartbeats 8000000 in
theorem Cw (f:aL) (mg ml:Nat) (G K:List Int) (hG:cJ f.Glyphs.length G) (l:bj) (r:cb) (hr:wV r):AC Tryz.prog 77 [.agg (cK f mg ml),.agg (bi l),.agg (bE r)] (kL mg ml G K) fun c L=>(∃y b,c= .tup [.agg (bE y),cM b]∧eb f G K l r=if b=true then some y else none)∧L=kL mg ml G K:=by
 refine aX Tryz.func77 rfl Tryz.ntmps77 rfl fun B=>?_
 have s1:=qC f mg ml G K hG l r.Back hr.back.1 hr.back.2
 have s2:=qC f mg ml G K hG l r.In hr.ins.1 hr.ins.2
 have s3:=qC f mg ml G K hG l r.Ahead hr.ahead.1 hr.ahead.2
 repeat' (first|refine go ?_|refine IG a6 EV ?_|(apply aJ;first|refine II 8 a6 0 IF ?_|refine II 8 a6 1 IF ?_|refine II 8 a6 2 IF ?_|refine IH a6 0 IE ?_|refine IH a6 1 IE ?_|refine IH a6 2 IE ?_|refine IH a6 3 IE ?_|fail)|refine bD ?_|refine bc a6 fun _=>?_|fail)
 rename_i b b8
 refine br 16 [(0,.v),(1,.v),(2,.v),(4,.v),(5,.v),(6,.v),(8,.v),(9,.v),(10,.v),(12,.v),(13,.v),(3,.e),(7,.e),(11,.e),(14,.v)] (some (15,.box _ 81)) ?_ ⟨_,rfl,rfl,fun _ _ _=>ga (eA a6 rfl) rfl⟩ rfl (by kernel_rfl) (by kernel_rfl) (by kernel_rfl) mixed (by kernel_rfl) rfl
 repeat' (first|refine aC ?_|refine aY a6 ?_|fail)
 refine sg (kL mg ml G K) [(b,_)] (.fn s1) rfl rfl (List.perm_append_singleton _ _).symm (by first | trivial | rfl) fun c L1 ⟨hc,hL⟩=>?_
 subst hc;subst hL
 repeat' (first|refine aC ?_|fail)
 refine sg (kL mg ml G K) [(b,_)] (.fn s2) rfl rfl (Jn _) (by first | trivial | rfl) fun c L1 ⟨hc,hL⟩=>?_
 subst hc;subst hL
 repeat' (first|refine aC ?_|fail)
 refine sg (kL mg ml G K) [(b,_)] (.fn s3) rfl rfl (Jn _) (by first | trivial | rfl) fun c L1 ⟨hc,hL⟩=>?_
 subst hc;subst hL
 repeat' (first|refine aC ?_|refine aY a6 ?_|fail)
 refine ji [3,4,5,6,8,10,30] (fun _=>_) (fun _=>rfl) rfl fun _=>?_
 repeat' (first|refine go ?_|refine aa ?_|refine am ?_|refine IG a6 EV ?_|(apply bH;first|refine IJ a6 0 ID ?_|refine IJ a6 1 ID ?_|refine IJ a6 2 ID ?_|refine IJ a6 3 ID ?_|refine IK a6 0 ID ?_|refine IK a6 1 ID ?_|refine IK a6 2 ID ?_|refine IL a6 1 IB (by assumption) rfl ?_|refine IL a6 0 IB (by assumption) rfl ?_|fail)|(apply aJ;first|refine II 8 a6 0 IF ?_|refine II 8 a6 1 IF ?_|refine II 8 a6 2 IF ?_|refine IH a6 0 IE ?_|refine IH a6 1 IE ?_|refine IH a6 2 IE ?_|refine IH a6 3 IE ?_|fail))
 rename_i bm
 have hrow:∀i:Nat,i < 3→∃R:List (List Int),[AV.imm 1 (bw (cR f G l.Ignore r.Back)),.imm 1 (bw (cR f G l.Ignore r.In)),.imm 1 (bw (cR f G l.Ignore r.Ahead))][i]?=some (.imm 1 (bw R))∧R=[cR f G l.Ignore r.Back,cR f G l.Ignore r.In,cR f G l.Ignore r.Ahead].getD i []:=fun i hi=>by
  rcases i with _ | _ | _ | i
  ·exact ⟨_,rfl,rfl⟩
  ·exact ⟨_,rfl,rfl⟩
  ·exact ⟨_,rfl,rfl⟩
  ·omega
 have hnl:=yX
 have hI:(cR f G l.Ignore r.In).length=r.In.length:=Jt ..
 refine aO [3,4,5,6,8,10,11,37] (α:=Nat) (fun i=>[(38,aP i)]) (fun i=>i≤3∧∀j < i,gt ([cR f G l.Ignore r.Back,cR f G l.Ignore r.In,cR f G l.Ignore r.Ahead].getD j [])=false) (fun _=>_) (fun i=>3 - i) 0 rfl ⟨rfl,trivial⟩ ⟨by omega,fun j hj=>by omega⟩ (fun _ _ h=>h) ?_
 rintro i ⟨hi,ha⟩
 try dsimp only [Jr,Jq,Jp,Jk]
 repeat' (first|refine go ?_|refine IG a6 EV ?_)
 refine au rfl (fun e=>?_) (fun e=>?_)
 ·have hil:i < 3:=by have:=Jy e;omega
  obtain ⟨R,hR,hRe⟩:=hrow i hil
  repeat' (first|refine go ?_|refine am ?_)
  refine Ge a6 i rfl rfl rfl rfl rfl hil hR rfl ?_
  repeat' (first|refine go ?_|refine IG a6 EV ?_)
  haveI:AD Tryz.prog 103 [.imm 1 (bw R),.sc (.func (.func 102) #[] #[])] (cM (gt R)):=⟨hnl R⟩
  repeat' (first|refine go ?_|(apply bB;refine bq ?_)|fail)
  refine au rfl (fun e2=>?_) (fun e2=>?_)
  ·repeat' (first|refine go ?_|refine IG a6 EV ?_|(apply aJ;first|refine IH a6 0 IE ?_|refine IH a6 1 IE ?_|refine IH a6 2 IE ?_|refine IH a6 3 IE ?_|fail))
   have hnone:eb f G K l r=none:=by
    unfold eb
    rw [if_pos]
    refine .inl ?_
    rw [hRe] at e2
    rcases i with _ | _ | _ | i
    ·exact .inl e2
    ·exact .inr (.inl e2)
    ·exact .inr (.inr e2)
    ·omega
   refine ba (bC 2 (cs':=bE ⟨[],[],[],[],[],0⟩) rfl fun σ vs h=>mH.vrs (a:=[.sc (.slice none 0 0),.sc (.slice none 0 0),.sc (.slice none 0 0),.sc (.slice none 0 0),.sc (.slice none 0 0),aP 0]) (b:=bE ⟨[],[],[],[],[],0⟩) ⟨dt.nil 1,dt.nil 1,dt.nil 1,dt.nil 1,dt.nil 2,dt.refl _,trivial⟩ h) ?_
   exact er (cs:=[.agg (bE ⟨[],[],[],[],[],0⟩),cM false]) (kL mg ml G K) ⟨⟨_,2,_,_,rfl,rfl,.inr ⟨cV a6 rfl,rfl⟩⟩,rfl,trivial⟩ (List.sublist_append_left (kL mg ml G K) [_,_]) ⟨⟨_,false,rfl,hnone⟩,rfl⟩
  repeat' (first|refine go ?_|refine IG a6 EV ?_|(apply aW;refine aT ?_)|fail)
  exact aB (i+1) rfl ⟨by rw [Jv];rfl,trivial⟩ ⟨by omega,fun j hj=>by
   by_cases hji:j < i
   ·exact ha j hji
   ·have:j=i:=by omega
    subst this
    rw [←hRe];exact e2⟩ (by omega) (fun _ _ h=>h)
 have hil:i=3:=by have:=Jx e;omega
 subst hil
 have n1:gt (cR f G l.Ignore r.Back)=false:=ha 0 (by omega)
 have n2:gt (cR f G l.Ignore r.In)=false:=ha 1 (by omega)
 have n3:gt (cR f G l.Ignore r.Ahead)=false:=ha 2 (by omega)
 clear ha hi e
 have hIr:(bw (cR f G l.Ignore r.In)).length=r.In.length:=by unfold bw;rw [Jt,hI]
 repeat' (first|refine go ?_|refine IG a6 EV ?_|(apply bH;first|refine IJ a6 0 ID ?_|refine IJ a6 1 ID ?_|refine IJ a6 2 ID ?_|refine IJ a6 3 ID ?_|refine IK a6 0 ID ?_|refine IK a6 1 ID ?_|refine IK a6 2 ID ?_|refine IL a6 1 IB (by assumption) rfl ?_|refine IL a6 0 IB (by assumption) rfl ?_|fail)|fail)
 refine au rfl (fun e=>?_) (fun e=>?_)
 ·repeat' (first|refine go ?_|refine IG a6 EV ?_|(apply aJ;first|refine IH a6 0 IE ?_|refine IH a6 1 IE ?_|refine IH a6 2 IE ?_|refine IH a6 3 IE ?_|fail))
  have hnone:eb f G K l r=none:=by
   unfold eb
   rw [if_pos]
   refine .inr ?_
   have:=Jy e
   rw [hIr] at this
   exact List.length_eq_zero_iff.1 (by omega)
  refine ba (bC 2 (cs':=bE ⟨[],[],[],[],[],0⟩) rfl fun σ vs h=>mH.vrs (a:=[.sc (.slice none 0 0),.sc (.slice none 0 0),.sc (.slice none 0 0),.sc (.slice none 0 0),.sc (.slice none 0 0),aP 0]) (b:=bE ⟨[],[],[],[],[],0⟩) ⟨dt.nil 1,dt.nil 1,dt.nil 1,dt.nil 1,dt.nil 2,dt.refl _,trivial⟩ h) ?_
  exact er (cs:=[.agg (bE ⟨[],[],[],[],[],0⟩),cM false]) (kL mg ml G K) ⟨⟨_,2,_,_,rfl,rfl,.inr ⟨cV a6 rfl,rfl⟩⟩,rfl,trivial⟩ (List.sublist_append_left (kL mg ml G K) [_,_]) ⟨⟨_,false,rfl,hnone⟩,rfl⟩
 have hin:r.In≠[]:=fun e0=>by
  have:=Jx e
  rw [hIr,e0] at this
  exact this rfl
 clear e
 repeat' (first|refine go ?_|fail)
 have ho:=Ek f mg ml G K hG l r hin hr.out
 have hol:(fA f G l r).length≤1000000:=by
  unfold fA
  split
  ·rw [Jt]
   refine Nat.le_trans (List.length_filter_le ..) ?_
   rw [List.length_zip]
   have:=hr.out
   omega
  ·exact hr.out
 have hg8:=vM (u:= .fnB 70 [.agg (cK f mg ml)] []) rfl (fA f G l r) hol (di G) (kL mg ml G K) fun z _=> .fnB ((jm f mg ml G K z).mono fun c L ⟨h1,h2⟩=>⟨⟨(di G z).getD 0,(di G z).isSome,h1,by cases di G z <;> rfl⟩,h2⟩)
 have hcl:=Dz (u:= .fn 106 [.iptr (cK f mg ml)]) rfl r.Calls hr.calls (eP K) (kL mg ml G K) fun c _=> .fn (AZ f mg ml G K c)
 refine br 7 [(0,.v),(1,.v),(2,.v),(3,.v),(5,.v),(6,.v),(4,.e)] none ?_ trivial rfl (by kernel_rfl) (by kernel_rfl) (by kernel_rfl) mixed (by kernel_rfl) rfl
 repeat' (first|refine aC ?_|refine aY a6 ?_|fail)
 refine f5 (kL mg ml G K) [(b,_),(bm,_)] ho rfl rfl (Jn _) (by first | trivial | rfl) fun c L1 ⟨hc,hL⟩=>?_
 subst hc;subst hL
 repeat' (first|fail)
 refine IQ [3,5,6,10,55,57] EV ?_
 repeat' (first|fail)
 refine bn (kL mg ml G K) [(b,_),(bm,_)] hg8 rfl rfl (Jn _) rfl fun c L1 ⟨hc,hL⟩=>?_
 subst hc;subst hL
 repeat' (first|refine go ?_|refine IG a6 EV ?_|(apply aJ;first|refine IH a6 0 IE ?_|refine IH a6 1 IE ?_|refine IH a6 2 IE ?_|refine IH a6 3 IE ?_|fail))
 refine bn (kL mg ml G K) [(b,_),(bm,_)] hcl rfl rfl (Jn _) rfl fun c L1 ⟨hc,hL⟩=>?_
 subst hc;subst hL
 repeat' (first|refine go ?_|refine IG a6 EV ?_|(apply aJ;first|refine IH a6 0 IE ?_|refine IH a6 1 IE ?_|refine IH a6 2 IE ?_|refine IH a6 3 IE ?_|fail))
 refine IK a6 3 ID ?_
 repeat' (first|refine go ?_|refine IG a6 EV ?_|(apply aJ;first|refine IH a6 0 IE ?_|refine IH a6 1 IE ?_|refine IH a6 2 IE ?_|refine IH a6 3 IE ?_|fail))
 refine er (cs:=[.agg (bE { Back:=cR f G l.Ignore r.Back,In:=cR f G l.Ignore r.In,Ahead:=cR f G l.Ignore r.Ahead,Out:=(fA f G l r).filterMap (di G),Calls:=r.Calls.filterMap (eP K),X:=r.X }),cM true]) (kL mg ml G K) ⟨⟨_,2,_,_,rfl,rfl,.inr ⟨cV a6 rfl,rfl⟩⟩,rfl,trivial⟩ (List.sublist_append_left (kL mg ml G K) [_,_]) ⟨⟨_,true,rfl,?_⟩,rfl⟩
 unfold eb
 rw [if_neg,if_pos rfl]
 rw [n1,n2,n3]
 simp [hin]
theorem Cu (f:aL) (mg ml:Nat) (G K:List Int) (hG:cJ f.Glyphs.length G) (l:bj) (r:cb) (hr:wV r):AC Tryz.prog 76 [.agg (bE r),.iptr (cK f mg ml),.iptr (bi l)] (kL mg ml G K) fun c L=>(∃y b,c= .tup [.agg (bE y),cM b]∧eb f G K l r=if b=true then some y else none)∧L=kL mg ml G K:=by
 refine aX Tryz.func76 rfl Tryz.ntmps76 rfl fun B=>?_
 repeat' (first|refine go ?_|refine IG a6 EV ?_|refine bD ?_|refine bc a6 fun _=>?_|fail)
 rename_i b
 refine bn (kL mg ml G K) [(b,_)] (Cw f mg ml G K hG l r hr) rfl rfl (List.perm_append_singleton _ _).symm rfl fun c L1 ⟨⟨y,b2,hc,hb⟩,hL⟩=>?_
 subst hc;subst hL
 repeat' (first|refine go ?_|refine IG a6 EV ?_|(apply aJ;first|refine IH a6 0 IE ?_|refine IH a6 1 IE ?_|refine IH a6 2 IE ?_|refine IH a6 3 IE ?_|fail))
 exact er (cs:=[.agg (bE y),cM b2]) (kL mg ml G K) ⟨⟨_,2,_,_,rfl,rfl,.inr ⟨cV a6 rfl,rfl⟩⟩,rfl,trivial⟩ (List.sublist_append_left (kL mg ml G K) [_]) ⟨⟨y,b2,rfl,hb⟩,rfl⟩
structure GN (l:bj):Prop where
 rules:l.Rules.length≤1000000
 rule:∀r∈l.Rules,wV r
theorem Eb (f:aL) (mg ml:Nat) (G K:List Int) (hG:cJ f.Glyphs.length G) (l:bj) (hl:GN l):AC Tryz.prog 31 [.agg (cK f mg ml),.agg (bi l)] (kL mg ml G K) fun c L=>c= .agg (bi (fv f G K l))∧L=kL mg ml G K:=by
 refine aX Tryz.func31 rfl Tryz.ntmps31 rfl fun B=>?_
 have he:=FY (u:= .fn 76 [.iptr (cK f mg ml),.iptr (bi l)]) rfl l.Rules hl.rules (eb f G K l) (kL mg ml G K) fun r hr=> .fn (Cu f mg ml G K hG l r (hl.rule r hr))
 repeat' (first|refine go ?_|refine IG a6 EV ?_|refine bD ?_|refine bc a6 fun _=>?_|fail)
 rename_i b
 refine bn (kL mg ml G K) [(b,_)] he rfl rfl (List.perm_append_singleton _ _).symm rfl fun c L1 ⟨hc,hL⟩=>?_
 subst hc;subst hL
 repeat' (first|refine go ?_|refine IG a6 EV ?_|(apply aJ;first|refine IH a6 0 IE ?_|refine IH a6 1 IE ?_|refine IH a6 2 IE ?_|refine IH a6 3 IE ?_|fail))
 exact er (cs:=[.agg (bi (fv f G K l))]) (kL mg ml G K) ⟨⟨_,2,_,_,rfl,rfl,.inr ⟨cV a6 rfl,rfl⟩⟩,trivial⟩ (List.sublist_append_left (kL mg ml G K) [_]) ⟨rfl,rfl⟩
end Go.Proofs.YtjjpkibjffmceaaGreat
namespace Go.Proofs.YtjjpkibjffmceaaGreat
open Go.RowKit
attribute [local irreducible] AT cg AX AO Av Kt bJ eC DA du
def oE (m:Nat):ByteArray:=⟨#[UInt8.ofNat (48+m)]⟩
def mf (m:Nat):ByteArray:=if m < 10 then oE m else mf (m / 10)++oE (m % 10)
termination_by m
decreasing_by omega
def jt:ByteArray:=⟨#[32]⟩
def we:ByteArray:=⟨#[45]⟩
def cG (z:Int):ByteArray:=if z < 0 then we++mf z.natAbs++jt else mf z.natAbs++jt
theorem me (m:Nat):(oE m).size=1:=rfl
theorem rp:∀(k m:Nat),m < 10 ^ k→(mf m).size≤max k 1
 | 0,m,h=>by
  have:m=0:=by simpa using h
  subst this
  rw [mf,if_pos (by decide)]
  exact Nat.le_refl 1
 | k+1,m,h=>by
  rw [mf]
  split
  ·rw [me];omega
  ·rw [Ju,me]
   have:=rp k (m / 10) (by rw [Nat.pow_succ] at h;omega)
   by_cases hk:k=0
   ·subst hk;omega
   ·omega
def NB (z:Int):Prop:= -999999999≤z∧z≤999999999
theorem Bd {m:Nat} (h:m≤999999999):(mf m).size≤9:=rp 9 m (by omega)
theorem be {z:Int} (h:NB z):(cG z).size≤11:=by
 have:=Bd (m:=z.natAbs) (by have:=h.1;have:=h.2;omega)
 unfold cG
 split <;> simp only [Ju,show we.size=1 from rfl,show jt.size=1 from rfl] <;> omega
section
variable {α:Type} {st:ByteArray→α→ByteArray} {s:ByteArray} {l:List α} {k i:Nat} {x:α}
theorem dN (h:l[i]?=some x):(l.take (i+1)).foldl st s=st ((l.take i).foldl st s) x:=by
 rw [List.take_add_one,h,Option.toList_some,List.foldl_append]
 rfl
theorem nY:∀{l:List α} {s:ByteArray},(∀s,∀x∈l,(st s x).size≤s.size+k)→(l.foldl st s).size≤s.size+l.length * k
 | [],s,_=>by simp
 | x::r,s,h=>by
  have h1:=nY (l:=r) (s:=st s x) fun s y hy=>h s y (Js _ hy)
  have h2:=h s x (List.mem_cons_self ..)
  rw [List.length_cons,Nat.succ_mul,List.foldl_cons]
  omega
theorem vR (i:Nat) (h:∀s,∀x∈l,(st s x).size≤s.size+k):((l.take i).foldl st s).size≤s.size+l.length * k:=by
 have h1:=nY (st:=st) (k:=k) (l:=l.take i) (s:=s) fun s y hy=>h s y (List.mem_of_mem_take hy)
 have h2:(l.take i).length * k≤l.length * k:=Nat.mul_le_mul_right _ (by rw [List.length_take];omega)
 omega
theorem dw {n m:Nat} (h:∀s,∀x∈l,(st s x).size≤s.size+k) (hn:l.length≤n) (hs:s.size≤m):(l.foldl st s).size≤m+n * k:=by
 have h1:=nY (st:=st) (k:=k) (l:=l) (s:=s) h
 have h2:l.length * k≤n * k:=Nat.mul_le_mul_right _ hn
 omega
theorem cZ {n m:Nat} (i:Nat) (h:∀s,∀x∈l,(st s x).size≤s.size+k) (hn:l.length≤n) (hs:s.size≤m):((l.take i).foldl st s).size≤m+n * k:=by
 have h1:=vR (st:=st) (k:=k) (l:=l) (s:=s) i h
 have h2:l.length * k≤n * k:=Nat.mul_le_mul_right _ hn
 omega
end
def ev (n:Nat):ByteArray:=cG (n:Int)
theorem cT {n:Nat} (h:n≤999999999):(ev n).size≤11:=be ⟨by omega,by omega⟩
def th (b:Bool):ByteArray:=if b then ⟨#[49,32]⟩ else ⟨#[48,32]⟩
theorem iQ (b:Bool):(th b).size=2:=by cases b <;> rfl
def rP (s:ByteArray) (z:Int):ByteArray:=s++cG z
def pa (l:List Int):ByteArray:=l.foldl rP (ev l.length)
def Ad (l:List Int):Prop:=l.length≤16∧∀z∈l,NB z
theorem qG {l:List Int} (h:∀z∈l,NB z):∀s,∀z∈l,(rP s z).size≤s.size+11:=fun s z hz=>by
 have:=be (h z hz)
 unfold rP
 rw [Ju]
 omega
theorem fU {l:List Int} (h:Ad l):(pa l).size≤187:=dw (n:=16) (m:=11) (qG h.2) h.1 (cT (by have:=h.1;omega))
def oe (s:ByteArray) (q:List Int):ByteArray:=s++pa q
def nu (l:List (List Int)):ByteArray:=l.foldl oe (ev l.length)
def p5 (l:List (List Int)):Prop:=l.length≤16∧∀q∈l,Ad q
theorem oX {l:List (List Int)} (h:∀q∈l,Ad q):∀s,∀q∈l,(oe s q).size≤s.size+187:=fun s q hq=>by
 have:=fU (h q hq)
 unfold oe
 rw [Ju]
 omega
theorem i4 {l:List (List Int)} (h:p5 l):(nu l).size≤3003:=dw (n:=16) (m:=11) (oX h.2) h.1 (cT (by have:=h.1;omega))
def od (s:ByteArray) (x:ep):ByteArray:=s++cG x.Op++cG x.A
def rj (l:List ep):ByteArray:=l.foldl od (ev l.length)
def Fk (l:List ep):Prop:=l.length≤50∧∀x∈l,NB x.Op∧NB x.A
theorem oW {l:List ep} (h:∀x∈l,NB x.Op∧NB x.A):∀s,∀x∈l,(od s x).size≤s.size+22:=fun s x hx=>by
 have h1:=be (h x hx).1
 have h2:=be (h x hx).2
 unfold od
 simp only [Ju]
 omega
theorem kc {l:List ep} (h:Fk l):(rj l).size≤1111:=dw (n:=50) (m:=11) (oW h.2) h.1 (cT (by have:=h.1;omega))
def stPoint (s:ByteArray) (p:eU):ByteArray:=s++cG p.X++cG p.Y++th p.On
def stPart (s:ByteArray) (p:cD):ByteArray:=s++cG p.Glyph++cG p.X++cG p.Y
def stAnchor (s:ByteArray) (p:dv):ByteArray:=s++cG p.Kind++cG p.Class++cG p.X++cG p.Y
def stDelta (s:ByteArray) (p:dK):ByteArray:=s++cG p.Region++cG p.Point++cG p.X++cG p.Y
def E0 (g:bL):ByteArray:=ev g.Name.size++g.Name++jt++cG g.Advance++th g.Mark++ev g.Points.length
def E1 (g:bL):ByteArray:=g.Points.foldl stPoint (E0 g)++pa g.Ends++ev g.Parts.length
def E2 (g:bL):ByteArray:=g.Parts.foldl stPart (E1 g)++ev g.Anchors.length
def F4 (g:bL):ByteArray:=g.Anchors.foldl stAnchor (E2 g)++ev g.Deltas.length
def o4 (g:bL):ByteArray:=g.Deltas.foldl stDelta (F4 g)++rj g.Hint
structure tk (g:bL):Prop where
 name:g.Name.size≤50
 adv:NB g.Advance
 pts:g.Points.length≤16∧∀p∈g.Points,NB p.X∧NB p.Y
 ends:Ad g.Ends
 parts:g.Parts.length≤16∧∀p∈g.Parts,NB p.Glyph∧NB p.X∧NB p.Y
 anchors:g.Anchors.length≤16∧∀p∈g.Anchors,NB p.Kind∧NB p.Class∧NB p.X∧NB p.Y
 deltas:g.Deltas.length≤50∧∀p∈g.Deltas,NB p.Region∧NB p.Point∧NB p.X∧NB p.Y
 hint:Fk g.Hint
section
variable {g:bL} (h:tk g)
include h
theorem tk.stPoint:∀s,∀p∈g.Points,(stPoint s p).size≤s.size+24:=fun s p hp=>by
 have h1:=be (h.pts.2 p hp).1
 have h2:=be (h.pts.2 p hp).2
 have h3:=iQ p.On
 unfold Go.Proofs.YtjjpkibjffmceaaGreat.stPoint
 simp only [Ju]
 omega
theorem tk.stPart:∀s,∀p∈g.Parts,(stPart s p).size≤s.size+33:=fun s p hp=>by
 have h1:=be (h.parts.2 p hp).1
 have h2:=be (h.parts.2 p hp).2.1
 have h3:=be (h.parts.2 p hp).2.2
 unfold Go.Proofs.YtjjpkibjffmceaaGreat.stPart
 simp only [Ju]
 omega
theorem tk.stAnchor:∀s,∀p∈g.Anchors,(stAnchor s p).size≤s.size+44:=fun s p hp=>by
 have h1:=be (h.anchors.2 p hp).1
 have h2:=be (h.anchors.2 p hp).2.1
 have h3:=be (h.anchors.2 p hp).2.2.1
 have h4:=be (h.anchors.2 p hp).2.2.2
 unfold Go.Proofs.YtjjpkibjffmceaaGreat.stAnchor
 simp only [Ju]
 omega
theorem tk.stDelta:∀s,∀p∈g.Deltas,(stDelta s p).size≤s.size+44:=fun s p hp=>by
 have h1:=be (h.deltas.2 p hp).1
 have h2:=be (h.deltas.2 p hp).2.1
 have h3:=be (h.deltas.2 p hp).2.2.1
 have h4:=be (h.deltas.2 p hp).2.2.2
 unfold Go.Proofs.YtjjpkibjffmceaaGreat.stDelta
 simp only [Ju]
 omega
theorem tk.s1:(E0 g).size≤86:=by
 have h1:=cT (n:=g.Name.size) (by have:=h.name;omega)
 have h2:=be h.adv
 have h3:=iQ g.Mark
 have h4:=cT (n:=g.Points.length) (by have:=h.pts.1;omega)
 have h5:=h.name
 unfold E0
 simp only [Ju,show jt.size=1 from rfl]
 omega
theorem tk.s2:(E1 g).size≤668:=by
 have h1:=dw (n:=16) (m:=86) h.stPoint h.pts.1 h.s1
 have h2:=fU h.ends
 have h3:=cT (n:=g.Parts.length) (by have:=h.parts.1;omega)
 unfold E1
 simp only [Ju]
 omega
theorem tk.s3:(E2 g).size≤1207:=by
 have h1:=dw (n:=16) (m:=668) h.stPart h.parts.1 h.s2
 have h3:=cT (n:=g.Anchors.length) (by have:=h.anchors.1;omega)
 unfold E2
 simp only [Ju]
 omega
theorem tk.s4:(F4 g).size≤1922:=by
 have h1:=dw (n:=16) (m:=1207) h.stAnchor h.anchors.1 h.s3
 have h3:=cT (n:=g.Deltas.length) (by have:=h.deltas.1;omega)
 unfold F4
 simp only [Ju]
 omega
theorem tk.size:(o4 g).size≤5233:=by
 have h1:=dw (n:=50) (m:=1922) h.stDelta h.deltas.1 h.s4
 have h3:=kc h.hint
 unfold o4
 simp only [Ju]
 omega
end
def stCall (s:ByteArray) (c:gy):ByteArray:=s++cG c.At++cG c.Lookup
def Er (s:ByteArray) (r:cb):ByteArray:=s++nu r.Back++nu r.In++nu r.Ahead++pa r.Out++ev r.Calls.length
def iB (s:ByteArray) (r:cb):ByteArray:=r.Calls.foldl stCall (Er s r)++cG r.X
def zg (l:bj):ByteArray:=cG l.Kind++th l.Ignore++ev l.Rules.length
def uy (l:bj):ByteArray:=l.Rules.foldl iB (zg l)
structure mL (r:cb):Prop where
 back:p5 r.Back
 ins:p5 r.In
 ahead:p5 r.Ahead
 out:Ad r.Out
 calls:r.Calls.length≤16∧∀c∈r.Calls,NB c.At∧NB c.Lookup
 x:NB r.X
structure CR (l:bj):Prop where
 kind:NB l.Kind
 rules:l.Rules.length≤4∧∀r∈l.Rules,mL r
theorem mL.stCall {r:cb} (h:mL r):∀s,∀c∈r.Calls,(stCall s c).size≤s.size+22:=fun s c hc=>by
 have h1:=be (h.calls.2 c hc).1
 have h2:=be (h.calls.2 c hc).2
 unfold Go.Proofs.YtjjpkibjffmceaaGreat.stCall
 simp only [Ju]
 omega
theorem mL.s1 {r:cb} (h:mL r) (s:ByteArray):(Er s r).size≤s.size+9207:=by
 have h1:=i4 h.back
 have h2:=i4 h.ins
 have h3:=i4 h.ahead
 have h4:=fU h.out
 have h5:=cT (n:=r.Calls.length) (by have:=h.calls.1;omega)
 unfold Er
 simp only [Ju]
 omega
theorem mL.size {r:cb} (h:mL r) (s:ByteArray):(iB s r).size≤s.size+9570:=by
 have h1:=dw (n:=16) (m:=s.size+9207) h.stCall h.calls.1 (h.s1 s)
 have h2:=be h.x
 unfold iB
 simp only [Ju]
 omega
theorem CR.s1 {l:bj} (h:CR l):(zg l).size≤24:=by
 have h1:=be h.kind
 have h2:=iQ l.Ignore
 have h3:=cT (n:=l.Rules.length) (by have:=h.rules.1;omega)
 unfold zg
 simp only [Ju]
 omega
theorem CR.size {l:bj} (h:CR l):(uy l).size≤38304:=dw (n:=4) (m:=24) (fun s r hr=>(h.rules.2 r hr).size s) h.rules.1 h.s1
def stGlyph (s:ByteArray) (g:bL):ByteArray:=s++o4 g
def stChar (s:ByteArray) (c:ey):ByteArray:=s++cG c.Rune++cG c.Glyph
def stLook (s:ByteArray) (l:bj):ByteArray:=s++uy l
def stFeat (s:ByteArray) (t:bX):ByteArray:=s++ev t.Name.size++t.Name++jt++pa t.Lookups
def stAxis (s:ByteArray) (a:eB):ByteArray:=s++ev a.Name.size++a.Name++jt++cG a.Min++cG a.Def++cG a.Max
def stTent (s:ByteArray) (t:eo):ByteArray:=s++cG t.Start++cG t.Peak++cG t.End
def stReg (s:ByteArray) (r:List eo):ByteArray:=r.foldl stTent (s++ev r.length)
def stFunc (s:ByteArray) (c:List ep):ByteArray:=s++rj c
def DT (f:aL):ByteArray:=cG f.Unit++ev f.Glyphs.length
def DU (f:aL):ByteArray:=f.Glyphs.foldl stGlyph (DT f)++ev f.Chars.length
def DW (f:aL):ByteArray:=f.Chars.foldl stChar (DU f)++ev f.Lookups.length
def DX (f:aL):ByteArray:=f.Lookups.foldl stLook (DW f)++ev f.Features.length
def DY (f:aL):ByteArray:=f.Features.foldl stFeat (DX f)++ev f.Axes.length
def yR (f:aL):ByteArray:=f.Axes.foldl stAxis (DY f)++ev f.Regions.length
def F3 (f:aL):ByteArray:=f.Regions.foldl stReg (yR f)++ev f.Funcs.length
def xq (f:aL):ByteArray:=f.Funcs.foldl stFunc (F3 f)++pa f.Cvt
structure mG (f:aL):Prop where
 unit:NB f.Unit
 glyphs:f.Glyphs.length≤16∧∀g∈f.Glyphs,tk g
 chars:f.Chars.length≤32∧∀c∈f.Chars,NB c.Rune∧NB c.Glyph
 looks:f.Lookups.length≤8∧∀l∈f.Lookups,CR l
 feats:f.Features.length≤16∧∀t∈f.Features,t.Name.size≤50∧Ad t.Lookups
 axes:f.Axes.length≤16∧∀a∈f.Axes,a.Name.size≤50∧NB a.Min∧NB a.Def∧NB a.Max
 regs:f.Regions.length≤16∧∀r∈f.Regions,r.length≤16∧∀t∈r,NB t.Start∧NB t.Peak∧NB t.End
 funcs:f.Funcs.length≤16∧∀c∈f.Funcs,Fk c
 cvt:Ad f.Cvt
section
variable {f:aL} (h:mG f)
include h
theorem mG.stGlyph:∀s,∀g∈f.Glyphs,(stGlyph s g).size≤s.size+5233:=fun s g hg=>by
 have h1:=(h.glyphs.2 g hg).size
 unfold Go.Proofs.YtjjpkibjffmceaaGreat.stGlyph
 rw [Ju]
 omega
theorem mG.stChar:∀s,∀c∈f.Chars,(stChar s c).size≤s.size+22:=fun s c hc=>by
 have h1:=be (h.chars.2 c hc).1
 have h2:=be (h.chars.2 c hc).2
 unfold Go.Proofs.YtjjpkibjffmceaaGreat.stChar
 simp only [Ju]
 omega
theorem mG.stLook:∀s,∀l∈f.Lookups,(stLook s l).size≤s.size+38304:=fun s l hl=>by
 have h1:=(h.looks.2 l hl).size
 unfold Go.Proofs.YtjjpkibjffmceaaGreat.stLook
 rw [Ju]
 omega
theorem mG.stFeat:∀s,∀t∈f.Features,(stFeat s t).size≤s.size+249:=fun s t ht=>by
 have h0:=(h.feats.2 t ht).1
 have h1:=cT (n:=t.Name.size) (by omega)
 have h2:=fU (h.feats.2 t ht).2
 unfold Go.Proofs.YtjjpkibjffmceaaGreat.stFeat
 simp only [Ju,show jt.size=1 from rfl]
 omega
theorem mG.stAxis:∀s,∀t∈f.Axes,(stAxis s t).size≤s.size+95:=fun s t ht=>by
 obtain ⟨h0,k1,k2,k3⟩:=h.axes.2 t ht
 have h1:=cT (n:=t.Name.size) (by omega)
 have k1:=be k1
 have k2:=be k2
 have k3:=be k3
 unfold Go.Proofs.YtjjpkibjffmceaaGreat.stAxis
 simp only [Ju,show jt.size=1 from rfl]
 omega
theorem mG.stTent {r:List eo} (hr:r∈f.Regions):∀s,∀t∈r,(stTent s t).size≤s.size+33:=fun s t ht=>by
 obtain ⟨k1,k2,k3⟩:=(h.regs.2 r hr).2 t ht
 have k1:=be k1
 have k2:=be k2
 have k3:=be k3
 unfold Go.Proofs.YtjjpkibjffmceaaGreat.stTent
 simp only [Ju]
 omega
theorem mG.stReg:∀s,∀r∈f.Regions,(stReg s r).size≤s.size+539:=fun s r hr=>by
 have h0:=(h.regs.2 r hr).1
 have h1:=cT (n:=r.length) (by omega)
 have h2:=dw (n:=16) (m:=s.size+11) (h.stTent hr) h0 (s:=s++ev r.length) (by rw [Ju];omega)
 unfold Go.Proofs.YtjjpkibjffmceaaGreat.stReg
 omega
theorem mG.stFunc:∀s,∀c∈f.Funcs,(stFunc s c).size≤s.size+1111:=fun s c hc=>by
 have h1:=kc (h.funcs.2 c hc)
 unfold Go.Proofs.YtjjpkibjffmceaaGreat.stFunc
 rw [Ju]
 omega
theorem mG.s1:(DT f).size≤22:=by
 have h1:=be h.unit
 have h2:=cT (n:=f.Glyphs.length) (by have:=h.glyphs.1;omega)
 unfold DT
 rw [Ju]
 omega
theorem mG.s2:(DU f).size≤83761:=by
 have h1:=dw (n:=16) (m:=22) h.stGlyph h.glyphs.1 h.s1
 have h2:=cT (n:=f.Chars.length) (by have:=h.chars.1;omega)
 unfold DU
 rw [Ju]
 omega
theorem mG.s3:(DW f).size≤84476:=by
 have h1:=dw (n:=32) (m:=83761) h.stChar h.chars.1 h.s2
 have h2:=cT (n:=f.Lookups.length) (by have:=h.looks.1;omega)
 unfold DW
 rw [Ju]
 omega
theorem mG.s4:(DX f).size≤390919:=by
 have h1:=dw (n:=8) (m:=84476) h.stLook h.looks.1 h.s3
 have h2:=cT (n:=f.Features.length) (by have:=h.feats.1;omega)
 unfold DX
 rw [Ju]
 omega
theorem mG.s5:(DY f).size≤394914:=by
 have h1:=dw (n:=16) (m:=390919) h.stFeat h.feats.1 h.s4
 have h2:=cT (n:=f.Axes.length) (by have:=h.axes.1;omega)
 unfold DY
 rw [Ju]
 omega
theorem mG.s6:(yR f).size≤396445:=by
 have h1:=dw (n:=16) (m:=394914) h.stAxis h.axes.1 h.s5
 have h2:=cT (n:=f.Regions.length) (by have:=h.regs.1;omega)
 unfold yR
 rw [Ju]
 omega
theorem mG.s7:(F3 f).size≤405080:=by
 have h1:=dw (n:=16) (m:=396445) h.stReg h.regs.1 h.s6
 have h2:=cT (n:=f.Funcs.length) (by have:=h.funcs.1;omega)
 unfold F3
 rw [Ju]
 omega
end
end Go.Proofs.YtjjpkibjffmceaaGreat
