/-
  The program: rules and lookups with new numbers.
-/
import Derived.Test.YtjjpkibjffmceaaGreatM14
import Derived.Test.YtjjpkibjffmceaaGreatM21
import Derived.Test.YtjjpkibjffmceaaGreatM23
import Derived.Test.YtjjpkibjffmceaaGreatM06
namespace Go.Proofs.YtjjpkibjffmceaaGreat
open Go.RowKit
attribute [local irreducible] AT bW AX AO Av Kt bA eI DA dl
open Go.MapKept
set_option maxHeartbeats 4000000 in
theorem qK (f:aL) (mg ml:Nat) (G K:List Int) (hG:ci f.Glyphs.length G) (l:bb) (z:Int):AC Tryz.prog 98 [aP z,.iptr (cK f mg ml),.iptr (bj l)] (kL mg ml G K) fun c L=>(∃y b,c= .tup [aP y,cx b]∧ei f G l.Ignore z=if b=true then some y else none)∧L=kL mg ml G K:=by
 refine aS Tryz.func98 rfl Tryz.ntmps98 rfl fun B=>?_
 repeat' (first|refine go ?_|refine HK a6 FS ?_)
 refine ba (kL mg ml G K) [] (ic f mg ml G K z) rfl rfl (bR rfl) rfl fun r L1 ⟨hc,hL⟩=>?_
 subst hc;subst hL
 cases hp:dZ G z with
 | none=>
  dsimp only [Option.getD_none,Option.isSome_none]
  repeat' (first|refine go ?_|refine HK a6 FS ?_)
  refine bn 17 [(0,.v),(1,.v),(2,.v),(3,.v),(4,.v),(5,.v),(6,.v),(7,.v),(8,.v),(9,.v),(10,.v),(11,.v),(12,.v),(13,.v),(14,.v),(15,.v),(16,.v)] none ?_ trivial rfl (by kernel_rfl) (by kernel_rfl) (by kernel_rfl) mixed (by kernel_rfl) rfl
  repeat' (first|refine aC ?_|refine b7 a6 ?_|refine lK rfl rfl ?_|refine Gl rfl ?_)
  refine HU [4,29] FS ?_
  repeat' (first|refine go ?_|refine aa ?_|refine HK a6 FS ?_)
  exact HX HE ⟨⟨0,false,rfl,by unfold ei;rw [hp];simp⟩,by simp⟩
 | some n=>
  dsimp only [Option.getD_some,Option.isSome_some]
  have hz:z∈G:=by
   unfold dZ at hp
   split at hp
   ·assumption
   ·cases hp
  have hd:=hG.dom z hz
  obtain ⟨g,hg⟩:∃x,f.Glyphs[z.toNat]?=some x:=⟨_,Iz (by omega)⟩
  have hgg:=bi (c:=bC) hg
  have hm:rZ f z=g.Mark:=by unfold rZ;rw [hg]
  repeat' (first|refine go ?_|refine HK a6 FS ?_)
  refine bn 17 [(0,.v),(1,.v),(2,.v),(3,.v),(4,.v),(5,.v),(6,.v),(7,.v),(8,.v),(9,.v),(10,.v),(11,.v),(12,.v),(13,.v),(14,.v),(15,.v),(16,.v)] none ?_ trivial rfl (by kernel_rfl) (by kernel_rfl) (by kernel_rfl) mixed (by kernel_rfl) rfl
  repeat' (first|refine aC ?_|refine b7 a6 ?_|fail)
  cases hi:l.Ignore with
  | true=>
   repeat' (first|refine aC ?_|refine b7 a6 ?_|(apply bY;refine cn a6 ?_)|fail)
   refine HU [4,29] FS ?_
   repeat' (first|refine go ?_|refine aa ?_|refine HK a6 FS ?_)
   exact HX HE ⟨⟨n, !g.Mark,rfl,by unfold ei;rw [hp,hm];cases g.Mark <;> rfl⟩,by simp⟩
  | false=>
   repeat' (first|refine aC ?_|refine b7 a6 ?_|refine lK rfl rfl ?_)
   refine HU [4,29] FS ?_
   repeat' (first|refine go ?_|refine aa ?_|refine HK a6 FS ?_)
   exact HX HE ⟨⟨n,true,rfl,by unfold ei;rw [hp];rfl⟩,by simp⟩
theorem B6 {α β:Type} (g:α→β) (l:List α):l.filterMap (fun x=>some (g x))=l.map g:=by
 induction l with
 | nil=>rfl
 | cons a r ih=>simp [ih]
def mV (f:aL) (mg ml:Nat) (l:bb):AV:= .fn 98 [.iptr (cK f mg ml),.iptr (bj l)]
theorem DY (f:aL) (mg ml:Nat) (G K:List Int) (hG:ci f.Glyphs.length G) (l:bb) (s:List Int) (hs:s.length≤1000000):AC Tryz.prog 101 [.imm 1 (aZ s),.iptr [mV f mg ml l]] (kL mg ml G K) fun c L=>(∃y b,c= .tup [.imm 1 (aZ y),cx b]∧some (m9 f G l.Ignore s)=if b=true then some y else none)∧L=kL mg ml G K:=by
 refine aS Tryz.func101 rfl Tryz.ntmps101 rfl fun B=>?_
 have he:=vQ (u:=mV f mg ml l) rfl s hs (ei f G l.Ignore) (kL mg ml G K) fun z _=> .fn (qK f mg ml G K hG l z)
 repeat' (first|refine go ?_|refine HK a6 FS ?_)
 refine ba (kL mg ml G K) [] he rfl rfl (bR rfl) rfl fun c L1 ⟨hc,hL⟩=>?_
 subst hc;subst hL
 repeat' (first|refine go ?_|refine HK a6 FS ?_)
 exact HX HE ⟨⟨m9 f G l.Ignore s,true,rfl,rfl⟩,by simp⟩
theorem qM (f:aL) (mg ml:Nat) (G K:List Int) (hG:ci f.Glyphs.length G) (l:bb) (s:List (List Int)) (hs:s.length≤1000000) (hq:∀q∈s,q.length≤1000000):AC Tryz.prog 99 [.imm 1 (bv s),.iptr [mV f mg ml l]] (kL mg ml G K) fun c L=>c= .imm 1 (bv (ca f G l.Ignore s))∧L=kL mg ml G K:=by
 refine aS Tryz.func99 rfl Tryz.ntmps99 rfl fun B=>?_
 have he:=D5 (u:= .fn 101 [.iptr [mV f mg ml l]]) rfl s hs (fun q=>some (m9 f G l.Ignore q)) (kL mg ml G K) fun q hqm=> .fn (DY f mg ml G K hG l q (hq q hqm))
 repeat' (first|refine go ?_|refine HK a6 FS ?_)
 refine ba (kL mg ml G K) [] he rfl rfl (bR rfl) rfl fun c L1 ⟨hc,hL⟩=>?_
 subst hc;subst hL
 repeat' (first|refine go ?_|refine HK a6 FS ?_)
 exact HS FS ⟨by rw [B6];rfl,by simp⟩
theorem AR (s:List Int):AC Tryz.prog 102 [.imm 1 (aZ s)] [] fun c L=>c=cx (decide (s.length=0))∧L=[]:=by
 refine aS Tryz.func102 rfl Tryz.ntmps102 rfl fun B=>?_
 have hil:=aQ s
 refine cH 0 rfl rfl fun hlen=>?_
 repeat' (first|refine go ?_|refine HK a6 FS ?_)
 refine HS FS ?_
 rw [hil]
 exact ⟨congrArg (fun b=>cx b) (decide_eq_decide.2 (by omega)),rfl⟩
theorem Fn {g:FuncId} {caps:List AV} {u:AV} [bN Tryz.prog g] (hu:jN u=some (g,caps)) (l:List (List Int)) (p:List Int→Bool) (L0:AL) (hw:∀q,AC Tryz.prog g ([.imm 1 (aZ q)]++caps) L0 fun c L'=>c=cx (p q)∧L'=L0):AC Tryz.prog 155 [.imm 1 (bv l),u] L0 fun c L=>(∃z:Int,c=aP z∧(0≤z↔l.any p=true))∧L=L0:=by
 refine aS Tryz.func155 rfl Tryz.ntmps155 rfl fun B=>?_
 have hll:(bv l).length=l.length:=It ..
 refine cH 0 rfl rfl fun hlen=>?_
 rw [hll] at hlen
 repeat' (first|refine go ?_|refine ak ?_|refine HK a6 FS ?_)
 refine aJ [0,1,7] (α:=Nat) (fun i=>[(8,aP i)]) (fun i=>i≤l.length∧(l.take i).any p=false) (fun _=>L0) (fun i=>l.length - i) 0 rfl ⟨rfl,trivial⟩ ⟨Nat.zero_le _,by simp⟩ (fun _ _ h=>h) fun i ⟨hi,ha⟩=>?_
 try dsimp only [Ir,Iq,Ip,Ij]
 repeat' (first|refine go ?_|refine HK a6 FS ?_)
 refine ay rfl (fun h=>?_) (fun h=>?_)
 ·have hil:i < l.length:=by have:=Iy h;rw [hll] at this;omega
  obtain ⟨z,hz⟩:∃z,l[i]?=some z:=⟨_,Iz hil⟩
  have hzg:(bv l)[i]?=some [.imm 1 (aZ z)]:=by unfold bv;rw [List.getElem?_map,hz];rfl
  repeat' (first|refine go ?_|refine ak ?_|refine HK a6 FS ?_|(apply aU;first|refine aT a6 ?_|refine aM a6 ?_)|fail)
  refine dw L0 [] (hw z) rfl hu rfl (bR rfl) rfl rfl fun c L1 ⟨hc,hL⟩=>?_
  subst hc;subst hL
  rw [List.append_nil]
  repeat' (first|refine go ?_|fail)
  refine ay rfl (fun h2=>?_) (fun h2=>?_)
  ·repeat' (first|refine go ?_|refine HK a6 FS ?_)
   refine HS FS ⟨⟨i,rfl,?_⟩,rfl⟩
   exact ⟨fun _=>List.any_eq_true.2 ⟨z,Iw hz,h2⟩,fun _=>by omega⟩
  ·repeat' (first|refine go ?_|refine HK a6 FS ?_|(apply aW;refine aV ?_)|fail)
   refine aB (i+1) rfl ⟨by rw [Iv];rfl,trivial⟩ ⟨by omega,?_⟩ (by omega) (fun _ _ h=>h)
   rw [List.take_add_one,hz,List.any_append,ha]
   simpa using h2
 ·have hil:i=l.length:=by have:=Ix h;rw [hll] at this;omega
  subst hil
  rw [List.take_length] at ha
  repeat' (first|refine go ?_|refine HK a6 FS ?_)
  refine HS FS ⟨⟨-1,rfl,?_⟩,rfl⟩
  rw [ha]
  exact ⟨fun h=>absurd h (by decide),fun h=>by cases h⟩
theorem rU (l:List (List Int)):bV Tryz.prog 103 [.imm 1 (bv l),.sc (.func (.func 102) #[] #[])] (cx (gj l)):=by
 refine aS Tryz.func103 rfl Tryz.ntmps103 rfl fun B=>?_
 repeat' (first|refine go ?_|refine HK a6 FS ?_)
 refine ba [] [] (Fn (u:= .sc (.func (.func 102) #[] #[])) (g:=102) (caps:=[]) rfl l (fun q=>decide (q.length=0)) [] fun q=>AR q) rfl rfl (bR rfl) rfl fun c L1 ⟨⟨z,hc,hz⟩,hL⟩=>?_
 subst hc;subst hL
 rw [List.append_nil]
 repeat' (first|refine go ?_|refine HK a6 FS ?_)
 refine HS FS ?_
 refine congrArg (fun b=>cx b) ?_
 unfold gj
 rw [Bool.eq_iff_iff,decide_eq_true_eq]
 exact hz
set_option maxHeartbeats 4000000 in
theorem xj (f:aL) (mg ml:Nat) (G K:List Int) (hG:ci f.Glyphs.length G) (l:bb) (r:bX) (hr:r.In≠[]) (ho:r.Out.length≤1000000):AC Tryz.prog 104 [aP l.Kind,.agg (bI r),mV f mg ml l] (kL mg ml G K) fun c L=>c= .imm 1 (aZ (f4 f G l r))∧L=kL mg ml G K:=by
 refine aS Tryz.func104 rfl Tryz.ntmps104 rfl fun B=>?_
 have hol:=aQ r.Out
 obtain ⟨q,qs,hq⟩:∃q qs,r.In=q::qs:=by cases h:r.In with | nil=>exact absurd h hr | cons q qs=>exact ⟨q,qs,rfl⟩
 have hq0:(bv r.In)[0]?=some [.imm 1 (aZ q)]:=by rw [hq];rfl
 have hh:r.In.headD []=q:=by rw [hq];rfl
 have hqle:=aQ q
 have hseen:∀z,AC Tryz.prog 98 ([aP z]++[.iptr (cK f mg ml),.iptr (bj l)]) (kL mg ml G K) fun c L=>(∃y b,c= .tup [aP y,cx b]∧ei f G l.Ignore z=if b=true then some y else none)∧L=kL mg ml G K:=fun z=>qK f mg ml G K hG l z
 repeat' (first|refine go ?_|refine HK a6 FS ?_|refine bh ?_|fail)
 refine du (t:=17) [2,4] (¬(l.Kind=1∨l.Kind=5)) rfl (fun Q' K'=>?_) ?_
 ·repeat' (first|refine go ?_|refine HK a6 FS ?_|refine HV FS ?_|refine HW HF ?_|refine bk rfl rfl rfl (fun _=>?_) (fun _=>?_))
  all_goals exact K' _ _ rfl rfl (by clear K';simp_all <;> omega)
 repeat' (first|refine go ?_|fail)
 refine ay rfl (fun h1=>?_) (fun h1=>?_)
 ·have h1:=Iy h1
  have hco:f4 f G l r=r.Out:=by unfold f4;rw [if_neg h1]
  rw [hco]
  repeat' (first|refine go ?_|refine HK a6 FS ?_)
  exact HS FS ⟨rfl,rfl⟩
 have h1:l.Kind=1∨l.Kind=5:=Decidable.byContradiction (Ix h1)
 have hco:f4 f G l r=((r.Out.zip q).filter fun x=>(ei f G l.Ignore x.2).isSome).map (·.1):=by unfold f4;rw [if_pos h1,hh]
 repeat' (first|refine go ?_|refine HK a6 FS ?_)
 refine bn 14 [(0,.v),(1,.v),(2,.v),(3,.v),(4,.v),(5,.v),(6,.v),(7,.v),(8,.v),(9,.v),(10,.v),(11,.v),(12,.v),(13,.v)] none ?_ trivial rfl (by kernel_rfl) (by kernel_rfl) (by kernel_rfl) mixed (by kernel_rfl) rfl
 repeat' (first|refine aC ?_|refine b7 a6 ?_|(apply bY;refine cn a6 ?_)|fail)
 refine sF a6 (min r.Out.length q.length) rfl rfl rfl rfl rfl (by rw [hol,hqle];omega) (by rw [hol];omega) trivial ?_
 repeat' (first|refine aC ?_|refine b7 a6 ?_|fail)
 refine HU [2,4,7,31,32,33] FS ?_
 repeat' (first|refine ak ?_|refine aa ?_|refine go ?_|fail)
 have hm:((aZ r.Out).take (min r.Out.length q.length)).length=min r.Out.length q.length:=by rw [List.length_take,hol];omega
 refine bH (bf (t:=7) (c':= .vec none 1 []) rfl fun σ v h=>cq 1 h) ?_
 refine aJ [2,4,31,32] (α:=Nat×Option (Nat×Nat)) (fun x=>[(33,aP x.1),(7,.vec x.2 1 (aZ ((((r.Out.zip q).take x.1).filter fun y=>(ei f G l.Ignore y.2).isSome).map (·.1))))]) (fun x=>x.1≤min r.Out.length q.length) (fun x=>tok x.2 3 1 (aZ ((((r.Out.zip q).take x.1).filter fun y=>(ei f G l.Ignore y.2).isSome).map (·.1))).length++kL mg ml G K) (fun x=>min r.Out.length q.length - x.1) (0,none) rfl ⟨rfl,rfl,trivial⟩ (Nat.zero_le _) (fun _ _ h=>h) ?_
 rintro ⟨i,k1⟩ hi
 dsimp only at hi ⊢
 have hfl:(aZ ((((r.Out.zip q).take i).filter fun y=>(ei f G l.Ignore y.2).isSome).map (·.1))).length≤i:=by
  rw [aQ,It]
  exact Nat.le_trans (List.length_filter_le ..) (by rw [List.length_take];omega)
 try dsimp only [Ir,Iq,Ip,Ij]
 repeat' (first|refine go ?_|refine HK a6 FS ?_)
 refine ay rfl (fun e=>?_) (fun e=>?_)
 ·have hil:i < min r.Out.length q.length:=by have:=Iy e;rw [hm] at this;omega
  obtain ⟨o,hoo⟩:∃z,r.Out[i]?=some z:=⟨_,Iz (by omega)⟩
  obtain ⟨z,hz⟩:∃z,q[i]?=some z:=⟨_,Iz (by omega)⟩
  have hog:((aZ r.Out).take (min r.Out.length q.length))[i]?=some [aP o]:=by rw [List.getElem?_take,if_pos hil];exact bT hoo
  have hzg:=bT hz
  have hzt:=r7 hoo hz
  clear e
  repeat' (first|refine go ?_|refine ak ?_|refine HK a6 FS ?_|(apply aU;first|refine aT a6 ?_|refine aM a6 ?_)|fail)
  refine dw (kL mg ml G K) (tok k1 3 1 (aZ ((((r.Out.zip q).take i).filter fun y=>(ei f G l.Ignore y.2).isSome).map (·.1))).length) (hseen z) rfl rfl rfl List.perm_append_comm rfl rfl fun c L1 ⟨⟨y,b,hc,hb⟩,hL⟩=>?_
  subst hc;subst hL
  refine aO (aK List.perm_append_comm) ?_
  cases b with
  | true=>
   rw [if_pos rfl] at hb
   repeat' (first|refine go ?_|refine HK a6 FS ?_|refine bG a6 ?_|refine bP rfl ?_)
   refine bB a6 (kL mg ml G K) rfl rfl rfl rfl (Im _) (by simp;omega) (by simp;omega) rfl fun k'=>?_
   repeat' (first|refine go ?_|refine HK a6 FS ?_|(apply aW;refine aV ?_)|fail)
   have hap:aZ ((((r.Out.zip q).take i).filter fun y=>(ei f G l.Ignore y.2).isSome).map (·.1))++[[aP o]]=aZ ((((r.Out.zip q).take (i+1)).filter fun y=>(ei f G l.Ignore y.2).isSome).map (·.1)):=by
    rw [hzt,List.filter_append,List.map_append]
    simp [aZ,hb]
   exact aB (i+1,k') rfl ⟨by rw [Iv];rfl,by rw [←hap];rfl,trivial⟩ (by dsimp only;omega) (by dsimp only;omega) (fun _ _ h=>by dsimp only;rw [←hap];exact h)
  | false=>
   rw [if_neg (by decide)] at hb
   have hap:((r.Out.zip q).take (i+1)).filter (fun y=>(ei f G l.Ignore y.2).isSome)=((r.Out.zip q).take i).filter (fun y=>(ei f G l.Ignore y.2).isSome):=by
    rw [hzt,List.filter_append]
    simp [hb]
   repeat' (first|refine go ?_|refine HK a6 FS ?_|(apply aW;refine aV ?_)|refine bF rfl ?_)
   exact aB (i+1,k1) rfl ⟨by rw [Iv];rfl,by rw [hap];rfl,trivial⟩ (by dsimp only;omega) (by dsimp only;omega) (fun _ _ h=>by dsimp only;rw [hap];exact h)
 have hil:i=min r.Out.length q.length:=by have:=Ix e;rw [hm] at this;omega
 subst hil
 have htz:(r.Out.zip q).take (min r.Out.length q.length)=r.Out.zip q:=List.take_of_length_le (by rw [List.length_zip];exact Nat.le_refl _)
 rw [htz]
 repeat' (first|refine go ?_|refine HK a6 FS ?_)
 refine bc (bf (t:=6) (c':= .imm 1 (aZ (f4 f G l r))) rfl fun σ v h=>by rw [hco];exact VR.im h) ?_
 refine cX (List.sublist_append_right ..) ?_
 exact HS FS ⟨rfl,rfl⟩
theorem tW (f:aL) (mg ml:Nat) (G K:List Int) (c:gw):AC Tryz.prog 106 [.agg (dI c),.iptr (cK f mg ml)] (kL mg ml G K) fun r L=>(∃y b,r= .tup [.agg (dI y),cx b]∧jd K c=if b=true then some y else none)∧L=kL mg ml G K:=by
 refine aS Tryz.func106 rfl Tryz.ntmps106 rfl fun B=>?_
 repeat' (first|refine go ?_|refine HK a6 FS ?_|refine bh ?_|refine aX a6 fun _=>?_|fail)
 rename_i b
 refine ba (kL mg ml G K) [(b,_)] (kq f mg ml G K c.Lookup) rfl rfl (List.perm_append_singleton _ _).symm rfl fun r L1 ⟨hc,hL⟩=>?_
 subst hc;subst hL
 repeat' (first|refine go ?_|refine HK a6 FS ?_|(apply aG;first|refine HM a6 0 HH ?_|refine HM a6 1 HH ?_|refine HM a6 2 HH ?_|refine HM a6 3 HH ?_|fail))
 refine dv (cs:=[.agg (dI { c with Lookup:=(dZ K c.Lookup).getD 0 }),cx (dZ K c.Lookup).isSome]) (kL mg ml G K) ⟨⟨_,2,_,_,rfl,rfl,.inr ⟨ct a6 rfl,rfl⟩⟩,rfl,trivial⟩ (List.sublist_append_left ..) ⟨⟨{ c with Lookup:=(dZ K c.Lookup).getD 0 },_,rfl,?_⟩,rfl⟩
 unfold jd
 cases dZ K c.Lookup <;> rfl
structure rq (r:bX):Prop where
 back:r.Back.length≤1000000∧∀q∈r.Back,q.length≤1000000
 ins:r.In.length≤1000000∧∀q∈r.In,q.length≤1000000
 ahead:r.Ahead.length≤1000000∧∀q∈r.Ahead,q.length≤1000000
 out:r.Out.length≤1000000
 calls:r.Calls.length≤1000000
set_option maxHeartbeats 8000000 in
theorem C9 (f:aL) (mg ml:Nat) (G K:List Int) (hG:ci f.Glyphs.length G) (l:bb) (r:bX) (hr:rq r):AC Tryz.prog 77 [.agg (cK f mg ml),.agg (bj l),.agg (bI r)] (kL mg ml G K) fun c L=>(∃y b,c= .tup [.agg (bI y),cx b]∧eh f G K l r=if b=true then some y else none)∧L=kL mg ml G K:=by
 refine aS Tryz.func77 rfl Tryz.ntmps77 rfl fun B=>?_
 have s1:=qM f mg ml G K hG l r.Back hr.back.1 hr.back.2
 have s2:=qM f mg ml G K hG l r.In hr.ins.1 hr.ins.2
 have s3:=qM f mg ml G K hG l r.Ahead hr.ahead.1 hr.ahead.2
 repeat' (first|refine go ?_|refine HK a6 FS ?_|(apply aG;first|refine HN 8 a6 0 HJ ?_|refine HN 8 a6 1 HJ ?_|refine HN 8 a6 2 HJ ?_|refine HM a6 0 HH ?_|refine HM a6 1 HH ?_|refine HM a6 2 HH ?_|refine HM a6 3 HH ?_|fail)|refine bh ?_|refine aX a6 fun _=>?_|fail)
 rename_i b b8
 refine bn 16 [(0,.v),(1,.v),(2,.v),(4,.v),(5,.v),(6,.v),(8,.v),(9,.v),(10,.v),(12,.v),(13,.v),(3,.e),(7,.e),(11,.e),(14,.v)] (some (15,.box _ 81)) ?_ ⟨_,rfl,rfl,fun _ _ _=>gA (f5 a6 rfl) rfl⟩ rfl (by kernel_rfl) (by kernel_rfl) (by kernel_rfl) mixed (by kernel_rfl) rfl
 repeat' (first|refine aC ?_|refine b7 a6 ?_|fail)
 refine ly (kL mg ml G K) [(b,_)] (.fn s1) rfl rfl (List.perm_append_singleton _ _).symm (by first | trivial | rfl) fun c L1 ⟨hc,hL⟩=>?_
 subst hc;subst hL
 repeat' (first|refine aC ?_|fail)
 refine ly (kL mg ml G K) [(b,_)] (.fn s2) rfl rfl (Im _) (by first | trivial | rfl) fun c L1 ⟨hc,hL⟩=>?_
 subst hc;subst hL
 repeat' (first|refine aC ?_|fail)
 refine ly (kL mg ml G K) [(b,_)] (.fn s3) rfl rfl (Im _) (by first | trivial | rfl) fun c L1 ⟨hc,hL⟩=>?_
 subst hc;subst hL
 repeat' (first|refine aC ?_|refine b7 a6 ?_|fail)
 refine je [3,4,5,6,8,10,30] (fun _=>_) (fun _=>rfl) rfl fun _=>?_
 repeat' (first|refine go ?_|refine aa ?_|refine ak ?_|refine HK a6 FS ?_|(apply bK;first|refine HO a6 0 HG ?_|refine HO a6 1 HG ?_|refine HO a6 2 HG ?_|refine HO a6 3 HG ?_|refine HP a6 0 HG ?_|refine HP a6 1 HG ?_|refine HP a6 2 HG ?_|refine HR a6 1 HE (by assumption) rfl ?_|refine HR a6 0 HE (by assumption) rfl ?_|fail)|(apply aG;first|refine HN 8 a6 0 HJ ?_|refine HN 8 a6 1 HJ ?_|refine HN 8 a6 2 HJ ?_|refine HM a6 0 HH ?_|refine HM a6 1 HH ?_|refine HM a6 2 HH ?_|refine HM a6 3 HH ?_|fail))
 rename_i bm
 have hrow:∀i:Nat,i < 3→∃R:List (List Int),[AV.imm 1 (bv (ca f G l.Ignore r.Back)),.imm 1 (bv (ca f G l.Ignore r.In)),.imm 1 (bv (ca f G l.Ignore r.Ahead))][i]?=some (.imm 1 (bv R))∧R=[ca f G l.Ignore r.Back,ca f G l.Ignore r.In,ca f G l.Ignore r.Ahead].getD i []:=fun i hi=>by
  rcases i with _ | _ | _ | i
  ·exact ⟨_,rfl,rfl⟩
  ·exact ⟨_,rfl,rfl⟩
  ·exact ⟨_,rfl,rfl⟩
  ·omega
 have hnl:=rU
 have hI:(ca f G l.Ignore r.In).length=r.In.length:=It ..
 refine aJ [3,4,5,6,8,10,11,37] (α:=Nat) (fun i=>[(38,aP i)]) (fun i=>i≤3∧∀j < i,gj ([ca f G l.Ignore r.Back,ca f G l.Ignore r.In,ca f G l.Ignore r.Ahead].getD j [])=false) (fun _=>_) (fun i=>3 - i) 0 rfl ⟨rfl,trivial⟩ ⟨by omega,fun j hj=>by omega⟩ (fun _ _ h=>h) ?_
 rintro i ⟨hi,ha⟩
 try dsimp only [Ir,Iq,Ip,Ij]
 repeat' (first|refine go ?_|refine HK a6 FS ?_)
 refine ay rfl (fun e=>?_) (fun e=>?_)
 ·have hil:i < 3:=by have:=Iy e;omega
  obtain ⟨R,hR,hRe⟩:=hrow i hil
  repeat' (first|refine go ?_|refine ak ?_)
  refine BE a6 i rfl rfl rfl rfl rfl hil hR rfl ?_
  repeat' (first|refine go ?_|refine HK a6 FS ?_)
  haveI:AD Tryz.prog 103 [.imm 1 (bv R),.sc (.func (.func 102) #[] #[])] (cx (gj R)):=⟨hnl R⟩
  repeat' (first|refine go ?_|(apply bq;refine bg ?_)|fail)
  refine ay rfl (fun e2=>?_) (fun e2=>?_)
  ·repeat' (first|refine go ?_|refine HK a6 FS ?_|(apply aG;first|refine HM a6 0 HH ?_|refine HM a6 1 HH ?_|refine HM a6 2 HH ?_|refine HM a6 3 HH ?_|fail))
   have hnone:eh f G K l r=none:=by
    unfold eh
    rw [if_pos]
    refine .inl ?_
    rw [hRe] at e2
    rcases i with _ | _ | _ | i
    ·exact .inl e2
    ·exact .inr (.inl e2)
    ·exact .inr (.inr e2)
    ·omega
   refine bc (bD 2 (cs':=bI ⟨[],[],[],[],[],0⟩) rfl fun σ vs h=>nN.vrs (a:=[.sc (.slice none 0 0),.sc (.slice none 0 0),.sc (.slice none 0 0),.sc (.slice none 0 0),.sc (.slice none 0 0),aP 0]) (b:=bI ⟨[],[],[],[],[],0⟩) ⟨dH.nil 1,dH.nil 1,dH.nil 1,dH.nil 1,dH.nil 2,dH.refl _,trivial⟩ h) ?_
   exact dv (cs:=[.agg (bI ⟨[],[],[],[],[],0⟩),cx false]) (kL mg ml G K) ⟨⟨_,2,_,_,rfl,rfl,.inr ⟨ct a6 rfl,rfl⟩⟩,rfl,trivial⟩ (List.sublist_append_left (kL mg ml G K) [_,_]) ⟨⟨_,false,rfl,hnone⟩,rfl⟩
  repeat' (first|refine go ?_|refine HK a6 FS ?_|(apply aW;refine aV ?_)|fail)
  exact aB (i+1) rfl ⟨by rw [Iv];rfl,trivial⟩ ⟨by omega,fun j hj=>by
   by_cases hji:j < i
   ·exact ha j hji
   ·have:j=i:=by omega
    subst this
    rw [←hRe];exact e2⟩ (by omega) (fun _ _ h=>h)
 have hil:i=3:=by have:=Ix e;omega
 subst hil
 have n1:gj (ca f G l.Ignore r.Back)=false:=ha 0 (by omega)
 have n2:gj (ca f G l.Ignore r.In)=false:=ha 1 (by omega)
 have n3:gj (ca f G l.Ignore r.Ahead)=false:=ha 2 (by omega)
 clear ha hi e
 have hIr:(bv (ca f G l.Ignore r.In)).length=r.In.length:=by unfold bv;rw [It,hI]
 repeat' (first|refine go ?_|refine HK a6 FS ?_|(apply bK;first|refine HO a6 0 HG ?_|refine HO a6 1 HG ?_|refine HO a6 2 HG ?_|refine HO a6 3 HG ?_|refine HP a6 0 HG ?_|refine HP a6 1 HG ?_|refine HP a6 2 HG ?_|refine HR a6 1 HE (by assumption) rfl ?_|refine HR a6 0 HE (by assumption) rfl ?_|fail)|fail)
 refine ay rfl (fun e=>?_) (fun e=>?_)
 ·repeat' (first|refine go ?_|refine HK a6 FS ?_|(apply aG;first|refine HM a6 0 HH ?_|refine HM a6 1 HH ?_|refine HM a6 2 HH ?_|refine HM a6 3 HH ?_|fail))
  have hnone:eh f G K l r=none:=by
   unfold eh
   rw [if_pos]
   refine .inr ?_
   have:=Iy e
   rw [hIr] at this
   exact List.length_eq_zero_iff.1 (by omega)
  refine bc (bD 2 (cs':=bI ⟨[],[],[],[],[],0⟩) rfl fun σ vs h=>nN.vrs (a:=[.sc (.slice none 0 0),.sc (.slice none 0 0),.sc (.slice none 0 0),.sc (.slice none 0 0),.sc (.slice none 0 0),aP 0]) (b:=bI ⟨[],[],[],[],[],0⟩) ⟨dH.nil 1,dH.nil 1,dH.nil 1,dH.nil 1,dH.nil 2,dH.refl _,trivial⟩ h) ?_
  exact dv (cs:=[.agg (bI ⟨[],[],[],[],[],0⟩),cx false]) (kL mg ml G K) ⟨⟨_,2,_,_,rfl,rfl,.inr ⟨ct a6 rfl,rfl⟩⟩,rfl,trivial⟩ (List.sublist_append_left (kL mg ml G K) [_,_]) ⟨⟨_,false,rfl,hnone⟩,rfl⟩
 have hin:r.In≠[]:=fun e0=>by
  have:=Ix e
  rw [hIr,e0] at this
  exact this rfl
 clear e
 repeat' (first|refine go ?_|fail)
 have ho:=xj f mg ml G K hG l r hin hr.out
 have hol:(f4 f G l r).length≤1000000:=by
  unfold f4
  split
  ·rw [It]
   refine Nat.le_trans (List.length_filter_le ..) ?_
   rw [List.length_zip]
   have:=hr.out
   omega
  ·exact hr.out
 have hg8:=vQ (u:= .fnB 70 [.agg (cK f mg ml)] []) rfl (f4 f G l r) hol (dZ G) (kL mg ml G K) fun z _=> .fnB ((ic f mg ml G K z).mono fun c L ⟨h1,h2⟩=>⟨⟨(dZ G z).getD 0,(dZ G z).isSome,h1,by cases dZ G z <;> rfl⟩,h2⟩)
 have hcl:=x3 (u:= .fn 106 [.iptr (cK f mg ml)]) rfl r.Calls hr.calls (jd K) (kL mg ml G K) fun c _=> .fn (tW f mg ml G K c)
 refine bn 7 [(0,.v),(1,.v),(2,.v),(3,.v),(5,.v),(6,.v),(4,.e)] none ?_ trivial rfl (by kernel_rfl) (by kernel_rfl) (by kernel_rfl) mixed (by kernel_rfl) rfl
 repeat' (first|refine aC ?_|refine b7 a6 ?_|fail)
 refine dJ (kL mg ml G K) [(b,_),(bm,_)] ho rfl rfl (Im _) (by first | trivial | rfl) fun c L1 ⟨hc,hL⟩=>?_
 subst hc;subst hL
 repeat' (first|fail)
 refine HU [3,5,6,10,55,57] FS ?_
 repeat' (first|fail)
 refine ba (kL mg ml G K) [(b,_),(bm,_)] hg8 rfl rfl (Im _) rfl fun c L1 ⟨hc,hL⟩=>?_
 subst hc;subst hL
 repeat' (first|refine go ?_|refine HK a6 FS ?_|(apply aG;first|refine HM a6 0 HH ?_|refine HM a6 1 HH ?_|refine HM a6 2 HH ?_|refine HM a6 3 HH ?_|fail))
 refine ba (kL mg ml G K) [(b,_),(bm,_)] hcl rfl rfl (Im _) rfl fun c L1 ⟨hc,hL⟩=>?_
 subst hc;subst hL
 repeat' (first|refine go ?_|refine HK a6 FS ?_|(apply aG;first|refine HM a6 0 HH ?_|refine HM a6 1 HH ?_|refine HM a6 2 HH ?_|refine HM a6 3 HH ?_|fail))
 refine HP a6 3 HG ?_
 repeat' (first|refine go ?_|refine HK a6 FS ?_|(apply aG;first|refine HM a6 0 HH ?_|refine HM a6 1 HH ?_|refine HM a6 2 HH ?_|refine HM a6 3 HH ?_|fail))
 refine dv (cs:=[.agg (bI { Back:=ca f G l.Ignore r.Back,In:=ca f G l.Ignore r.In,Ahead:=ca f G l.Ignore r.Ahead,Out:=(f4 f G l r).filterMap (dZ G),Calls:=r.Calls.filterMap (jd K),X:=r.X }),cx true]) (kL mg ml G K) ⟨⟨_,2,_,_,rfl,rfl,.inr ⟨ct a6 rfl,rfl⟩⟩,rfl,trivial⟩ (List.sublist_append_left (kL mg ml G K) [_,_]) ⟨⟨_,true,rfl,?_⟩,rfl⟩
 unfold eh
 rw [if_neg,if_pos rfl]
 rw [n1,n2,n3]
 simp [hin]
theorem C7 (f:aL) (mg ml:Nat) (G K:List Int) (hG:ci f.Glyphs.length G) (l:bb) (r:bX) (hr:rq r):AC Tryz.prog 76 [.agg (bI r),.iptr (cK f mg ml),.iptr (bj l)] (kL mg ml G K) fun c L=>(∃y b,c= .tup [.agg (bI y),cx b]∧eh f G K l r=if b=true then some y else none)∧L=kL mg ml G K:=by
 refine aS Tryz.func76 rfl Tryz.ntmps76 rfl fun B=>?_
 repeat' (first|refine go ?_|refine HK a6 FS ?_|refine bh ?_|refine aX a6 fun _=>?_|fail)
 rename_i b
 refine ba (kL mg ml G K) [(b,_)] (C9 f mg ml G K hG l r hr) rfl rfl (List.perm_append_singleton _ _).symm rfl fun c L1 ⟨⟨y,b2,hc,hb⟩,hL⟩=>?_
 subst hc;subst hL
 repeat' (first|refine go ?_|refine HK a6 FS ?_|(apply aG;first|refine HM a6 0 HH ?_|refine HM a6 1 HH ?_|refine HM a6 2 HH ?_|refine HM a6 3 HH ?_|fail))
 exact dv (cs:=[.agg (bI y),cx b2]) (kL mg ml G K) ⟨⟨_,2,_,_,rfl,rfl,.inr ⟨ct a6 rfl,rfl⟩⟩,rfl,trivial⟩ (List.sublist_append_left (kL mg ml G K) [_]) ⟨⟨y,b2,rfl,hb⟩,rfl⟩
structure EK (l:bb):Prop where
 rules:l.Rules.length≤1000000
 rule:∀r∈l.Rules,rq r
theorem DI (f:aL) (mg ml:Nat) (G K:List Int) (hG:ci f.Glyphs.length G) (l:bb) (hl:EK l):AC Tryz.prog 31 [.agg (cK f mg ml),.agg (bj l)] (kL mg ml G K) fun c L=>c= .agg (bj (ey f G K l))∧L=kL mg ml G K:=by
 refine aS Tryz.func31 rfl Tryz.ntmps31 rfl fun B=>?_
 have he:=Fg (u:= .fn 76 [.iptr (cK f mg ml),.iptr (bj l)]) rfl l.Rules hl.rules (eh f G K l) (kL mg ml G K) fun r hr=> .fn (C7 f mg ml G K hG l r (hl.rule r hr))
 repeat' (first|refine go ?_|refine HK a6 FS ?_|refine bh ?_|refine aX a6 fun _=>?_|fail)
 rename_i b
 refine ba (kL mg ml G K) [(b,_)] he rfl rfl (List.perm_append_singleton _ _).symm rfl fun c L1 ⟨hc,hL⟩=>?_
 subst hc;subst hL
 repeat' (first|refine go ?_|refine HK a6 FS ?_|(apply aG;first|refine HM a6 0 HH ?_|refine HM a6 1 HH ?_|refine HM a6 2 HH ?_|refine HM a6 3 HH ?_|fail))
 exact dv (cs:=[.agg (bj (ey f G K l))]) (kL mg ml G K) ⟨⟨_,2,_,_,rfl,rfl,.inr ⟨ct a6 rfl,rfl⟩⟩,trivial⟩ (List.sublist_append_left (kL mg ml G K) [_]) ⟨rfl,rfl⟩
end Go.Proofs.YtjjpkibjffmceaaGreat
namespace Go.Proofs.YtjjpkibjffmceaaGreat
open Go.RowKit
attribute [local irreducible] AT bW AX AO Av Kt bA eI DA dl
def oN (m:Nat):ByteArray:=⟨#[UInt8.ofNat (48+m)]⟩
def me (m:Nat):ByteArray:=if m < 10 then oN m else me (m / 10)++oN (m % 10)
termination_by m
decreasing_by omega
def jo:ByteArray:=⟨#[32]⟩
def wk:ByteArray:=⟨#[45]⟩
def cA (z:Int):ByteArray:=if z < 0 then wk++me z.natAbs++jo else me z.natAbs++jo
theorem md (m:Nat):(oN m).size=1:=rfl
theorem rH:∀(k m:Nat),m < 10 ^ k→(me m).size≤max k 1
 | 0,m,h=>by
  have:m=0:=by simpa using h
  subst this
  rw [me,if_pos (by decide)]
  exact Nat.le_refl 1
 | k+1,m,h=>by
  rw [me]
  split
  ·rw [md];omega
  ·rw [Iu,md]
   have:=rH k (m / 10) (by rw [Nat.pow_succ] at h;omega)
   by_cases hk:k=0
   ·subst hk;omega
   ·omega
def NB (z:Int):Prop:= -999999999≤z∧z≤999999999
theorem AM {m:Nat} (h:m≤999999999):(me m).size≤9:=rH 9 m (by omega)
theorem b9 {z:Int} (h:NB z):(cA z).size≤11:=by
 have:=AM (m:=z.natAbs) (by have:=h.1;have:=h.2;omega)
 unfold cA
 split <;> simp only [Iu,show wk.size=1 from rfl,show jo.size=1 from rfl] <;> omega
section
variable {α:Type} {st:ByteArray→α→ByteArray} {s:ByteArray} {l:List α} {k i:Nat} {x:α}
theorem dA (h:l[i]?=some x):(l.take (i+1)).foldl st s=st ((l.take i).foldl st s) x:=by
 rw [List.take_add_one,h,Option.toList_some,List.foldl_append]
 rfl
theorem o4:∀{l:List α} {s:ByteArray},(∀s,∀x∈l,(st s x).size≤s.size+k)→(l.foldl st s).size≤s.size+l.length * k
 | [],s,_=>by simp
 | x::r,s,h=>by
  have h1:=o4 (l:=r) (s:=st s x) fun s y hy=>h s y (Is _ hy)
  have h2:=h s x (List.mem_cons_self ..)
  rw [List.length_cons,Nat.succ_mul,List.foldl_cons]
  omega
theorem vU (i:Nat) (h:∀s,∀x∈l,(st s x).size≤s.size+k):((l.take i).foldl st s).size≤s.size+l.length * k:=by
 have h1:=o4 (st:=st) (k:=k) (l:=l.take i) (s:=s) fun s y hy=>h s y (List.mem_of_mem_take hy)
 have h2:(l.take i).length * k≤l.length * k:=Nat.mul_le_mul_right _ (by rw [List.length_take];omega)
 omega
theorem cY {n m:Nat} (h:∀s,∀x∈l,(st s x).size≤s.size+k) (hn:l.length≤n) (hs:s.size≤m):(l.foldl st s).size≤m+n * k:=by
 have h1:=o4 (st:=st) (k:=k) (l:=l) (s:=s) h
 have h2:l.length * k≤n * k:=Nat.mul_le_mul_right _ hn
 omega
theorem cO {n m:Nat} (i:Nat) (h:∀s,∀x∈l,(st s x).size≤s.size+k) (hn:l.length≤n) (hs:s.size≤m):((l.take i).foldl st s).size≤m+n * k:=by
 have h1:=vU (st:=st) (k:=k) (l:=l) (s:=s) i h
 have h2:l.length * k≤n * k:=Nat.mul_le_mul_right _ hn
 omega
end
def ee (n:Nat):ByteArray:=cA (n:Int)
theorem cI {n:Nat} (h:n≤999999999):(ee n).size≤11:=b9 ⟨by omega,by omega⟩
def tv (b:Bool):ByteArray:=if b then ⟨#[49,32]⟩ else ⟨#[48,32]⟩
theorem iM (b:Bool):(tv b).size=2:=by cases b <;> rfl
def sj (s:ByteArray) (z:Int):ByteArray:=s++cA z
def pg (l:List Int):ByteArray:=l.foldl sj (ee l.length)
def zN (l:List Int):Prop:=l.length≤16∧∀z∈l,NB z
theorem qQ {l:List Int} (h:∀z∈l,NB z):∀s,∀z∈l,(sj s z).size≤s.size+11:=fun s z hz=>by
 have:=b9 (h z hz)
 unfold sj
 rw [Iu]
 omega
theorem fV {l:List Int} (h:zN l):(pg l).size≤187:=cY (n:=16) (m:=11) (qQ h.2) h.1 (cI (by have:=h.1;omega))
def ov (s:ByteArray) (q:List Int):ByteArray:=s++pg q
def nA (l:List (List Int)):ByteArray:=l.foldl ov (ee l.length)
def pB (l:List (List Int)):Prop:=l.length≤16∧∀q∈l,zN q
theorem p7 {l:List (List Int)} (h:∀q∈l,zN q):∀s,∀q∈l,(ov s q).size≤s.size+187:=fun s q hq=>by
 have:=fV (h q hq)
 unfold ov
 rw [Iu]
 omega
theorem gV {l:List (List Int)} (h:pB l):(nA l).size≤3003:=cY (n:=16) (m:=11) (p7 h.2) h.1 (cI (by have:=h.1;omega))
def ou (s:ByteArray) (x:eL):ByteArray:=s++cA x.Op++cA x.A
def rE (l:List eL):ByteArray:=l.foldl ou (ee l.length)
def FR (l:List eL):Prop:=l.length≤50∧∀x∈l,NB x.Op∧NB x.A
theorem p6 {l:List eL} (h:∀x∈l,NB x.Op∧NB x.A):∀s,∀x∈l,(ou s x).size≤s.size+22:=fun s x hx=>by
 have h1:=b9 (h x hx).1
 have h2:=b9 (h x hx).2
 unfold ou
 simp only [Iu]
 omega
theorem jY {l:List eL} (h:FR l):(rE l).size≤1111:=cY (n:=50) (m:=11) (p6 h.2) h.1 (cI (by have:=h.1;omega))
def stPoint (s:ByteArray) (p:eP):ByteArray:=s++cA p.X++cA p.Y++tv p.On
def stPart (s:ByteArray) (p:cP):ByteArray:=s++cA p.Glyph++cA p.X++cA p.Y
def stAnchor (s:ByteArray) (p:dT):ByteArray:=s++cA p.Kind++cA p.Class++cA p.X++cA p.Y
def stDelta (s:ByteArray) (p:eb):ByteArray:=s++cA p.Region++cA p.Point++cA p.X++cA p.Y
def Dy (g:br):ByteArray:=ee g.Name.size++g.Name++jo++cA g.Advance++tv g.Mark++ee g.Points.length
def Dz (g:br):ByteArray:=g.Points.foldl stPoint (Dy g)++pg g.Ends++ee g.Parts.length
def DB (g:br):ByteArray:=g.Parts.foldl stPart (Dz g)++ee g.Anchors.length
def Et (g:br):ByteArray:=g.Anchors.foldl stAnchor (DB g)++ee g.Deltas.length
def o7 (g:br):ByteArray:=g.Deltas.foldl stDelta (Et g)++rE g.Hint
structure tA (g:br):Prop where
 name:g.Name.size≤50
 adv:NB g.Advance
 pts:g.Points.length≤16∧∀p∈g.Points,NB p.X∧NB p.Y
 ends:zN g.Ends
 parts:g.Parts.length≤16∧∀p∈g.Parts,NB p.Glyph∧NB p.X∧NB p.Y
 anchors:g.Anchors.length≤16∧∀p∈g.Anchors,NB p.Kind∧NB p.Class∧NB p.X∧NB p.Y
 deltas:g.Deltas.length≤50∧∀p∈g.Deltas,NB p.Region∧NB p.Point∧NB p.X∧NB p.Y
 hint:FR g.Hint
section
variable {g:br} (h:tA g)
include h
theorem tA.stPoint:∀s,∀p∈g.Points,(stPoint s p).size≤s.size+24:=fun s p hp=>by
 have h1:=b9 (h.pts.2 p hp).1
 have h2:=b9 (h.pts.2 p hp).2
 have h3:=iM p.On
 unfold Go.Proofs.YtjjpkibjffmceaaGreat.stPoint
 simp only [Iu]
 omega
theorem tA.stPart:∀s,∀p∈g.Parts,(stPart s p).size≤s.size+33:=fun s p hp=>by
 have h1:=b9 (h.parts.2 p hp).1
 have h2:=b9 (h.parts.2 p hp).2.1
 have h3:=b9 (h.parts.2 p hp).2.2
 unfold Go.Proofs.YtjjpkibjffmceaaGreat.stPart
 simp only [Iu]
 omega
theorem tA.stAnchor:∀s,∀p∈g.Anchors,(stAnchor s p).size≤s.size+44:=fun s p hp=>by
 have h1:=b9 (h.anchors.2 p hp).1
 have h2:=b9 (h.anchors.2 p hp).2.1
 have h3:=b9 (h.anchors.2 p hp).2.2.1
 have h4:=b9 (h.anchors.2 p hp).2.2.2
 unfold Go.Proofs.YtjjpkibjffmceaaGreat.stAnchor
 simp only [Iu]
 omega
theorem tA.stDelta:∀s,∀p∈g.Deltas,(stDelta s p).size≤s.size+44:=fun s p hp=>by
 have h1:=b9 (h.deltas.2 p hp).1
 have h2:=b9 (h.deltas.2 p hp).2.1
 have h3:=b9 (h.deltas.2 p hp).2.2.1
 have h4:=b9 (h.deltas.2 p hp).2.2.2
 unfold Go.Proofs.YtjjpkibjffmceaaGreat.stDelta
 simp only [Iu]
 omega
theorem tA.s1:(Dy g).size≤86:=by
 have h1:=cI (n:=g.Name.size) (by have:=h.name;omega)
 have h2:=b9 h.adv
 have h3:=iM g.Mark
 have h4:=cI (n:=g.Points.length) (by have:=h.pts.1;omega)
 have h5:=h.name
 unfold Dy
 simp only [Iu,show jo.size=1 from rfl]
 omega
theorem tA.s2:(Dz g).size≤668:=by
 have h1:=cY (n:=16) (m:=86) h.stPoint h.pts.1 h.s1
 have h2:=fV h.ends
 have h3:=cI (n:=g.Parts.length) (by have:=h.parts.1;omega)
 unfold Dz
 simp only [Iu]
 omega
theorem tA.s3:(DB g).size≤1207:=by
 have h1:=cY (n:=16) (m:=668) h.stPart h.parts.1 h.s2
 have h3:=cI (n:=g.Anchors.length) (by have:=h.anchors.1;omega)
 unfold DB
 simp only [Iu]
 omega
theorem tA.s4:(Et g).size≤1922:=by
 have h1:=cY (n:=16) (m:=1207) h.stAnchor h.anchors.1 h.s3
 have h3:=cI (n:=g.Deltas.length) (by have:=h.deltas.1;omega)
 unfold Et
 simp only [Iu]
 omega
theorem tA.size:(o7 g).size≤5233:=by
 have h1:=cY (n:=50) (m:=1922) h.stDelta h.deltas.1 h.s4
 have h3:=jY h.hint
 unfold o7
 simp only [Iu]
 omega
end
def stCall (s:ByteArray) (c:gw):ByteArray:=s++cA c.At++cA c.Lookup
def DU (s:ByteArray) (r:bX):ByteArray:=s++nA r.Back++nA r.In++nA r.Ahead++pg r.Out++ee r.Calls.length
def ix (s:ByteArray) (r:bX):ByteArray:=r.Calls.foldl stCall (DU s r)++cA r.X
def yB (l:bb):ByteArray:=cA l.Kind++tv l.Ignore++ee l.Rules.length
def uz (l:bb):ByteArray:=l.Rules.foldl ix (yB l)
structure pb (r:bX):Prop where
 back:pB r.Back
 ins:pB r.In
 ahead:pB r.Ahead
 out:zN r.Out
 calls:r.Calls.length≤16∧∀c∈r.Calls,NB c.At∧NB c.Lookup
 x:NB r.X
structure CE (l:bb):Prop where
 kind:NB l.Kind
 rules:l.Rules.length≤4∧∀r∈l.Rules,pb r
theorem pb.stCall {r:bX} (h:pb r):∀s,∀c∈r.Calls,(stCall s c).size≤s.size+22:=fun s c hc=>by
 have h1:=b9 (h.calls.2 c hc).1
 have h2:=b9 (h.calls.2 c hc).2
 unfold Go.Proofs.YtjjpkibjffmceaaGreat.stCall
 simp only [Iu]
 omega
theorem pb.s1 {r:bX} (h:pb r) (s:ByteArray):(DU s r).size≤s.size+9207:=by
 have h1:=gV h.back
 have h2:=gV h.ins
 have h3:=gV h.ahead
 have h4:=fV h.out
 have h5:=cI (n:=r.Calls.length) (by have:=h.calls.1;omega)
 unfold DU
 simp only [Iu]
 omega
theorem pb.size {r:bX} (h:pb r) (s:ByteArray):(ix s r).size≤s.size+9570:=by
 have h1:=cY (n:=16) (m:=s.size+9207) h.stCall h.calls.1 (h.s1 s)
 have h2:=b9 h.x
 unfold ix
 simp only [Iu]
 omega
theorem CE.s1 {l:bb} (h:CE l):(yB l).size≤24:=by
 have h1:=b9 h.kind
 have h2:=iM l.Ignore
 have h3:=cI (n:=l.Rules.length) (by have:=h.rules.1;omega)
 unfold yB
 simp only [Iu]
 omega
theorem CE.size {l:bb} (h:CE l):(uz l).size≤38304:=cY (n:=4) (m:=24) (fun s r hr=>(h.rules.2 r hr).size s) h.rules.1 h.s1
def stGlyph (s:ByteArray) (g:br):ByteArray:=s++o7 g
def stChar (s:ByteArray) (c:eN):ByteArray:=s++cA c.Rune++cA c.Glyph
def stLook (s:ByteArray) (l:bb):ByteArray:=s++uz l
def stFeat (s:ByteArray) (t:bL):ByteArray:=s++ee t.Name.size++t.Name++jo++pg t.Lookups
def stAxis (s:ByteArray) (a:eM):ByteArray:=s++ee a.Name.size++a.Name++jo++cA a.Min++cA a.Def++cA a.Max
def stTent (s:ByteArray) (t:eu):ByteArray:=s++cA t.Start++cA t.Peak++cA t.End
def stReg (s:ByteArray) (r:List eu):ByteArray:=r.foldl stTent (s++ee r.length)
def stFunc (s:ByteArray) (c:List eL):ByteArray:=s++rE c
def Dr (f:aL):ByteArray:=cA f.Unit++ee f.Glyphs.length
def Ds (f:aL):ByteArray:=f.Glyphs.foldl stGlyph (Dr f)++ee f.Chars.length
def Dt (f:aL):ByteArray:=f.Chars.foldl stChar (Ds f)++ee f.Lookups.length
def Du (f:aL):ByteArray:=f.Lookups.foldl stLook (Dt f)++ee f.Features.length
def Dv (f:aL):ByteArray:=f.Features.foldl stFeat (Du f)++ee f.Axes.length
def yl (f:aL):ByteArray:=f.Axes.foldl stAxis (Dv f)++ee f.Regions.length
def Es (f:aL):ByteArray:=f.Regions.foldl stReg (yl f)++ee f.Funcs.length
def x4 (f:aL):ByteArray:=f.Funcs.foldl stFunc (Es f)++pg f.Cvt
structure lW (f:aL):Prop where
 unit:NB f.Unit
 glyphs:f.Glyphs.length≤16∧∀g∈f.Glyphs,tA g
 chars:f.Chars.length≤32∧∀c∈f.Chars,NB c.Rune∧NB c.Glyph
 looks:f.Lookups.length≤8∧∀l∈f.Lookups,CE l
 feats:f.Features.length≤16∧∀t∈f.Features,t.Name.size≤50∧zN t.Lookups
 axes:f.Axes.length≤16∧∀a∈f.Axes,a.Name.size≤50∧NB a.Min∧NB a.Def∧NB a.Max
 regs:f.Regions.length≤16∧∀r∈f.Regions,r.length≤16∧∀t∈r,NB t.Start∧NB t.Peak∧NB t.End
 funcs:f.Funcs.length≤16∧∀c∈f.Funcs,FR c
 cvt:zN f.Cvt
section
variable {f:aL} (h:lW f)
include h
theorem lW.stGlyph:∀s,∀g∈f.Glyphs,(stGlyph s g).size≤s.size+5233:=fun s g hg=>by
 have h1:=(h.glyphs.2 g hg).size
 unfold Go.Proofs.YtjjpkibjffmceaaGreat.stGlyph
 rw [Iu]
 omega
theorem lW.stChar:∀s,∀c∈f.Chars,(stChar s c).size≤s.size+22:=fun s c hc=>by
 have h1:=b9 (h.chars.2 c hc).1
 have h2:=b9 (h.chars.2 c hc).2
 unfold Go.Proofs.YtjjpkibjffmceaaGreat.stChar
 simp only [Iu]
 omega
theorem lW.stLook:∀s,∀l∈f.Lookups,(stLook s l).size≤s.size+38304:=fun s l hl=>by
 have h1:=(h.looks.2 l hl).size
 unfold Go.Proofs.YtjjpkibjffmceaaGreat.stLook
 rw [Iu]
 omega
theorem lW.stFeat:∀s,∀t∈f.Features,(stFeat s t).size≤s.size+249:=fun s t ht=>by
 have h0:=(h.feats.2 t ht).1
 have h1:=cI (n:=t.Name.size) (by omega)
 have h2:=fV (h.feats.2 t ht).2
 unfold Go.Proofs.YtjjpkibjffmceaaGreat.stFeat
 simp only [Iu,show jo.size=1 from rfl]
 omega
theorem lW.stAxis:∀s,∀t∈f.Axes,(stAxis s t).size≤s.size+95:=fun s t ht=>by
 obtain ⟨h0,k1,k2,k3⟩:=h.axes.2 t ht
 have h1:=cI (n:=t.Name.size) (by omega)
 have k1:=b9 k1
 have k2:=b9 k2
 have k3:=b9 k3
 unfold Go.Proofs.YtjjpkibjffmceaaGreat.stAxis
 simp only [Iu,show jo.size=1 from rfl]
 omega
theorem lW.stTent {r:List eu} (hr:r∈f.Regions):∀s,∀t∈r,(stTent s t).size≤s.size+33:=fun s t ht=>by
 obtain ⟨k1,k2,k3⟩:=(h.regs.2 r hr).2 t ht
 have k1:=b9 k1
 have k2:=b9 k2
 have k3:=b9 k3
 unfold Go.Proofs.YtjjpkibjffmceaaGreat.stTent
 simp only [Iu]
 omega
theorem lW.stReg:∀s,∀r∈f.Regions,(stReg s r).size≤s.size+539:=fun s r hr=>by
 have h0:=(h.regs.2 r hr).1
 have h1:=cI (n:=r.length) (by omega)
 have h2:=cY (n:=16) (m:=s.size+11) (h.stTent hr) h0 (s:=s++ee r.length) (by rw [Iu];omega)
 unfold Go.Proofs.YtjjpkibjffmceaaGreat.stReg
 omega
theorem lW.stFunc:∀s,∀c∈f.Funcs,(stFunc s c).size≤s.size+1111:=fun s c hc=>by
 have h1:=jY (h.funcs.2 c hc)
 unfold Go.Proofs.YtjjpkibjffmceaaGreat.stFunc
 rw [Iu]
 omega
theorem lW.s1:(Dr f).size≤22:=by
 have h1:=b9 h.unit
 have h2:=cI (n:=f.Glyphs.length) (by have:=h.glyphs.1;omega)
 unfold Dr
 rw [Iu]
 omega
theorem lW.s2:(Ds f).size≤83761:=by
 have h1:=cY (n:=16) (m:=22) h.stGlyph h.glyphs.1 h.s1
 have h2:=cI (n:=f.Chars.length) (by have:=h.chars.1;omega)
 unfold Ds
 rw [Iu]
 omega
theorem lW.s3:(Dt f).size≤84476:=by
 have h1:=cY (n:=32) (m:=83761) h.stChar h.chars.1 h.s2
 have h2:=cI (n:=f.Lookups.length) (by have:=h.looks.1;omega)
 unfold Dt
 rw [Iu]
 omega
theorem lW.s4:(Du f).size≤390919:=by
 have h1:=cY (n:=8) (m:=84476) h.stLook h.looks.1 h.s3
 have h2:=cI (n:=f.Features.length) (by have:=h.feats.1;omega)
 unfold Du
 rw [Iu]
 omega
theorem lW.s5:(Dv f).size≤394914:=by
 have h1:=cY (n:=16) (m:=390919) h.stFeat h.feats.1 h.s4
 have h2:=cI (n:=f.Axes.length) (by have:=h.axes.1;omega)
 unfold Dv
 rw [Iu]
 omega
theorem lW.s6:(yl f).size≤396445:=by
 have h1:=cY (n:=16) (m:=394914) h.stAxis h.axes.1 h.s5
 have h2:=cI (n:=f.Regions.length) (by have:=h.regs.1;omega)
 unfold yl
 rw [Iu]
 omega
theorem lW.s7:(Es f).size≤405080:=by
 have h1:=cY (n:=16) (m:=396445) h.stReg h.regs.1 h.s6
 have h2:=cI (n:=f.Funcs.length) (by have:=h.funcs.1;omega)
 unfold Es
 rw [Iu]
 omega
end
end Go.Proofs.YtjjpkibjffmceaaGreat
