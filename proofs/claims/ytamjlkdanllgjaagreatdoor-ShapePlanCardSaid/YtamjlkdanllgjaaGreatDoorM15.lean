/-
  Which lookups are done, and for which forms.
-/
import Derived.Test.YtamjlkdanllgjaaGreatDoorM14
import Derived.Test.YtamjlkdanllgjaaGreatDoorM13
import Derived.Test.YtamjlkdanllgjaaGreatDoorM11
namespace Go.Proofs.YtamjlkdanllgjaaGreatDoor
open Go.RowKit
attribute [local irreducible] AT bF AX AO Av Kt b8 d9 DA cu
set_option maxRecDepth 8000
abbrev J7:ByteArray:=⟨#[105,115,111,108]⟩
abbrev J6:ByteArray:=⟨#[105,110,105,116]⟩
abbrev J8:ByteArray:=⟨#[109,101,100,105]⟩
abbrev J5:ByteArray:=⟨#[102,105,110,97]⟩
def cT (s:ByteArray):Int:=if s=J7 then 1 else if s=J6 then 2 else if s=J8 then 3 else if s=J5 then 4 else 0
theorem rt (s:ByteArray):0≤cT s∧cT s≤4:=by unfold cT;split;decide;split;decide;split;decide;split <;> decide
theorem K0 (s:ByteArray):bH Tryz.prog 27 [oh s] (aG (cT s)):=by
 refine aQ Tryz.func27 rfl Tryz.ntmps27 rfl fun B=>?_
 refine W03 ?_
 refine aw rfl (fun h1=>?_) (fun h1=>?_)
 ·refine W01 ?_
  exact OK KN (by rw [cT,if_pos (Oy h1)])
 refine W01 ?_
 refine aw rfl (fun h2=>?_) (fun h2=>?_)
 ·refine W01 ?_
  exact OK KN (by rw [cT,if_neg (Ox h1),if_pos (Oy h2)])
 refine W01 ?_
 refine aw rfl (fun h3=>?_) (fun h3=>?_)
 ·refine W01 ?_
  exact OK KN (by rw [cT,if_neg (Ox h1),if_neg (Ox h2),if_pos (Oy h3)])
 refine W01 ?_
 refine aw rfl (fun h4=>?_) (fun h4=>?_)
 ·refine W01 ?_
  exact OK KN (by rw [cT,if_neg (Ox h1),if_neg (Ox h2),if_neg (Ox h3),if_pos (Oy h4)])
 refine W01 ?_
 exact OK KN (by rw [cT,if_neg (Ox h1),if_neg (Ox h2),if_neg (Ox h3),if_neg (Ox h4)])
instance (s:ByteArray):AD Tryz.prog 27 [oh s] (aG (cT s)):=⟨K0 s⟩
def eK (bs:List Bool) (n:Nat):List Int:=((List.range n).filter fun k=>bs.getD k false && !bs.getD 0 false).map fun (k:Nat)=>(k:Int)
theorem yA (bs:List Bool) (n:Nat):eK bs (n+1)=eK bs n++(if bs.getD n false=true∧bs.getD 0 false=false then [(n:Int)] else []):=by
 unfold eK
 rw [List.range_succ,List.filter_append,List.map_append]
 congr 1
 by_cases h:bs.getD n false=true∧bs.getD 0 false=false
 ·rw [if_pos h,List.filter_cons,if_pos (by simp only [h.1,h.2];rfl)];rfl
 ·rw [if_neg h,List.filter_cons,if_neg (by intro hc;simp at hc;exact h (by simpa using hc))];rfl
theorem Cl (bs:List Bool) (n:Nat):(eK bs n).length≤n:=by
 unfold eK
 rw [Ou]
 exact Nat.le_trans (List.length_filter_le ..) (by simp)
theorem Kw (b0 b1 b2 b3 b4:Bool):bH Tryz.prog 29 [.agg [cU b0,cU b1,cU b2,cU b3,cU b4]] (.imm 1 (aL (eK [b0,b1,b2,b3,b4] 5))):=by
 refine aQ Tryz.func29 rfl Tryz.ntmps29 rfl fun B=>?_
 refine W0C ?_
 refine bM (bq (t:=3) rfl fun σ v h=>cM 1 h) ?_
 refine aJ [1,6] (α:=Nat×Option (Nat×Nat)) (fun s=>[(3,.vec s.2 1 (aL (eK [b0,b1,b2,b3,b4] s.1))),(7,aG s.1)]) (fun s=>s.1≤5) (fun s=>tok s.2 3 1 (eK [b0,b1,b2,b3,b4] s.1).length) (fun s=>5 - s.1) (0,none) rfl ⟨rfl,rfl,trivial⟩ (Nat.zero_le _) (fun _ _ h=>h) ?_
 rintro ⟨i,k⟩ hi
 dsimp only at hi ⊢
 have hln:=Cl [b0,b1,b2,b3,b4] i
 have hin:=aP (eK [b0,b1,b2,b3,b4] i)
 try dsimp only [Oq,Oo,Om,Oh]
 refine W01 ?_
 refine aw rfl (fun h=>?_) (fun h=>?_)
 ·have hi5:i < 5:=by have:=Oy h;omega
  obtain ⟨u,hu⟩:∃u,([b0,b1,b2,b3,b4]:List Bool)[i]?=some u:=⟨_,Oz hi5⟩
  have hug:([cU b0,cU b1,cU b2,cU b3,cU b4]:List AV)[i]?=some (cU u):=by
   have:([cU b0,cU b1,cU b2,cU b3,cU b4]:List AV)=([b0,b1,b2,b3,b4]:List Bool).map fun b=>cU b:=rfl
   rw [this,List.getElem?_map,hu]
   rfl
  have hsu:=yA [b0,b1,b2,b3,b4] i
  rw [List.getD_eq_getElem?_getD,hu] at hsu
  clear h
  refine W03 ?_
  refine Kg a7 i rfl rfl rfl rfl rfl hi5 hug rfl ?_
  cases u with
  | false=>
   rw [if_neg (by simp),List.append_nil] at hsu
   refine W0Y ?_
   exact aD (i+1,k) rfl ⟨by rw [hsu];rfl,by rw [Ov];rfl,trivial⟩ (by dsimp only;omega) (by dsimp only;omega) (fun _ _ h=>by rw [hsu];exact h)
  | true=>
   refine W0y ?_
   refine IV a7 0 ?_
   refine W0y ?_
   cases b0 with
   | true=>
    rw [if_neg (by simp),List.append_nil] at hsu
    refine W0L ?_
    exact aD (i+1,k) rfl ⟨by rw [hsu];rfl,by rw [Ov];rfl,trivial⟩ (by dsimp only;omega) (by dsimp only;omega) (fun _ _ h=>by rw [hsu];exact h)
   | false=>
    rw [if_pos (by simp)] at hsu
    have hia:=ny (eK [false,b1,b2,b3,b4] i) [(i:Int)]
    rw [←hsu] at hia
    refine W0X ?_
    refine bA a7 [] rfl rfl rfl rfl (by rw [hin,List.append_nil]) (by rw [hin];simp;omega) (by rw [hin];simp;omega) rfl fun k'=>?_
    rw [show aL (eK [false,b1,b2,b3,b4] i)++[[AV.sc (.int .i64 (i:Int))]]=aL (eK [false,b1,b2,b3,b4] (i+1)) from hia,aP,List.append_nil]
    refine W02 ?_
    exact aD (i+1,k') rfl ⟨rfl,by rw [Ov];rfl,trivial⟩ (by dsimp only;omega) (by dsimp only;omega) (fun _ _ h=>h)
 ·have hi5:i=5:=by have:=Ox h;omega
  subst hi5
  refine W01 ?_
  refine du (List.nil_sublist _) ?_
  refine b7 (bq (t:=2) rfl fun σ v h=>h.im) ?_
  exact OL NZ
set_option maxRecDepth 8000
theorem tu {want:List ByteArray} {i:Nat} {z:ByteArray} (h:want[i]?=some z) (s:ByteArray):gq (want.take (i+1)) s=(gq (want.take i) s || decide (z=s)):=by
 unfold gq
 rw [List.take_add_one,h,List.any_append]
 simp
def q9 (want:List ByteArray):Value→Option AV
 | .string s=>if gq want s then some (cU true) else none
 | _=>none
theorem Gx (want:List ByteArray) (s:ByteArray):(q9 want (.string s)).getD (.sc (.bool false))=cU (gq want s):=by
 show ((if gq want s then some (cU true) else none:Option AV)).getD (.sc (.bool false))=_
 cases gq want s <;> rfl
def ni (want:List ByteArray) (t:bz):List (Int×Int):=if gq want t.Name then t.Lookups.map fun l=>(cT t.Name,l) else []
def bP (want:List ByteArray) (fs:List bz):List (Int×Int):=(fs.map (ni want)).flatten
def iR (ps:List (Int×Int)) (l:Int):Bool:=ps.any fun p=>decide (p.2=l)
def dR (ps:List (Int×Int)) (k l:Int):Bool:=ps.any fun p=>decide (p=(k,l))
def jR (ps:List (Int×Int)) (l:Int):List Bool:=[dR ps 0 l,dR ps 1 l,dR ps 2 l,dR ps 3 l,dR ps 4 l]
def jQ (ps:List (Int×Int)) (l:Int):List AV:=[cU (dR ps 0 l),cU (dR ps 1 l),cU (dR ps 2 l),cU (dR ps 3 l),cU (dR ps 4 l)]
def sM (ps:List (Int×Int)):Value→Option AV
 | .int .i64 l=>if iR ps l then some (.agg (jQ ps l)) else none
 | _=>none
def CT:List (Int×Int)→List Int
 | []=>[]
 | p::r=>if iR r p.2 then CT r else CT r++[p.2]
def ng (ps:List (Int×Int)):List Int:=CT ps.reverse
theorem vZ (ps:List (Int×Int)) (l:Int):iR ps.reverse l=iR ps l:=by unfold iR;rw [List.any_reverse]
theorem E1 (ps:List (Int×Int)) (p:Int×Int):ng (ps++[p])=if iR ps p.2 then ng ps else ng ps++[p.2]:=by
 unfold ng
 rw [List.reverse_append,List.reverse_singleton,List.singleton_append,CT,vZ]
theorem zA:∀ps:List (Int×Int),(CT ps).length≤ps.length
 | []=>Nat.le_refl _
 | p::r=>by
  have:=zA r
  unfold CT
  split
  ·simp;omega
  ·simp;omega
theorem qn (ps:List (Int×Int)):(ng ps).length≤ps.length:=by have:=zA ps.reverse;rwa [List.length_reverse] at this
theorem wi {ps:List (Int×Int)} {l:Int} (h:iR ps l=false) (k:Int):dR ps k l=false:=by
 unfold iR at h
 unfold dR
 rw [List.any_eq_false] at h ⊢
 intro p hp he
 have:=Oy he
 subst this
 exact h _ hp (by simp)
theorem yD {ps:List (Int×Int)} {l:Int} (h:iR ps l=false):jQ ps l=[cU false,cU false,cU false,cU false,cU false]:=by
 unfold jQ
 simp only [wi h]
theorem pM (ps:List (Int×Int)) (p:Int×Int) (k l:Int):dR (ps++[p]) k l=(dR ps k l || decide (p=(k,l))):=by
 unfold dR
 rw [List.any_append]
 simp
theorem yE (ps:List (Int×Int)) (m:Nat) (hm:m≤4) (l:Int):(jQ ps l).set m (cU true)=jQ (ps++[((m:Int),l)]) l:=by
 have:m=0∨m=1∨m=2∨m=3∨m=4:=by omega
 unfold jQ
 simp only [pM]
 rcases this with rfl | rfl | rfl | rfl | rfl <;> simp
theorem wO (ps:List (Int×Int)) {m:Int} {l l':Int} (h:l'≠l):jQ (ps++[(m,l)]) l'=jQ ps l':=by
 unfold jQ
 simp only [pM]
 have:∀k:Int,decide ((m,l)=(k,l'))=false:=fun k=>decide_eq_false fun e=>h (by injection e with _ e;exact e.symm)
 simp only [this,Bool.or_false]
theorem tr (ps:List (Int×Int)) (p:Int×Int) (l:Int):iR (ps++[p]) l=(iR ps l || decide (p.2=l)):=by
 unfold iR
 rw [List.any_append]
 simp
theorem F0 (ps:List (Int×Int)) (m l:Int):sM (ps++[(m,l)]) (.int .i64 l)=some (.agg (jQ (ps++[(m,l)]) l)):=by
 show (if iR (ps++[(m,l)]) l=true then some (AV.agg (jQ (ps++[(m,l)]) l)) else none)=_
 rw [tr]
 simp
theorem C7 (ps:List (Int×Int)) (m l:Int) (q:Value) (h:q≠ .int .i64 l):sM (ps++[(m,l)]) q=sM ps q:=by
 unfold sM
 split
 ·rename_i l'
  have hne:l'≠l:=fun e=>h (by rw [e])
  rw [tr,decide_eq_false (show ¬(m,l).2=l' from fun e=>hne e.symm),Bool.or_false,wO ps hne]
 ·rfl
theorem EZ (ps:List (Int×Int)) (l:Int):(sM ps (.int .i64 l)).getD (.agg [cU false,cU false,cU false,cU false,cU false])= .agg (jQ ps l)∧(sM ps (.int .i64 l)).isSome=iR ps l:=by
 unfold sM
 cases h:iR ps l with
 | true=>simp [h]
 | false=>simp [h,yD h]
def z8 (q:Option (Nat×Nat×List AV)) (ls:List Int):Prop:=match q with
 | none=>ls=[]
 | some (_,cap,js)=>ls.length+js.length=cap∧cap≤maxLen
def ut (q:Option (Nat×Nat×List AV)) (ls:List Int):AV:=match q with
 | none=> .sc (.slice none 0 0)
 | some (b,cap,_)=> .sc (.slice (some ⟨b,0,none⟩) ls.length cap)
def Hz (q:Option (Nat×Nat×List AV)) (ls:List Int):AL:=match q with
 | none=>[]
 | some (b,_,js)=>[(b,.box (ls.map aG++js) 3)]
def cx (want:List ByteArray) (f:aY):List Int:=f8 (ng (bP want f.Features))
def fw (want:List ByteArray) (f:aY):List (List Int):=(cx want f).map fun l=>eK (jR (bP want f.Features) l) 5
abbrev IA:TypeDesc:= .string
theorem x2 (σ:cm):VR σ (.agg [cU false,cU false,cU false,cU false,cU false]) (.agg #[.bool false,.bool false,.bool false,.bool false,.bool false]):=
 .agg _ [.bool false,.bool false,.bool false,.bool false,.bool false] rfl (d4.cons (.sc _) (d4.cons (.sc _) (d4.cons (.sc _) (d4.cons (.sc _) (d4.cons (.sc _) d4.nil))))).2 (by intro u hu;simp at hu;rw [hu];rfl)
set_option maxHeartbeats 16000000 in
theorem wF (f:aY) (want:List ByteArray) (hF:f.Features.length≤1000000) (hp:(bP want f.Features).length≤1000000):bH Tryz.prog 10 [cR f,.imm 1 (fK want)] (.tup [.imm 1 (aL (cx want f)),.imm 1 (aZ (fw want f))]):=by
 refine aQ Tryz.func10 rfl Tryz.ntmps10 rfl fun B=>?_
 refine cV 1 rfl rfl fun hlen=>?_
 have hsl:=gz want
 rw [hsl] at hlen
 refine W07 ?_
 refine eo IA fun ab=>?_
 refine W03 ?_
 refine aJ [2,4,5,6,20,21] (α:=Nat) (fun i=>[(22,aG i)]) (fun i=>i≤want.length) (fun i=>[(ab,ci IA (q9 (want.take i)))]) (fun i=>want.length - i) 0 rfl ⟨rfl,trivial⟩ (Nat.zero_le _) (fun σ w h=>?_) fun i hi=>?_
 ·rw [show q9 (want.take 0)=fun _=>none from funext fun v=>by cases v <;> rfl]
  exact h
 try dsimp only [Oq,Oo,Om,Oh]
 refine W01 ?_
 refine aw rfl (fun h=>?_) (fun h=>?_)
 ·have hil:i < want.length:=by have:=Oy h;omega
  obtain ⟨z,hz⟩:∃z,want[i]?=some z:=⟨_,Oz hil⟩
  have hzg:=o4 hz
  clear h
  refine W08 ?_
  refine dA 0 (q9 (want.take (i+1))) Tryz.underlying86 Tryz.underlying9 rfl rfl trivial rfl rfl ?_ (fun q hq=>?_) ?_
  ·show (if gq (want.take (i+1)) z then some (cU true) else none)=_
   rw [tu hz]
   simp
  ·unfold q9
   split
   ·rename_i s
    rw [tu hz,decide_eq_false (show ¬z=s from fun e=>hq (by rw [e])),Bool.or_false]
   ·rfl
  refine W02 ?_
  exact aD (i+1) rfl ⟨by rw [Ov];rfl,trivial⟩ hil (by omega) (fun _ _ h=>h)
 have hil:i=want.length:=by have:=Ox h;omega
 subst hil
 rw [List.take_length]
 clear h
 repeat' (first|refine O1 ?_|fail)
 refine eo (.int .i64) fun nb=>?_
 refine W03 ?_
 have hfl:(f.Features.map bI).length=f.Features.length:=Ou ..
 have hpre:∀i,(bP want (f.Features.take i)).length≤1000000:=fun i=>by
  have:bP want f.Features=bP want (f.Features.take i)++bP want (f.Features.drop i):=by
   unfold bP
   rw [←List.flatten_append,←List.map_append,List.take_append_drop]
  rw [this,List.length_append] at hp
  omega
 refine aJ [5,6,9,31,32] (α:=Nat×Option (Nat×Nat×List AV)) (fun s=>[(4,ut s.2 (ng (bP want (f.Features.take s.1)))),(33,aG s.1)]) (fun s=>s.1≤f.Features.length∧z8 s.2 (ng (bP want (f.Features.take s.1)))) (fun s=>[(nb,ci (.int .i64) (sM (bP want (f.Features.take s.1)))),(ab,ci IA (q9 want))]++Hz s.2 (ng (bP want (f.Features.take s.1)))) (fun s=>f.Features.length - s.1) (0,none) rfl ⟨rfl,rfl,trivial⟩ ⟨Nat.zero_le _,rfl⟩ (fun σ w h=>?_) ?_
 ·show dg B σ ([(nb,ci (.int .i64) (sM [])),(ab,ci IA (q9 want))]++[]) w
  rw [show sM []=fun _=>none from funext fun v=>by
   unfold sM
   split <;> rfl]
  exact h
 rintro ⟨i,q⟩ ⟨hi,hq⟩
 dsimp only at hi hq ⊢
 try dsimp only [Oq,Oo,Om,Oh]
 refine W01 ?_
 refine aw rfl (fun h=>?_) (fun h=>?_)
 ·have hil:i < f.Features.length:=by have:=Oy h;omega
  obtain ⟨t,ht⟩:∃z,f.Features[i]?=some z:=⟨_,Oz hil⟩
  have htg:=c7 (c:=bI) ht
  have hsucc:bP want (f.Features.take (i+1))=bP want (f.Features.take i)++ni want t:=by
   unfold bP
   rw [List.take_add_one,ht,List.map_append,List.flatten_append]
   simp
  clear h
  have hps:=hpre (i+1)
  rw [hsucc,List.length_append] at hps
  generalize bP want (f.Features.take i)=ps at *
  repeat' (first|refine O1 ?_|refine ak ?_|refine OE a7 KN ?_|(apply aV;first|refine aU a7 ?_|refine aN a7 ?_)|(apply aO;first|refine OG 11 a7 0 OD ?_|refine OG 11 a7 1 OD ?_|refine OG 11 a7 2 OD ?_|refine OF a7 0 OC ?_|refine OF a7 1 OC ?_|refine OF a7 2 OC ?_|refine OF a7 3 OC ?_|fail)|refine bi a7 fun _=>?_|fail)
  refine lu 1 (.bool false) Tryz.underlying86 Tryz.underlying9 rfl rfl trivial rfl (by kernel_rfl) rfl ?_
  rw [show (q9 want (.string t.Name)).getD (.sc (.bool false))=cU (gq want t.Name) from Gx want t.Name]
  refine W01 ?_
  cases hw:gq want t.Name with
  | false=>
   have hft:ni want t=[]:=by unfold ni;rw [hw];rfl
   rw [hft,List.append_nil] at hsucc
   repeat' (first|refine O1 ?_|refine OE a7 KN ?_|(apply aS;refine aR ?_)|refine bT rfl ?_)
   exact aD (i+1,q) rfl ⟨by rw [hsucc];rfl,by rw [Ov];rfl,trivial⟩ ⟨hil,by dsimp only;rw [hsucc];exact hq⟩ (by dsimp only;omega) (fun _ _ h=>by rw [hsucc];exact h)
  | true=>
   have hft:ni want t=t.Lookups.map fun l=>(cT t.Name,l):=by unfold ni;rw [hw];rfl
   rw [hft] at hsucc hps
   rw [Ou] at hps
   have htl:=aP t.Lookups
   repeat' (first|refine O1 ?_|refine ak ?_|refine OE a7 KN ?_|(apply bg;refine b9 ?_)|refine bj rfl ?_)
   refine aJ [5,6,9,12,31,32,33,46,47] (α:=Nat×Option (Nat×Nat×List AV)) (fun s=>[(4,ut s.2 (ng (ps++(t.Lookups.take s.1).map fun l=>(cT t.Name,l)))),(48,aG s.1)]) (fun s=>s.1≤t.Lookups.length∧z8 s.2 (ng (ps++(t.Lookups.take s.1).map fun l=>(cT t.Name,l)))) (fun s=>[(nb,ci (.int .i64) (sM (ps++(t.Lookups.take s.1).map fun l=>(cT t.Name,l)))),(ab,ci IA (q9 want))]++Hz s.2 (ng (ps++(t.Lookups.take s.1).map fun l=>(cT t.Name,l)))) (fun s=>t.Lookups.length - s.1) (0,q) rfl ⟨?_,rfl,trivial⟩ ⟨Nat.zero_le _,?_⟩ (fun σ w h=>?_) ?_
   ·show some (ut q (ng ps))=some (ut q (ng (ps++[])));rw [List.append_nil]
   ·show z8 q (ng (ps++[]));rw [List.append_nil];exact hq
   ·show dg B σ ([(nb,ci (.int .i64) (sM (ps++[]))),(ab,ci IA (q9 want))]++Hz q (ng (ps++[]))) w
    rw [List.append_nil]
    exact h
   clear hq
   rintro ⟨j,q⟩ ⟨hj,hq⟩
   dsimp only at hj hq ⊢
   try dsimp only [Oq,Oo,Om,Oh]
   refine W01 ?_
   refine aw rfl (fun h=>?_) (fun h=>?_)
   ·have hjl:j < t.Lookups.length:=by have:=Oy h;omega
    obtain ⟨z,hz⟩:∃z,t.Lookups[j]?=some z:=⟨_,Oz hjl⟩
    have hzg:=bD hz
    have hs2:(ps++(t.Lookups.take (j+1)).map fun l=>(cT t.Name,l))=(ps++(t.Lookups.take j).map fun l=>(cT t.Name,l))++[(cT t.Name,z)]:=by
     rw [List.take_add_one,hz,List.map_append,←List.append_assoc]
     rfl
    have hpl:(ps++(t.Lookups.take j).map fun l=>(cT t.Name,l)).length < 1000000:=by
     rw [List.length_append,Ou,List.length_take]
     omega
    have hdl:=qn (ps++(t.Lookups.take j).map fun l=>(cT t.Name,l))
    generalize (ps++(t.Lookups.take j).map fun l=>(cT t.Name,l))=pp at *
    clear h
    obtain ⟨e1,e2⟩:=EZ pp z
    refine W08 ?_
    refine cn rfl rfl (qQ 0 (c0:= .agg [cU false,cU false,cU false,cU false,cU false]) Tryz.underlying87 Tryz.underlying3 rfl rfl rfl rfl Tryz.zeroValue89 x2) fun c L' ⟨h1,h2⟩=>?_
    subst h1;subst h2
    rw [e1,e2]
    repeat' (first|refine O1 ?_|refine OE a7 KN ?_|(apply aO;first|refine OG 11 a7 0 OD ?_|refine OG 11 a7 1 OD ?_|refine OG 11 a7 2 OD ?_|refine OF a7 0 OC ?_|refine OF a7 1 OC ?_|refine OF a7 2 OC ?_|refine OF a7 3 OC ?_|fail)|refine bi a7 fun _=>?_|fail)
    rename_i rb
    have hd2:=E1 pp (cT t.Name,z)
    dsimp only at hd2
    refine iu (α:=Option (Nat×Nat×List AV)) [4,5,6,9,12,14,15,31,32,33,46,47,48] (fun q'=>[(4,ut q' (ng (pp++[(cT t.Name,z)]))),(5,.sc (.slice none 0 0)),(6,.sc (.map (some ab))),(9,.sc (.map (some nb))),(12,aG (cT t.Name)),(14,aG z),(15,.sc (.pointer (some ⟨rb,0,none⟩))),(31,.imm 2 (f.Features.map bI)),(32,.sc (.int .i64 ((f.Features.map bI).length:Int))),(33,aG i),(46,.imm 1 (aL t.Lookups)),(47,.sc (.int .i64 ((aL t.Lookups).length:Int))),(48,aG j)]) (fun q'=>(rb,.box (jQ pp z) 89)::([(nb,ci (.int .i64) (sM pp)),(ab,ci IA (q9 want))]++Hz q' (ng (pp++[(cT t.Name,z)])))) (fun q'=>z8 q' (ng (pp++[(cT t.Name,z)]))) (fun Q' K=>?_) (fun q' hq'=>?_)
    ·cases hk:iR pp z with
     | true=>
      rw [hk,if_pos rfl] at hd2
      rw [hd2] at K
      refine W14 ?_
      exact K q _ hq rfl
     | false=>
      rw [hk,if_neg (by simp)] at hd2
      rw [hd2] at K
      generalize ng pp=ls at *
      refine W0X ?_
      cases q with
      | none=>
       cases hq
       unfold ut
       refine yj a7 rfl rfl rfl rfl rfl rfl rfl rfl fun b' cs' cap' c1 c2 c3 c4=>?_
       refine W01 ?_
       obtain ⟨js,rfl⟩:∃js,cs'=[z].map aG++js:=⟨cs'.drop 1,by
        have:=List.take_append_drop 1 cs'
        rw [show cs'.take 1=[aG z] from c2] at this
        exact this.symm⟩
       refine b7 (aW (List.perm_append_comm (l₁:=[_]))) ?_
       exact K (some (b',cap',js)) _ ⟨by simpa [Nat.add_comm] using c1,c4⟩ rfl
      | some x=>
       obtain ⟨b,cap,js⟩:=x
       obtain ⟨q1,q2⟩:=hq
       unfold ut
       refine tI a7 3 rfl rfl rfl rfl rfl rfl rfl (by rw [List.length_append,Ou];omega) (by omega) q2 (by unfold maxLen;omega) (by omega) rfl fun b' cs' cap' c1 c2 c3 c4=>?_
       refine W01 ?_
       obtain ⟨js',rfl⟩:∃js',cs'=(ls++[z]).map aG++js':=⟨cs'.drop (ls.length+1),by
        have:=List.take_append_drop (ls.length+1) cs'
        rw [Nat.mul_one,Nat.mul_one,List.take_left' (by simp)] at c2
        rw [c2] at this
        rw [List.map_append]
        exact this.symm⟩
       refine b7 (aW (List.perm_append_comm (l₁:=[_]))) ?_
       rw [List.length_append,Ou,Nat.mul_one] at c1
       have hl1:(ls++[z]).length=ls.length+1:=by rw [List.length_append];rfl
       exact K (some (b',cap',js')) _ ⟨c1,c4⟩ (by show fL _ _=some ((4,.sc (.slice _ (ls++[z]).length cap'))::_);rw [hl1];rfl)
    refine W01 ?_
    obtain ⟨m,hm⟩:∃m:Nat,cT t.Name=m:=⟨(cT t.Name).toNat,by have:=rt t.Name;omega⟩
    have hm4:m≤4:=by have:=rt t.Name;omega
    refine yk a7 m rfl rfl rfl hm (by omega) rfl ?_
    repeat' (first|fail)
    refine gt a7 0 m rfl rfl (by omega) rfl rfl rfl (by show m < 5;omega) ?_
    rw [yE pp m hm4 z,←hm]
    refine W05 ?_
    refine dA 1 (sM (pp++[(cT t.Name,z)])) Tryz.underlying87 Tryz.underlying3 rfl rfl rfl rfl rfl (F0 pp (cT t.Name) z) (fun q hq=>C7 pp (cT t.Name) z q hq) ?_
    refine W02 ?_
    exact aD (j+1,q') rfl ⟨by dsimp only;rw [hs2];rfl,by rw [Ov];rfl,trivial⟩ ⟨hjl,by dsimp only;rw [hs2];exact hq'⟩ (by dsimp only;omega) (fun _ _ h=>by dsimp only;rw [hs2];exact dg.sublist h (List.sublist_cons_self ..))
   ·have hjl:j=t.Lookups.length:=by have:=Ox h;omega
    subst hjl
    rw [List.take_length] at hq ⊢
    clear h
    refine W02 ?_
    exact aD (i+1,q) rfl ⟨by rw [hsucc];rfl,by rw [Ov];rfl,trivial⟩ ⟨hil,by dsimp only;rw [hsucc];exact hq⟩ (by dsimp only;omega) (fun _ _ h=>by rw [hsucc];exact h)
 have hil:i=f.Features.length:=by have:=Ox h;omega
 subst hil
 rw [List.take_length] at hq ⊢
 clear h hpre
 refine W01 ?_
 have hdl:=qn (bP want f.Features)
 have hsl2:=g7 (ng (bP want f.Features))
 refine Dy [4,5,9] [(4,.imm 1 (aL (cx want f))),(5,.sc (.slice none 0 0)),(9,.sc (.map (some nb)))] [(nb,ci (.int .i64) (sM (bP want f.Features)))] (fun Q1 K=>?_) ?_
 ·unfold cx at K
  generalize ng (bP want f.Features)=ls at *
  cases q with
  | none=>
   cases hq
   unfold ut
   refine bh [] _ (FP none 0 []) rfl rfl (Ok _) rfl fun c L1 hL=>?_
   subst hL
   repeat' (first|refine O1 ?_|fail)
   refine b7 (bq (t:=4) (c':= .imm 1 (aL (f8 []))) rfl fun σ v h=>by rw [show aL (f8 [])=[] by simp [f8,aL]];exact dV 1 h) ?_
   refine du (L':=[(nb,ci (.int .i64) (sM (bP want f.Features)))]) (List.Sublist.cons_cons _ (List.nil_sublist _)) ?_
   exact K _ rfl
  | some x=>
   obtain ⟨b,cap,js⟩:=x
   obtain ⟨q1,q2⟩:=hq
   unfold ut
   refine bh [(b,.box (ls.map aG++js) 3)] [(nb,ci (.int .i64) (sM (bP want f.Features))),(ab,ci IA (q9 want))] (FO b cap ls js (by omega)) rfl rfl (List.perm_append_comm (l₁:=[_,_])) rfl fun c L1 hL=>?_
   subst hL
   repeat' (first|refine O1 ?_|fail)
   refine b7 (dl (t:=4) (sz:=1) (l:=aL (f8 ls)) 0 rfl rfl (by rw [Nat.mul_one,←hsl2,List.take_left' (by rw [Ou]),←rM]) (by rw [List.length_append,Ou];omega) (fun q hq=>by obtain ⟨y,_,rfl⟩:=List.mem_map.1 hq;rfl) (by rw [aP,hsl2]) (by omega) q2) ?_
   refine du (L':=[(nb,ci (.int .i64) (sM (bP want f.Features)))]) (List.Sublist.cons_cons _ (List.nil_sublist _)) ?_
   exact K _ rfl
 have hpl:(cx want f).length≤1000000:=by unfold cx;omega
 have hpi:=aP (cx want f)
 refine W03 ?_
 refine bM (bq (t:=5) rfl fun σ v h=>cM 1 h) ?_
 refine aJ [4,9,73,74] (α:=Nat×Option (Nat×Nat)) (fun s=>[(5,.vec s.2 1 (aZ (((cx want f).take s.1).map fun l=>eK (jR (bP want f.Features) l) 5))),(75,aG s.1)]) (fun s=>s.1≤(cx want f).length) (fun s=>[(nb,ci (.int .i64) (sM (bP want f.Features)))]++tok s.2 22 1 (aZ (((cx want f).take s.1).map fun l=>eK (jR (bP want f.Features) l) 5)).length) (fun s=>(cx want f).length - s.1) (0,none) rfl ⟨rfl,rfl,trivial⟩ (Nat.zero_le _) (fun _ _ h=>h) ?_
 rintro ⟨i,k⟩ hi
 dsimp only at hi ⊢
 try dsimp only [Oq,Oo,Om,Oh]
 refine W01 ?_
 refine aw rfl (fun h=>?_) (fun h=>?_)
 ·have hil:i < (cx want f).length:=by have:=Oy h;omega
  obtain ⟨z,hz⟩:∃z,(cx want f)[i]?=some z:=⟨_,Oz hil⟩
  have hzg:=bD hz
  have hrl:(aZ (((cx want f).take i).map fun l=>eK (jR (bP want f.Features) l) 5)).length=i:=by
   rw [cr,Ou,List.length_take]
   omega
  have hrs:aZ (((cx want f).take (i+1)).map fun l=>eK (jR (bP want f.Features) l) 5)=aZ (((cx want f).take i).map fun l=>eK (jR (bP want f.Features) l) 5)++[[.imm 1 (aL (eK (jR (bP want f.Features) z) 5))]]:=by
   rw [List.take_add_one,hz,List.map_append]
   simp [aZ]
  have hrl2:(aZ (((cx want f).take (i+1)).map fun l=>eK (jR (bP want f.Features) l) 5)).length=i+1:=by
   rw [hrs,List.length_append,hrl]
   rfl
  clear h
  have e1:=(EZ (bP want f.Features) z).1
  refine W08 ?_
  refine cn rfl rfl (jx 0 (c0:= .agg [cU false,cU false,cU false,cU false,cU false]) Tryz.underlying87 Tryz.underlying3 rfl rfl rfl rfl Tryz.zeroValue89 x2) fun c L' ⟨h1,h2⟩=>?_
  subst h1;subst h2
  rw [e1]
  refine b9 (hc:=⟨Kw _ _ _ _ _⟩) ?_
  repeat' (first|refine bO a7 ?_|fail)
  refine bA a7 [(nb,ci (.int .i64) (sM (bP want f.Features)))] rfl rfl rfl rfl (List.perm_append_comm (l₁:=[_])) (by rw [hrl];simp;omega) (by rw [hrl];simp;omega) rfl fun k'=>?_
  rw [show aZ (((cx want f).take i).map fun l=>eK (jR (bP want f.Features) l) 5)++[[.imm 1 (aL (eK [dR (bP want f.Features) 0 z,dR (bP want f.Features) 1 z,dR (bP want f.Features) 2 z,dR (bP want f.Features) 3 z,dR (bP want f.Features) 4 z] 5))]]=aZ (((cx want f).take (i+1)).map fun l=>eK (jR (bP want f.Features) l) 5) from hrs.symm]
  refine aX (aW (List.perm_append_comm (l₂:=[_]))) ?_
  refine W02 ?_
  exact aD (i+1,k') rfl ⟨rfl,by rw [Ov];rfl,trivial⟩ hil (by dsimp only;omega) (fun _ _ h=>h)
 ·have hil:i=(cx want f).length:=by have:=Ox h;omega
  subst hil
  rw [List.take_length]
  clear h
  refine W01 ?_
  refine b7 (bq (t:=5) rfl fun σ v h=>h.im) ?_
  refine du (List.nil_sublist _) ?_
  exact OS OA
set_option maxRecDepth 8000
theorem Er (l:List ByteArray) (s:ByteArray):bH Tryz.prog 30 [.imm 1 (fK l),oh s] (cU (gq l s)):=by
 refine aQ Tryz.func30 rfl Tryz.ntmps30 rfl fun B=>?_
 refine cV 0 rfl rfl fun hlen=>?_
 rw [gz] at hlen
 refine W03 ?_
 refine aJ [0,1] (α:=Nat) (fun i=>[(5,aG i)]) (fun i=>i≤l.length∧s∉l.take i) (fun _=>[]) (fun i=>l.length - i) 0 rfl ⟨rfl,trivial⟩ ⟨Nat.zero_le _,by simp⟩ (fun _ _ h=>h) fun i hi=>?_
 try dsimp only [Oq,Oo,Om,Oh]
 refine W01 ?_
 refine aw rfl (fun h=>?_) (fun h=>?_)
 ·have hil:i < l.length:=by have:=Oy h;rw [gz] at this;omega
  obtain ⟨z,hz⟩:∃z,l[i]?=some z:=⟨_,Oz hil⟩
  have hzg:=o4 hz
  refine W08 ?_
  refine aw rfl (fun h2=>?_) (fun h2=>?_)
  ·have h2':=Oy h2
   refine W01 ?_
   refine OK KN ?_
   subst h2'
   rw [w3.2 (Ow hz)]
  ·have h2':=Ox h2
   refine W02 ?_
   refine aD (i+1) rfl ⟨by rw [Ov];rfl,trivial⟩ ⟨by omega,?_⟩ (by omega) (fun _ _ h=>h)
   rw [List.take_add_one,hz]
   intro hm
   rcases Oj hm with hm | hm
   ·exact hi.2 hm
   ·simp at hm;exact h2' hm.symm
 ·have hil:i=l.length:=by have:=Ox h;rw [gz] at this;omega
  subst hil
  rw [List.take_length] at hi
  refine W01 ?_
  refine OK KN ?_
  rw [Bool.eq_false_iff.2 fun h=>hi.2 (w3.1 h)]
instance (l:List ByteArray) (s:ByteArray):AD Tryz.prog 30 [.imm 1 (fK l),oh s] (cU (gq l s)):=⟨Er l s⟩
theorem BO (l:List Int) (n:Int):bH Tryz.prog 32 [.imm 1 (aL l),.sc (.int .i64 n)] (.sc (.bool (l.contains n))):=by
 refine aQ Tryz.func32 rfl Tryz.ntmps32 rfl fun B=>?_
 refine cV 0 rfl rfl fun hlen=>?_
 rw [aP] at hlen
 refine W03 ?_
 refine aJ [0,1] (α:=Nat) (fun i=>[(5,.sc (.int .i64 i))]) (fun i=>i≤l.length∧(l.take i).contains n=false) (fun _=>[]) (fun i=>l.length - i) 0 rfl ⟨rfl,trivial⟩ ⟨Nat.zero_le _,by simp⟩ (fun _ _ h=>h) fun i hi=>?_
 try dsimp only [Oq,Oo,Om,Oh]
 refine W01 ?_
 refine aw rfl (fun h=>?_) (fun h=>?_)
 ·have hil:i < l.length:=by have:=Oy h;rw [aP] at this;omega
  obtain ⟨z,hz⟩:∃z,l[i]?=some z:=⟨_,Oz hil⟩
  have hzg:=bD hz
  refine W08 ?_
  refine aw rfl (fun h2=>?_) (fun h2=>?_)
  ·have h2':=Oy h2
   refine W01 ?_
   refine OK KN ?_
   subst h2'
   rw [show l.contains z=true by simpa using Ow hz]
  ·have h2':=Ox h2
   refine W02 ?_
   refine aD (i+1) rfl ⟨by rw [Ov];rfl,trivial⟩ ⟨by omega,?_⟩ (by omega) (fun _ _ h=>h)
   rw [List.take_add_one,hz]
   have:=hi.2
   simp_all
   omega
 ·have hil:i=l.length:=by have:=Ox h;rw [aP] at this;omega
  subst hil
  rw [List.take_length] at hi
  refine W01 ?_
  refine OK KN ?_
  rw [hi.2]
instance (l:List Int) (n:Int):AD Tryz.prog 32 [.imm 1 (aL l),.sc (.int .i64 n)] (.sc (.bool (l.contains n))):=⟨BO l n⟩
theorem yL (l k:List Int):bH Tryz.prog 12 [.imm 1 (aL l),.imm 1 (aL k)] (.sc (.bool (l==k))):=by
 refine aQ Tryz.func12 rfl Tryz.ntmps12 rfl fun B=>?_
 refine cV 0 rfl rfl fun hlen=>?_
 rw [aP] at hlen
 refine W01 ?_
 refine aw rfl (fun h=>?_) (fun h=>?_)
 ·have h':=Oy h
  simp only [aP] at h'
  refine W01 ?_
  refine OK KN ?_
  rw [show (l==k)=false by rw [beq_eq_false_iff_ne];intro e;subst e;simp at h']
 ·have h':=Ox h
  simp only [aP] at h'
  have hlk:l.length=k.length:=by omega
  refine W03 ?_
  refine aJ [0,1] (α:=Nat) (fun i=>[(5,.sc (.int .i64 i))]) (fun i=>i≤l.length∧l.take i=k.take i) (fun _=>[]) (fun i=>l.length - i) 0 rfl ⟨rfl,trivial⟩ ⟨Nat.zero_le _,by simp⟩ (fun _ _ h=>h) fun i hi=>?_
  try dsimp only [Oq,Oo,Om,Oh]
  refine W01 ?_
  refine aw rfl (fun h=>?_) (fun h=>?_)
  ·have hil:i < l.length:=by have:=Oy h;rw [aP] at this;omega
   obtain ⟨z,hz⟩:∃z,l[i]?=some z:=⟨_,Oz hil⟩
   obtain ⟨y,hy⟩:∃z,k[i]?=some z:=⟨_,Oz (by omega)⟩
   have hzg:=bD hz
   have hyg:=bD hy
   refine W0z ?_
   refine bk 8 [(0,.v),(1,.v),(2,.v),(3,.v),(4,.v),(5,.v),(6,.v),(7,.v)] none ?_ trivial rfl (by kernel_rfl) (by kernel_rfl) (by kernel_rfl) mixed (by kernel_rfl) rfl
   refine W0l ?_
   refine OO [0,1,5,20,24] KN ?_
   refine W0p ?_
   refine aw rfl (fun h2=>?_) (fun h2=>?_)
   ·have h2':=Oy h2
    refine W01 ?_
    refine OK KN ?_
    rw [show (l==k)=false by rw [beq_eq_false_iff_ne];intro e;subst e;rw [hz] at hy;injection hy with hy;exact h2' hy]
   ·have h2':=Ox h2
    refine W02 ?_
    refine aD (i+1) rfl ⟨by rw [Ov];rfl,trivial⟩ ⟨by omega,?_⟩ (by omega) (fun _ _ h=>h)
    rw [List.take_add_one,List.take_add_one,hz,hy,hi.2,Decidable.not_not.1 h2']
  ·have hil:i=l.length:=by have:=Ox h;rw [aP] at this;omega
   subst hil
   rw [List.take_length,hlk,List.take_length] at hi
   refine W01 ?_
   refine OK KN ?_
   rw [hi.2,beq_self_eq_true]
instance (l k:List Int):AD Tryz.prog 12 [.imm 1 (aL l),.imm 1 (aL k)] (.sc (.bool (l==k))):=⟨yL l k⟩
theorem xS (s:ByteArray):bH Tryz.prog 33 [oh s] (aG (cT s)):=by
 refine aQ Tryz.func33 rfl Tryz.ntmps33 rfl fun B=>?_
 refine W03 ?_
 refine aw rfl (fun h1=>?_) (fun h1=>?_)
 ·refine W01 ?_
  exact OK KN (by rw [cT,if_pos (Oy h1)])
 refine W01 ?_
 refine aw rfl (fun h2=>?_) (fun h2=>?_)
 ·refine W01 ?_
  exact OK KN (by rw [cT,if_neg (Ox h1),if_pos (Oy h2)])
 refine W01 ?_
 refine aw rfl (fun h3=>?_) (fun h3=>?_)
 ·refine W01 ?_
  exact OK KN (by rw [cT,if_neg (Ox h1),if_neg (Ox h2),if_pos (Oy h3)])
 refine W01 ?_
 refine aw rfl (fun h4=>?_) (fun h4=>?_)
 ·refine W01 ?_
  exact OK KN (by rw [cT,if_neg (Ox h1),if_neg (Ox h2),if_neg (Ox h3),if_pos (Oy h4)])
 refine W01 ?_
 exact OK KN (by rw [cT,if_neg (Ox h1),if_neg (Ox h2),if_neg (Ox h3),if_neg (Ox h4)])
instance (s:ByteArray):AD Tryz.prog 33 [oh s] (aG (cT s)):=⟨xS s⟩
theorem BC (l:List Int):bH Tryz.prog 16 [.imm 1 (aL l)] (.imm 1 (aL (l.take 30))):=by
 refine aQ Tryz.func16 rfl Tryz.ntmps16 rfl fun B=>?_
 refine cV 0 rfl rfl fun hl=>?_
 have hil:=aP l
 repeat' (first|refine O1 ?_|refine OE a7 KN ?_|refine jb (d:=3) a7 fun _=>?_|fail)
 refine A6 a7 (min l.length 30) rfl rfl rfl rfl rfl (by omega) (by omega) rfl ?_
 have ht:l.take (min l.length 30)=l.take 30:=by
  rcases Nat.le_total l.length 30 with h | h
  ·rw [Nat.min_eq_left h,List.take_length,List.take_of_length_le h]
  ·rw [Nat.min_eq_right h]
 rw [show (aL l).take (min l.length 30)=aL (l.take 30) from by rw [←ht];unfold aL;rw [List.map_take]]
 have htl:(aL (l.take 30)).length≤30:=by rw [aP,List.length_take];omega
 repeat' (first|fail)
 refine bA a7 [] rfl rfl rfl rfl (Ok _) (by simp only [List.length_nil];omega) (by simp only [List.length_nil];omega) rfl fun k'=>?_
 refine W01 ?_
 refine b7 (bq (t:=2) (c':= .imm 1 (aL (l.take 30))) rfl fun σ v h=>h.im) ?_
 refine du (List.nil_sublist _) ?_
 exact OL NZ
instance (l:List Int):AD Tryz.prog 16 [.imm 1 (aL l)] (.imm 1 (aL (l.take 30))):=⟨BC l⟩
def Nu:List ByteArray:=[⟨#[108,105,103,97]⟩,J7,J6,J8,J5,⟨#[107,101,114,110]⟩,⟨#[109,97,114,107]⟩,⟨#[99,97,108,116]⟩]
theorem wp:G9 Tryz.prog 26 [] 9 1 (fK Nu):=by
 refine aQ Tryz.func26 rfl Tryz.ntmps26 rfl fun B=>?_
 refine W1o ?_
 intros
 exact OK KN ⟨_,rfl,rfl⟩
def Bb (n:Int) (i:Nat):Bool:=decide (bits .and .u16 (n / 2 ^ min i (IntKind.bits .u16)) 1=1)
def B4:List ByteArray:=Nu++[⟨#[110,111,110,101]⟩]
def jZ (n:Int) (i:Nat):List ByteArray:=((List.range i).filter (Bb n)).map fun k=>B4.getD k ⟨#[]⟩
theorem B3 (n:Int) (i:Nat):jZ n (i+1)=jZ n i++if Bb n i then [B4.getD i ⟨#[]⟩] else []:=by
 unfold jZ
 rw [List.range_succ,List.filter_append,List.map_append,List.filter_cons]
 split <;> rfl
theorem vE (n:Int) (i:Nat):(jZ n i).length≤i:=by
 unfold jZ
 rw [Ou]
 have:=List.length_filter_le (Bb n) (List.range i)
 rwa [List.length_range] at this
theorem B5 (n:Int):G9 Tryz.prog 9 [.sc (.int .u16 n)] 9 1 (fK (jZ n 9)):=by
 refine aQ Tryz.func9 rfl Tryz.ntmps9 rfl fun B=>?_
 refine W01 ?_
 refine A5 (hc:=wp) rfl rfl rfl fun k0=>?_
 repeat' (first|refine bO a7 ?_|fail)
 refine bA a7 [] rfl rfl rfl rfl (by rw [List.append_nil]) (by decide) (by decide) rfl fun k1=>?_
 refine W1j ?_
 intros
 rename_i wb
 refine bM (bq (t:=3) (c':= .imm 1 (fK B4)) rfl fun σ v h=>h.im) ?_
 refine bM (bS (L':=tok (some (wb,0)) 9 1 0) (List.Sublist.cons_cons _ (List.nil_sublist _))) ?_
 refine aJ [0,3] (α:=Nat×Option (Nat×Nat)) (fun s=>[(4,.vec s.2 1 (fK (jZ n s.1))),(5,aG s.1)]) (fun s=>s.1≤9) (fun s=>tok s.2 9 1 (jZ n s.1).length) (fun s=>9 - s.1) (0,some (wb,0)) rfl ⟨rfl,rfl,trivial⟩ (Nat.zero_le _) (fun _ _ h=>h) ?_
 rintro ⟨i,k⟩ hi
 dsimp only at hi ⊢
 try dsimp only [Oq,Oo,Om,Oh]
 refine W01 ?_
 rw [show (fK B4).length=9 from rfl]
 refine aw rfl (fun h=>?_) (fun h=>?_)
 ·have hi9:i < 9:=by have:=Oy h;omega
  obtain ⟨z,hz⟩:∃z,B4[i]?=some z:=⟨_,Oz (by show i < 9;exact hi9)⟩
  have hzg:=o4 hz
  have hzd:B4.getD i ⟨#[]⟩=z:=by rw [List.getD_eq_getElem?_getD,hz];rfl
  have hws:=B3 n i
  rw [hzd] at hws
  have hwl:=vE n i
  have hsl:=gz (jZ n i)
  clear h
  refine W03 ?_
  refine mI i rfl rfl rfl rfl ?_
  repeat' (first|fail)
  refine uF rfl rfl rfl ?_
  refine W01 ?_
  refine aw rfl (fun h=>?_) (fun h=>?_)
  ·rw [if_pos (show Bb n i=true from h)] at hws
   clear h
   refine W1d ?_
   refine bA a7 [] rfl rfl rfl rfl (by rw [hsl,List.append_nil]) (by rw [hsl];simp;omega) (by rw [hsl];simp;omega) rfl fun k'=>?_
   rw [show ((fK (jZ n i))++_).length=(jZ n i).length+1 by rw [List.length_append,hsl];rfl]
   refine W02 ?_
   have hst:fK (jZ n (i+1))=fK (jZ n i)++[[oh z]]:=by rw [hws];unfold fK;rw [List.map_append];rfl
   have hwl2:(jZ n (i+1)).length=(jZ n i).length+1:=by rw [hws,List.length_append];rfl
   exact aD (i+1,k') rfl ⟨by dsimp only;rw [hst];rfl,by rw [Ov];rfl,trivial⟩ hi9 (by dsimp only;omega) (fun _ _ h=>by dsimp only;rw [hwl2];rwa [List.append_nil] at h)
  ·rw [if_neg (show ¬Bb n i=true from fun e=>by unfold Bb at e;rw [h] at e;cases e),List.append_nil] at hws
   clear h
   refine W02 ?_
   exact aD (i+1,k) rfl ⟨by dsimp only;rw [hws];rfl,by rw [Ov];rfl,trivial⟩ hi9 (by dsimp only;omega) (fun _ _ h=>by dsimp only;rw [hws];exact h)
 ·have hi9:i=9:=by have:=Ox h;omega
  subst hi9
  clear h
  refine W01 ?_
  exact OK KN ⟨_,rfl,by rw [gz]⟩
end Go.Proofs.YtamjlkdanllgjaaGreatDoor
