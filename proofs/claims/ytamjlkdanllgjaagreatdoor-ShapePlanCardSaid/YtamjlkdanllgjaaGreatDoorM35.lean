/-
  A lookup is copied: the walk.
-/
import Derived.Test.YtamjlkdanllgjaaGreatDoorM34
import Derived.Test.YtamjlkdanllgjaaGreatDoorM12
import Derived.Test.YtamjlkdanllgjaaGreatDoorM11
import Derived.Test.YtamjlkdanllgjaaGreatDoorM23
import Derived.Test.YtamjlkdanllgjaaGreatDoorM26
import Derived.Test.YtamjlkdanllgjaaGreatDoorM31
import Derived.Test.YtamjlkdanllgjaaGreatDoorM14
namespace Go.Proofs.YtamjlkdanllgjaaGreatDoor
open Go.RowKit
attribute [local irreducible] AT bF AX AO Av Kt b8 d9 DA cu
set_option maxRecDepth 8000
theorem DU (l:List Int) (hl:l.length≤1000000):bH Tryz.prog 216 [.imm 1 (aL l)] (.imm 1 (aL l)):=by
 refine aQ Tryz.func216 rfl Tryz.ntmps216 rfl fun B=>?_
 have hml:=aP l
 refine W01 ?_
 refine uG a7 rfl rfl rfl rfl rfl fun b hb=>?_
 repeat' (first|refine O1 ?_|fail)
 cases b with
 | true=>
  rw [hb rfl]
  refine W0k ?_
  refine b7 (bq (t:=2) (c':= .imm 1 []) rfl fun σ v h=>dV 1 h) ?_
  exact OL NZ
 | false=>
  refine W1k ?_
  intros
  refine bA a7 [] rfl rfl rfl rfl (Ok _) (by rw [hml];simp;omega) (by rw [hml];simp;omega) rfl fun k'=>?_
  refine W01 ?_
  refine b7 (bq (t:=2) (c':= .imm 1 (aL l)) rfl fun σ v h=>VR.im h) ?_
  refine du (List.nil_sublist _) ?_
  exact OL NZ
theorem JR (l:List jt) (hl:l.length≤1000000):bH Tryz.prog 217 [.imm 2 (l.map g9)] (.imm 2 (l.map g9)):=by
 refine aQ Tryz.func217 rfl Tryz.ntmps217 rfl fun B=>?_
 have hml:(l.map g9).length=l.length:=Ou ..
 refine W01 ?_
 refine uG a7 rfl rfl rfl rfl rfl fun b hb=>?_
 repeat' (first|refine O1 ?_|fail)
 cases b with
 | true=>
  rw [hb rfl]
  refine W0k ?_
  refine b7 (bq (t:=2) (c':= .imm 2 []) rfl fun σ v h=>dV 2 h) ?_
  exact OL NZ
 | false=>
  refine W1k ?_
  intros
  refine bA a7 [] rfl rfl rfl rfl (Ok _) (by rw [hml];simp;omega) (by rw [hml];simp;omega) rfl fun k'=>?_
  refine W01 ?_
  refine b7 (bq (t:=2) (c':= .imm 2 (l.map g9)) rfl fun σ v h=>VR.im h) ?_
  refine du (List.nil_sublist _) ?_
  exact OL NZ
abbrev eL:AV:= .sc (.slice none 0 0)
def gk {α:Type} (w:α→List AV) (z:List AV) (l:List α) (i:Nat):List (List AV):=(l.take i).map w++List.replicate (l.length - i) z
theorem ro {α:Type} {w:α→List AV} {z:List AV} {l:List α}:gk w z l 0=List.replicate l.length z:=by simp [gk]
theorem tc {α:Type} {w:α→List AV} {z:List AV} {l:List α}:gk w z l l.length=l.map w:=by simp [gk]
theorem te {α:Type} {w:α→List AV} {z:List AV} {l:List α} {i:Nat} {x:α} (h:l[i]?=some x):(gk w z l i).set i (w x)=gk w z l (i+1):=by
 have hi:=(Ol h).1
 unfold gk
 rw [List.set_append,if_neg (by rw [Ou,List.length_take];omega),Ou,List.length_take,Nat.min_eq_left (by omega),Nat.sub_self,show l.length - i=(l.length - (i+1))+1 by omega,List.replicate_succ,List.set_cons_zero,List.take_add_one,h]
 simp
theorem td {α:Type} {w:α→List AV} {z:List AV} {l:List α} {i:Nat} (hi:i≤l.length):(gk w z l i).length=l.length:=by
 unfold gk
 rw [List.length_append,Ou,List.length_take,List.length_replicate]
 omega
theorem oF {sz:Nat}:∀{l:List (List AV)} {i:Nat} {e:List AV},(∀q∈l,q.length=sz)→e.length=sz→i < l.length→eR l.flatten (i * sz) e=(l.set i e).flatten
 | [],_,_,_,_,h=>by simp at h
 | q::l,0,e,hs,he,_=>by
  have hq:=hs q (by simp)
  rw [List.set_cons_zero,List.flatten_cons,List.flatten_cons,Nat.zero_mul]
  apply List.ext_getElem?
  intro j
  rw [fx _ _ _ _ (by rw [List.length_append];omega)]
  by_cases hj:j < e.length
  ·rw [if_pos (by omega),Nat.sub_zero,List.getElem?_append_left hj]
  ·rw [if_neg (by omega),List.getElem?_append_right (by omega),List.getElem?_append_right (by omega),hq,he]
 | q::l,i+1,e,hs,he,h=>by
  have hq:=hs q (by simp)
  have ih:=oF (l:=l) (i:=i) (e:=e) (fun x hx=>hs x (by simp [hx])) he (by simpa using h)
  have hlen:i * sz+e.length≤l.flatten.length:=by
   have hl:l.flatten.length=l.length * sz:=fm l fun x hx=>hs x (by simp [hx])
   rw [hl,he]
   have:(i+1) * sz≤l.length * sz:=Nat.mul_le_mul_right _ (by simp at h;omega)
   rw [Nat.add_mul,Nat.one_mul] at this
   exact this
  rw [List.set_cons_succ,List.flatten_cons,List.flatten_cons,←ih]
  apply List.ext_getElem?
  intro j
  have e1:(i+1) * sz=i * sz+sz:=by rw [Nat.add_mul,Nat.one_mul]
  rw [fx _ _ _ _ (by rw [List.length_append];omega),e1]
  by_cases hj:j < sz
  ·rw [if_neg (by omega),List.getElem?_append_left (by omega),List.getElem?_append_left (by omega)]
  ·rw [List.getElem?_append_right (by omega),List.getElem?_append_right (by omega),fx _ _ _ _ hlen,hq]
   by_cases h2:i * sz≤j - sz∧j - sz < i * sz+e.length
   ·rw [if_pos h2,if_pos (by omega)]
    congr 1
    omega
   ·rw [if_neg h2,if_neg (by omega)]
set_option maxHeartbeats 4000000 in
theorem sH (l:List (List Int)) (hl:l.length≤1000000) (hs:∀s∈l,s.length≤1000000):bH Tryz.prog 215 [.imm 1 (aZ l)] (.imm 1 (aZ l)):=by
 refine aQ Tryz.func215 rfl Tryz.ntmps215 rfl fun B=>?_
 have hil:=cr l
 refine W01 ?_
 refine ej a7 l.length rfl rfl rfl rfl rfl (by rw [hil]) (by rw [hil]) (by omega) (by omega) rfl fun rb=>?_
 refine W03 ?_
 refine aJ [3,9,10] (α:=Nat) (fun i=>[(11,aG i)]) (fun i=>i≤l.length) (fun i=>[(rb,.box (gk (fun s=>[AV.imm 1 (aL s)]) [eL] l i).flatten 22)]) (fun i=>l.length - i) 0 rfl ⟨rfl,trivial⟩ (Nat.zero_le _) (fun _ _ hh=>by rw [ro];exact hh) fun i hi=>?_
 try dsimp only [Oq,Oo,Om,Oh]
 refine W01 ?_
 refine aw rfl (fun h1=>?_) (fun h1=>?_)
 ·have hi2:i < l.length:=by have:=Oy h1;omega
  obtain ⟨s,hsi⟩:∃z,l[i]?=some z:=⟨_,Oz hi2⟩
  have hsg:=iD hsi
  haveI:=AD.mk (DU s (hs s (Ow hsi)))
  have hsz:∀q∈gk (fun s=>[AV.imm 1 (aL s)]) [eL] l i,q.length=1:=by
   intro q hq
   unfold gk at hq
   rw [List.mem_append] at hq
   rcases hq with hq | hq
   ·obtain ⟨_,_,rfl⟩:=List.mem_map.1 hq;rfl
   ·rw [(List.mem_replicate.1 hq).2];rfl
  have hfl:=td (w:=fun s=>[AV.imm 1 (aL s)]) (z:=[eL]) (l:=l) (i:=i) hi
  have hput:=oF (sz:=1) (l:=gk (fun s=>[AV.imm 1 (aL s)]) [eL] l i) (i:=i) (e:=[AV.imm 1 (aL s)]) hsz rfl (by omega)
  rw [te hsi] at hput
  have hfll:(gk (fun s=>[AV.imm 1 (aL s)]) [eL] l i).flatten.length=l.length * 1:=by rw [fm _ hsz,hfl]
  clear h1
  refine W0x ?_
  refine ai a7 0 rfl rfl rfl rfl rfl rfl (Nat.ble_eq_true_of_le (by rw [hfll,Int.toNat_natCast];show 0+i * 1+1≤_;omega)) ?_
  refine W02 ?_
  refine aD (i+1) rfl ⟨by rw [Ov];rfl,trivial⟩ hi2 (by omega) (fun _ _ hh=>?_)
  rw [←hput]
  rw [Int.toNat_natCast,Nat.zero_add] at hh
  exact hh
 ·have hi2:i=l.length:=by have:=Ox h1;omega
  subst hi2
  rw [tc]
  clear h1
  refine W01 ?_
  have hml:(l.map fun s=>[AV.imm 1 (aL s)]).flatten.length=l.length * 1:=by rw [fm _ (sz:=1) (fun q hq=>by obtain ⟨_,_,rfl⟩:=List.mem_map.1 hq;rfl),Ou]
  refine b7 (dl (t:=2) (sz:=1) (n:=l.length) (cap:=l.length) (l:=aZ l) 0 rfl rfl (by rw [List.take_of_length_le (by omega)];rfl) (by omega) (fun e he=>by unfold aZ at he;obtain ⟨_,_,rfl⟩:=List.mem_map.1 he;rfl) hil (Nat.le_refl _) (by unfold maxLen;omega)) ?_
  exact OL NZ
def jk (r:bJ):List AV:=[eL,.imm 1 (aZ r.In),eL,.imm 1 (aL r.Out),.imm 2 (r.Calls.map g9),aG r.X]
theorem G4 (r:bJ):l8 (jk r) (bN (sq r)):=⟨d5.nil 1,d5.refl _,d5.nil 1,d5.refl _,d5.refl _,d5.refl _,trivial⟩
theorem AI {α:Type} {a b:α→List AV} (h:∀x,l8 (a x) (b x)):∀(l:List α),Jq (l.map a) (l.map b)
 | []=>trivial
 | x::l=>⟨h x,AI h l⟩
structure Iw (r:bJ):Prop where
 in_:r.In.length≤1000000∧∀s∈r.In,s.length≤1000000
 out:r.Out.length≤1000000
 calls:r.Calls.length≤1000000
set_option maxHeartbeats 8000000 in
theorem vK (l:bf) (hl:l.Rules.length≤1000000) (hr:∀r∈l.Rules,Iw r):bH Tryz.prog 137 [.agg (bC l)] (.agg (bC (lE l))):=by
 refine aQ Tryz.func137 rfl Tryz.ntmps137 rfl fun B=>?_
 have hml:(l.Rules.map bN).length=l.Rules.length:=Ou ..
 refine W0O ?_
 intros
 refine ej a7 l.Rules.length rfl rfl rfl rfl rfl (by rw [hml]) (by rw [hml]) (by omega) (by omega) rfl fun rb=>?_
 refine W03 ?_
 rename_i r2
 refine aJ [1,2,3,11,12] (α:=Nat) (fun i=>[(13,aG i)]) (fun i=>i≤l.Rules.length) (fun i=>[(rb,.box (gk jk [eL,eL,eL,eL,eL,aG 0] l.Rules i).flatten 73),(r2,.box [aG 0,cU false,eL] 76)]) (fun i=>l.Rules.length - i) 0 rfl ⟨rfl,trivial⟩ (Nat.zero_le _) (fun _ _ hh=>by rw [ro];exact hh) fun i hi=>?_
 try dsimp only [Oq,Oo,Om,Oh]
 refine W01 ?_
 refine aw rfl (fun h1=>?_) (fun h1=>?_)
 ·have hi2:i < l.Rules.length:=by have:=Oy h1;omega
  obtain ⟨r,hri⟩:∃z,l.Rules[i]?=some z:=⟨_,Oz hi2⟩
  have hrg:(l.Rules.map bN)[i]?=some (bN r):=by simp [hri]
  have hcr:=hr r (Ow hri)
  haveI:=AD.mk (sH r.In hcr.in_.1 hcr.in_.2)
  haveI:=AD.mk (DU r.Out hcr.out)
  haveI:=AD.mk (JR r.Calls hcr.calls)
  have hsz:∀q∈gk jk [eL,eL,eL,eL,eL,aG 0] l.Rules i,q.length=6:=by
   intro q hq
   unfold gk at hq
   rw [List.mem_append] at hq
   rcases hq with hq | hq
   ·obtain ⟨_,_,rfl⟩:=List.mem_map.1 hq;rfl
   ·rw [(List.mem_replicate.1 hq).2];rfl
  have hfl:=td (w:=jk) (z:=[eL,eL,eL,eL,eL,aG 0]) (l:=l.Rules) (i:=i) hi
  have hput:=oF (sz:=6) (l:=gk jk [eL,eL,eL,eL,eL,aG 0] l.Rules i) (i:=i) (e:=jk r) hsz rfl (by omega)
  rw [te hri] at hput
  have hfll:(gk jk [eL,eL,eL,eL,eL,aG 0] l.Rules i).flatten.length=l.Rules.length * 6:=by rw [fm _ hsz,hfl]
  clear h1
  refine W0J ?_
  intros
  refine bk 14 [(0,.v),(1,.v),(2,.v),(3,.v),(4,.v),(5,.v),(6,.v),(7,.v),(8,.v),(9,.v),(10,.v),(11,.v),(12,.v),(13,.v)] none ?_ trivial rfl (by kernel_rfl) (by kernel_rfl) (by kernel_rfl) mixed (by kernel_rfl) rfl
  refine W0j ?_
  refine OO [1,2,3,11,12,13,18,19,31] KN ?_
  refine W0i ?_
  refine ai a7 0 rfl rfl rfl rfl rfl rfl (Nat.ble_eq_true_of_le (by rw [hfll,Int.toNat_natCast];show 0+i * 6+6≤_;omega)) ?_
  refine W02 ?_
  refine aD (i+1) rfl ⟨by rw [Ov];rfl,trivial⟩ hi2 (by omega) (fun _ _ hh=>?_)
  rw [←hput]
  rw [Int.toNat_natCast,Nat.zero_add] at hh
  exact hh
 ·have hi2:i=l.Rules.length:=by have:=Ox h1;omega
  subst hi2
  rw [tc]
  clear h1
  have hsz:∀q∈l.Rules.map jk,q.length=6:=fun q hq=>by obtain ⟨_,_,rfl⟩:=List.mem_map.1 hq;rfl
  have hml2:(l.Rules.map jk).flatten.length=l.Rules.length * 6:=by rw [fm _ hsz,Ou]
  refine bM (dl (t:=3) (sz:=6) (n:=l.Rules.length) (cap:=l.Rules.length) (l:=l.Rules.map jk) 0 rfl rfl (by rw [List.take_of_length_le (by omega)]) (by omega) hsz (Ou ..) (Nat.le_refl _) (by unfold maxLen;omega)) ?_
  refine bM (bq (t:=3) (c':= .imm 6 ((lE l).Rules.map bN)) rfl fun σ v h=>?_) ?_
  ·have e:(lE l).Rules.map bN=l.Rules.map fun r=>bN (sq r):=by unfold lE;rw [List.map_map];rfl
   rw [e]
   exact d5.imm (AI G4 l.Rules) σ v h
  refine W0E ?_
  exact fT (cs:=[.agg (bC (lE l))]) [] ⟨⟨_,0,_,_,rfl,rfl,.inr ⟨dZ a7 rfl,rfl⟩⟩,trivial⟩ (List.nil_sublist _) rfl
set_option maxRecDepth 8000
structure IB (f:aY):Prop where
 glyphs:0 < f.Glyphs.length∧f.Glyphs.length≤65536
 lookups:f.Lookups.length≤1000000
 look:∀l∈f.Lookups,yY f.Glyphs.length l
 rule:∀l∈f.Lookups,∀r∈l.Rules,Iw r
structure KW (f:aY) (E:x9):Prop where
 ls:E.lks.map (·.l)=f.Lookups
 ms:E.ms=f.Glyphs.map bn.Mark
 auto:∀e∈E.lks,1≤e.l.Kind→e.l.Kind≤6→qD e
def NH:Option kZ→List AV
 | none=>[eL,eL,eL,eL,eL]
 | some a=>MM a
def Ms:kZ:=⟨[],[],[],[],[]⟩
def M4 (l:bf) (a:Option kZ) (j:Nat):List AV:=[aG l.Kind,cU l.Ignore,.imm 6 ((lE l).Rules.map bN)]++NH a++[aG (me (l.Rules.take j)),aG (ma (l.Rules.take j))]
def Cd (l:bf) (a:kZ) (j:Nat):List AV:=[aG l.Kind,cU l.Ignore,.imm 6 ((lE l).Rules.map bN),.imm 1 (aL a.cls),.imm 1 (aZ a.fore),.imm 1 (aZ a.back),.imm 1 (gE a.foreE),.imm 1 (gE a.backE),aG (me (l.Rules.take j)),aG (ma (l.Rules.take j))]
theorem Fc (l:bf) (a:Option kZ) (j:Nat):l8 (M4 l a j) (Cd l (a.getD Ms) j):=by
 cases a with
 | none=>exact ⟨d5.refl _,d5.refl _,d5.refl _,d5.nil 1,d5.nil 1,d5.nil 1,d5.nil 1,d5.nil 1,d5.refl _,d5.refl _,trivial⟩
 | some a=>exact ⟨d5.refl _,d5.refl _,d5.refl _,d5.refl _,d5.refl _,d5.refl _,d5.refl _,d5.refl _,d5.refl _,d5.refl _,trivial⟩
theorem Fd (l:bf) (a:kZ):Cd l a l.Rules.length=jj (GW l a):=by
 unfold Cd
 rw [List.take_length]
 rfl
theorem xR {rs:List bJ} {j:Nat} {r:bJ} (h:rs[j]?=some r):me (rs.take (j+1))=max (me (rs.take j)) (r.In.length+r.Ahead.length)∧ma (rs.take (j+1))=max (ma (rs.take j)) r.Back.length:=by
 unfold me ma
 rw [List.take_add_one,h]
 constructor <;> simp
theorem Ee {N:Nat} {rs:List bJ} (h:∀r∈rs,vh N r) (j:Nat):me (rs.take j)≤200∧ma (rs.take j)≤200:=⟨iM (by omega) fun r hr=>(h r (List.mem_of_mem_take hr)).long.2,iM (by omega) fun r hr=>(h r (List.mem_of_mem_take hr)).long.1⟩
theorem Bc (l:List Bool) (b:Bool):sF l++[[cU b]]=sF (l++[b]):=by simp [sF]
set_option maxHeartbeats 16000000 in
theorem Kl (f:aY) (h:IB f) (hck:AC Tryz.prog 60 [cR f] [] fun c _=>∃n:Int,c=ct (0,n)):AC Tryz.prog 61 [cR f] [] fun c _=>∃E,KW f E∧c= .tup [.iptr (r7 E),aG 0]:=by
 refine aQ Tryz.func61 rfl Tryz.ntmps61 rfl fun B=>?_
 have hgl:(f.Glyphs.map bG).length=f.Glyphs.length:=Ou ..
 have hll:(f.Lookups.map bC).length=f.Lookups.length:=Ou ..
 obtain ⟨hN0,hN⟩:=h.glyphs
 have hL:=h.lookups
 refine W07 ?_
 refine bh [] _ hck rfl rfl (Ok _) rfl fun c1 L1 ⟨n0,hc1⟩=>?_
 subst hc1
 refine aX (bS (List.sublist_append_right ..)) ?_
 unfold ct
 repeat' (first|refine O1 ?_|refine ak ?_|refine OE a7 KN ?_|refine A4 (d:=25) fun _=>?_|refine bj rfl ?_)
 rename_i eb
 refine bM (bB 0 (cs':=[.vec none 10 [],.vec none 1 []]) rfl fun σ vs hh=>l8.vrs (a:=[eL,eL]) (b:=[.vec none 10 [],.vec none 1 []]) ⟨fun σ v h=>cM 10 h,fun σ v h=>cM 1 h,trivial⟩ hh) ?_
 refine aJ [1,6,27,28] (α:=List CS×Option (Nat×Nat)) (fun s=>[(29,aG s.1.length)]) (fun s=>s.1.length≤f.Lookups.length∧s.1.map (·.l)=f.Lookups.take s.1.length∧∀e∈s.1,1≤e.l.Kind→e.l.Kind≤6→qD e) (fun s=>(eb,.box [.vec s.2 10 (s.1.map jj),.vec none 1 []] 237)::tok s.2 243 10 s.1.length) (fun s=>f.Lookups.length - s.1.length) ([],none) rfl ⟨rfl,trivial⟩ ⟨Nat.zero_le _,rfl,fun e he=>by cases he⟩ (fun _ _ hh=>hh) ?_
 rintro ⟨es,q⟩ ⟨hk,hes,hau⟩
 dsimp only at hk hes hau ⊢
 try dsimp only [Oq,Oo,Om,Oh]
 refine W01 ?_
 refine aw rfl (fun h1=>?_) (fun h1=>?_)
 ·have hk2:es.length < f.Lookups.length:=by have:=Oy h1;omega
  obtain ⟨l,hl⟩:∃z,f.Lookups[es.length]?=some z:=⟨_,Oz hk2⟩
  have hlg:(f.Lookups.map bC)[es.length]?=some (bC l):=by simp [hl]
  have hlm:=Ow hl
  have hbl:=h.look l hlm
  have hfew:=hbl.few
  haveI:=AD.mk (vK l (by omega) (h.rule l hlm))
  have hbu:=DN f es.length l hl hbl hN0 hN
  have hrl:(l.Rules.map bN).length=l.Rules.length:=Ou ..
  clear h1
  repeat' (first|refine O1 ?_|refine ak ?_|refine OE a7 KN ?_|(apply aV;first|refine aU a7 ?_|refine aN a7 ?_)|(apply aO;first|refine OG 8 a7 0 OD ?_|refine OG 8 a7 1 OD ?_|refine OG 8 a7 2 OD ?_|refine OG 10 a7 0 OD ?_|refine OG 10 a7 1 OD ?_|refine OG 10 a7 2 OD ?_|refine OG 13 a7 0 OD ?_|refine OG 13 a7 1 OD ?_|refine OG 13 a7 2 OD ?_|refine OG 15 a7 0 OD ?_|refine OG 15 a7 1 OD ?_|refine OG 15 a7 2 OD ?_|refine OF a7 0 OC ?_|refine OF a7 1 OC ?_|refine OF a7 2 OC ?_|refine OF a7 3 OC ?_|fail)|refine bi a7 fun _=>?_|(apply bg;refine b9 ?_)|fail)
  rename_i ob
  refine iu (α:=Option kZ) [1,6,8,9,27,28,29] (fun _=>[(1,.iptr (cf f)),(6,j4 eb),(8,.iptr (bC l)),(9,j4 ob),(27,.imm 3 (f.Lookups.map bC)),(28,.sc (.int .i64 ((f.Lookups.map bC).length:Int))),(29,aG es.length)]) (fun a=>(ob,.box (M4 l a 0) 243)::(eb,.box [.vec q 10 (es.map jj),.vec none 1 []] 237)::tok q 243 10 es.length) (fun a=>1≤l.Kind→l.Kind≤6→∃a',a=some a'∧yZ f.Glyphs.length l.Rules a') (fun Q' K=>?_) (fun a ha=>?_)
  ·refine aw rfl (fun h1=>?_) (fun h1=>?_)
   ·refine W01 ?_
    refine bh [] _ hbu rfl rfl (Ok _) rfl fun c1 L1 ⟨a,ha,hc1⟩=>?_
    subst hc1
    refine aX (bS (List.sublist_append_right ..)) ?_
    repeat' (first|refine O1 ?_|refine OE a7 KN ?_|(apply aO;first|refine OG 8 a7 0 OD ?_|refine OG 8 a7 1 OD ?_|refine OG 8 a7 2 OD ?_|refine OG 10 a7 0 OD ?_|refine OG 10 a7 1 OD ?_|refine OG 10 a7 2 OD ?_|refine OG 13 a7 0 OD ?_|refine OG 13 a7 1 OD ?_|refine OG 13 a7 2 OD ?_|refine OG 15 a7 0 OD ?_|refine OG 15 a7 1 OD ?_|refine OG 15 a7 2 OD ?_|refine OF a7 0 OC ?_|refine OF a7 1 OC ?_|refine OF a7 2 OC ?_|refine OF a7 3 OC ?_|fail)|refine bi a7 fun _=>?_|refine bj rfl ?_)
    exact K (some a) _ (fun _ _=>⟨a,rfl,ha⟩) rfl
   ·repeat' (first|refine O1 ?_|fail)
    exact K none _ (fun h1' h6=>absurd (Ox h1) (fun hn=>hn ⟨h1',h6⟩)) rfl
  ·have hA:1≤l.Kind→l.Kind≤6→yZ f.Glyphs.length l.Rules (a.getD Ms):=fun h1 h6=>by
    obtain ⟨a',rfl,hb⟩:=ha h1 h6
    exact hb
   refine bM (bB 0 (cs':=Cd l (a.getD Ms) 0) rfl fun σ vs hh=>(Fc l a 0).vrs hh) ?_
   generalize a.getD Ms=A at hA
   clear ha
   refine W03 ?_
   refine aJ [1,6,9,27,28,29,52,53] (α:=Nat) (fun j=>[(54,aG j)]) (fun j=>j≤l.Rules.length) (fun j=>(ob,.box (Cd l A j) 243)::(eb,.box [.vec q 10 (es.map jj),.vec none 1 []] 237)::tok q 243 10 es.length) (fun j=>l.Rules.length - j) 0 rfl ⟨rfl,trivial⟩ (Nat.zero_le _) (fun _ _ hh=>hh) fun j hj=>?_
   try dsimp only [Oq,Oo,Om,Oh]
   refine W01 ?_
   refine aw rfl (fun h1=>?_) (fun h1=>?_)
   ·have hj2:j < l.Rules.length:=by have:=Oy h1;omega
    obtain ⟨r,hr⟩:∃z,l.Rules[j]?=some z:=⟨_,Oz hj2⟩
    have hrg:(l.Rules.map bN)[j]?=some (bN r):=by simp [hr]
    have hlong:=(hbl.rule r (Ow hr)).long
    have hl1:=cr r.In
    have hl2:=cr r.Ahead
    have hl3:=cr r.Back
    obtain ⟨hfb,hbb⟩:=Ee hbl.rule j
    obtain ⟨hfs,hbs⟩:=xR hr
    clear h1
    repeat' (first|refine O1 ?_|refine ak ?_|refine OE a7 KN ?_|(apply bU;first|refine OH a7 0 OB ?_|refine OH a7 1 OB ?_|refine OH a7 2 OB ?_|refine OH a7 3 OB ?_|refine OJ a7 0 OB ?_|refine OJ a7 1 OB ?_|refine OJ a7 2 OB ?_|refine OM a7 1 NZ (by assumption) rfl ?_|refine OM a7 0 NZ (by assumption) rfl ?_|fail)|(apply aS;refine aR ?_)|(apply aV;first|refine aU a7 ?_|refine aN a7 ?_)|(apply aO;first|refine OG 8 a7 0 OD ?_|refine OG 8 a7 1 OD ?_|refine OG 8 a7 2 OD ?_|refine OG 10 a7 0 OD ?_|refine OG 10 a7 1 OD ?_|refine OG 10 a7 2 OD ?_|refine OG 13 a7 0 OD ?_|refine OG 13 a7 1 OD ?_|refine OG 13 a7 2 OD ?_|refine OG 15 a7 0 OD ?_|refine OG 15 a7 1 OD ?_|refine OG 15 a7 2 OD ?_|refine OF a7 0 OC ?_|refine OF a7 1 OC ?_|refine OF a7 2 OC ?_|refine OF a7 3 OC ?_|fail)|refine bi a7 fun _=>?_|fail)
    refine aD (j+1) rfl ⟨by rw [Ov];rfl,trivial⟩ hj2 (by omega) (fun _ _ hh=>?_)
    have e1:((max (me (l.Rules.take j)) (r.In.length+r.Ahead.length):Nat):Int)=max ((me (l.Rules.take j):Nat):Int) (((aZ r.In).length:Int)+((aZ r.Ahead).length:Int)):=by omega
    have e2:((max (ma (l.Rules.take j)) r.Back.length:Nat):Int)=max ((ma (l.Rules.take j):Nat):Int) ((aZ r.Back).length:Int):=by omega
    unfold Cd
    rw [hfs,hbs,e1,e2]
    exact hh
   ·have hj2:j=l.Rules.length:=by have:=Ox h1;omega
    subst hj2
    rw [Fd]
    clear h1
    have hel:(es.map jj).length=es.length:=Ou ..
    have hsn:es.map jj++[jj (GW l A)]=(es++[GW l A]).map jj:=by rw [List.map_append];rfl
    repeat' (first|refine O1 ?_|fail)
    refine bk 8 [(0,.v),(1,.v),(2,.v),(3,.v),(4,.l),(5,.l),(6,.v),(7,.e)] none ?_ trivial rfl (by kernel_rfl) (by kernel_rfl) (by kernel_rfl) mixed (by kernel_rfl) rfl
    repeat' (first|refine aE ?_|refine b6 a7 ?_|refine ec a7 ?_|refine cW a7 1 rfl rfl rfl rfl (by first|trivial|rfl) ?_|refine qm a7 0 rfl rfl rfl rfl (by first|trivial|rfl) ?_)
    refine fj a7 [(ob,.box (jj (GW l A)) 243),(eb,.box [.vec q 10 (es.map jj),.vec none 1 []] 237)] rfl rfl rfl rfl (by rw [hel];exact List.perm_append_comm (l₁:=[_,_])) (by rw [hel];simp;omega) (by rw [hel];simp;omega) trivial fun q'=>?_
    repeat' (first|fail)
    refine OO [1,6,27,28,29,77,84] KN ?_
    refine aX (aW (L':=(ob,.box (jj (GW l A)) 243)::(eb,.box [.vec q 10 (es.map jj),.vec none 1 []] 237)::tok q' 243 10 (es.map jj++[jj (GW l A)]).length) (List.perm_append_comm (l₂:=[_,_]))) ?_
    refine W0r ?_
    have hll2:(es++[GW l A]).length=es.length+1:=by simp
    refine aD (es++[GW l A],q') rfl ⟨by dsimp only;rw [hll2,Ov];rfl,trivial⟩ ⟨by dsimp only;omega,?_,?_⟩ (by dsimp only;omega) (fun σ w hh=>?_)
    ·dsimp only
     rw [List.map_append,hes,hll2,List.take_add_one,hl]
     rfl
    ·intro e he h1 h6
     rw [List.mem_append,List.mem_singleton] at he
     rcases he with he | rfl
     ·exact hau e he h1 h6
     ·exact GC hbl (hA h1 h6)
    ·have h2:=hh.sublist (List.sublist_cons_self ..)
     rw [hsn,Ou] at h2
     dsimp only
     rw [←hsn]
     exact h2
 ·have hk2:es.length=f.Lookups.length:=by have:=Ox h1;omega
  rw [hk2,List.take_length] at hes
  clear h1
  refine W03 ?_
  refine aJ [6,89,90] (α:=Nat×Option (Nat×Nat)) (fun s=>[(91,aG s.1)]) (fun s=>s.1≤f.Glyphs.length) (fun s=>(eb,.box [.vec q 10 (es.map jj),.vec s.2 1 (sF ((f.Glyphs.map bn.Mark).take s.1))] 237)::(tok q 243 10 es.length++tok s.2 4 1 s.1)) (fun s=>f.Glyphs.length - s.1) (0,none) rfl ⟨rfl,trivial⟩ (Nat.zero_le _) (fun σ w hh=>by show dg B σ ((eb,.box [.vec q 10 (es.map jj),.vec none 1 []] 237)::(tok q 243 10 es.length++[])) w;rw [List.append_nil];exact hh) ?_
  rintro ⟨k,q2⟩ hk3
  dsimp only at hk3 ⊢
  try dsimp only [Oq,Oo,Om,Oh]
  refine W01 ?_
  refine aw rfl (fun h1=>?_) (fun h1=>?_)
  ·have hk4:k < f.Glyphs.length:=by have:=Oy h1;omega
   obtain ⟨g,hg⟩:∃z,f.Glyphs[k]?=some z:=⟨_,Oz hk4⟩
   have hgg:(f.Glyphs.map bG)[k]?=some (bG g):=by simp [hg]
   have hbl:(sF ((f.Glyphs.map bn.Mark).take k)).length=k:=by rw [DL,List.length_take,Ou];omega
   have hbs:(f.Glyphs.map bn.Mark).take (k+1)=(f.Glyphs.map bn.Mark).take k++[g.Mark]:=by rw [List.take_add_one,List.getElem?_map,hg];rfl
   have hsn:=Bc ((f.Glyphs.map bn.Mark).take k) g.Mark
   rw [←hbs] at hsn
   generalize sF ((f.Glyphs.map bn.Mark).take k)=bl at *
   clear h1
   repeat' (first|refine O1 ?_|refine ak ?_|refine OE a7 KN ?_|(apply aV;first|refine aU a7 ?_|refine aN a7 ?_)|(apply aO;first|refine OG 8 a7 0 OD ?_|refine OG 8 a7 1 OD ?_|refine OG 8 a7 2 OD ?_|refine OG 10 a7 0 OD ?_|refine OG 10 a7 1 OD ?_|refine OG 10 a7 2 OD ?_|refine OG 13 a7 0 OD ?_|refine OG 13 a7 1 OD ?_|refine OG 13 a7 2 OD ?_|refine OG 15 a7 0 OD ?_|refine OG 15 a7 1 OD ?_|refine OG 15 a7 2 OD ?_|refine OF a7 0 OC ?_|refine OF a7 1 OC ?_|refine OF a7 2 OC ?_|refine OF a7 3 OC ?_|fail)|refine bi a7 fun _=>?_|fail)
   refine bk 9 [(0,.v),(1,.v),(2,.v),(3,.v),(4,.l),(5,.v),(6,.v),(7,.v),(8,.e)] none ?_ trivial rfl (by kernel_rfl) (by kernel_rfl) (by kernel_rfl) mixed (by kernel_rfl) rfl
   refine W1e ?_
   refine fj a7 ((eb,.box [.vec q 10 (es.map jj),.vec q2 1 bl] 237)::tok q 243 10 es.length) rfl rfl rfl rfl (by rw [hbl];exact (List.perm_append_comm (l₁:=_::tok q 243 10 es.length))) (by rw [hbl];simp;omega) (by rw [hbl];simp;omega) trivial fun q'=>?_
   repeat' (first|fail)
   refine OO [6,89,90,91,95,103] KN ?_
   refine aX (aW (L':=(eb,.box [.vec q 10 (es.map jj),.vec q2 1 bl] 237)::(tok q 243 10 es.length++tok q' 4 1 (k+1))) (by rw [List.length_append,hbl];exact (List.perm_append_comm (l₂:=_::tok q 243 10 es.length)))) ?_
   refine W0r ?_
   exact aD (k+1,q') rfl ⟨by rw [Ov];rfl,trivial⟩ hk4 (by dsimp only;omega) (fun _ _ hh=>by dsimp only;rw [←hsn];exact hh)
  ·have hk4:k=f.Glyphs.length:=by have:=Ox h1;omega
   subst hk4
   rw [List.take_of_length_le (by rw [Ou];exact Nat.le_refl _)]
   clear h1
   refine W01 ?_
   refine b7 (bB 0 (cs':=r7 ⟨es,f.Glyphs.map bn.Mark⟩) rfl fun σ vs hh=>l8.vrs (a:=[.vec q 10 (es.map jj),.vec q2 1 (sF (f.Glyphs.map bn.Mark))]) (b:=r7 ⟨es,f.Glyphs.map bn.Mark⟩) ⟨fun σ v h=>VR.im h,fun σ v h=>VR.im h,trivial⟩ hh) ?_
   refine b7 (wZ (t:=2) (cs:=r7 ⟨es,f.Glyphs.map bn.Mark⟩) 0 rfl rfl rfl) ?_
   refine du (List.nil_sublist _) ?_
   exact OQ NZ ⟨⟨es,f.Glyphs.map bn.Mark⟩,⟨hes,rfl,hau⟩,rfl⟩
set_option maxRecDepth 8000
def tC:Nat→List Int→List bv
 | _,[]=>[]
 | i,g::l=>⟨g,i,0,0,0,0⟩::tC (i+1) l
def oO (l:List Int):List bv:=tC 0 l
def oV:List Bool:=[false,false,false,false,true]
def LP (ig:Bool):List bf:=[⟨3,ig,[⟨[],[[0],[1]],[],[2],[],0⟩]⟩]
def uB (a b c:Nat):List Int:=List.replicate a 4++0::(List.replicate b 4++1::List.replicate c 4)
def wh (a b c:Nat) (ig:Bool):List Int:=if 0 < b∧ig=false then uB a b c else List.replicate a 4++2::(List.replicate b 4++List.replicate c 4)
def EJ (a b c:Nat) (ig:Bool):Bool:=
 let out:=ot oV (LP ig) 0 (oO (uB a b c)) []
 (out.map bv.Glyph==wh a b c ig) && (decide ((wh a b c ig).length=(uB a b c).length) || (match out[a]? with | some x=>decide (x.Cluster=a) | none=>false))
def Mr:Bool:=(List.range 8).all fun a=>(List.range 8).all fun b=>(List.range 8).all fun c=>EJ a b c true && EJ a b c false
def Md:bJ:=⟨[],[[0]],[[1]],[1],[],0⟩
def HT:List bf:=[⟨5,false,[Md]⟩,⟨1,false,[Md]⟩]
def Fq (n:Nat):List Int:=List.replicate n 0++[1]
def Kv (n:Nat):List Int:=(List.range (n+1)).map fun (k:Nat)=>if (n:Int) - 1≤(k:Int) then (1:Int) else 0
def NN (n:Nat):Bool:=((ot oV HT 0 (oO (Fq n)) []).map bv.Glyph==List.replicate (n+1) 1) && ((ot oV HT 1 (oO (Fq n)) []).map bv.Glyph==Kv n)
def Lv (k:Nat):List bf:=[⟨4,false,[⟨[],[[0]],[],[],[⟨0,1⟩,⟨0,2⟩,⟨0,0⟩],0⟩]⟩,⟨1,false,[⟨[],[[0]],[],[2],[],0⟩]⟩,⟨2,false,[⟨[],[[2]],[],List.replicate k 1,[],0⟩]⟩]
def Nl (n k:Nat):Bool:=
 let out:=ot oV (Lv k) 0 (oO (List.replicate n 0)) []
 if k=0 then decide (out.length < n) else out.map bv.Glyph==List.replicate (n * k) 1
set_option maxRecDepth 8000
def M0 (c:UInt8) (m:Bool):bn:=⟨⟨#[c]⟩,0,m,[],[],[],[],[],[]⟩
def Kp:List bn:=[M0 97 false,M0 98 false,M0 99 false,M0 100 false,M0 109 true]
def Ko (ls:List bf):aY:=⟨1000,Kp,[],ls,[],[],[],[],[]⟩
def NA:List bf:=[⟨3,false,[⟨[],[[0],[1]],[],[2],[],0⟩]⟩,⟨1,false,[⟨[],[[2]],[],[3],[],0⟩]⟩]
def Ka (ls:List bf):Bool:=decide ((cZ 40 ls (lS (Ko ls))).1=0)
set_option maxRecDepth 8000
theorem BF {f:aY} (hr:(jC f).1=0) (ha:kY f.Glyphs.length (prt f)):AC Tryz.prog 60 [cR f] [] fun c _=>∃n:Int,c=ct (0,n):=
 AC.mono (zJ f fun _=>ha) fun c L hc=>⟨(jC f).2,by rw [hc,←hr]⟩
def KB (N:Nat) (s:List Int):Bool:=decide (s.Pairwise (· < ·)) && s.all fun g=>decide (0≤g) && decide (g < (N:Int))
def Mg (N:Nat) (r:bJ):Bool:=r.Back.all (KB N) && (r.In.all (KB N) && (r.Ahead.all (KB N) && (decide (r.Back.length≤200) && (decide (r.In.length+r.Ahead.length≤200) && (decide (r.Out.length≤1000000) && (decide (r.Calls.length≤1000000) && r.Calls.all fun c=>decide (0≤c.At) && decide (c.At≤1000000)))))))
def LL (N:Nat) (l:bf):Bool:=decide (l.Rules.length≤6) && l.Rules.all (Mg N)
structure L3 (N:Nat) (r:bJ):Prop where
 b:vh N r
 out:r.Out.length≤1000000
 calls:r.Calls.length≤1000000
 at_:∀c∈r.Calls,0≤c.At∧c.At≤1000000
structure sS (f:aY):Prop where
 glyphs:0 < f.Glyphs.length∧f.Glyphs.length≤65536
 lookups:f.Lookups.length≤1000000
 few:∀l∈f.Lookups,l.Rules.length≤6
 rule:∀l∈f.Lookups,∀r∈l.Rules,L3 f.Glyphs.length r
theorem sS.new {f:aY} (h:sS f):IB f:=by
 refine ⟨h.glyphs,h.lookups,fun l hl=>⟨h.few l hl,fun r hr=>(h.rule l hl r hr).b⟩,fun l hl r hr=>?_⟩
 have hb:=h.rule l hl r hr
 have hg:=h.glyphs.2
 exact ⟨⟨by have:=hb.b.long;omega,fun s hs=>by have:=fO (i6 (hb.b.in_ s hs).1) (hb.b.in_ s hs).2;omega⟩,hb.out,hb.calls⟩
theorem sS.eng {f:aY} (h:sS f) {E:x9} (hE:KW f E):qF E:=⟨hE.auto,fun e he r hr hin=>by
 have hl:e.l∈f.Lookups:=by rw [←hE.ls];exact List.mem_map.2 ⟨e,he,rfl⟩
 have hb:=h.rule e.l hl r hr
 exact ⟨hin,hb.out,hb.calls,hb.at_⟩⟩
theorem Km {f:aY} (h:sS f) (hr:(jC f).1=0) (ha:kY f.Glyphs.length (prt f)):AC Tryz.prog 61 [cR f] [] fun c _=>∃E,qF E∧E.ls=f.Lookups∧E.ms=f.Glyphs.map bn.Mark∧c= .tup [.iptr (r7 E),aG 0]:=
 AC.mono (Kl f h.new (BF hr ha)) fun c L ⟨E,hE,hc⟩=>⟨E,h.eng hE,hE.ls,hE.ms,hc⟩
set_option maxRecDepth 8000
noncomputable def sI (f:aY) (rs place:List Int):Int:=if (jC f).1≠0 then (jC f).1 else if 500 < rs.length then 2 else if place≠[] then 1 else 0
def MJ (f:aY) (v:AV) (L:AL):Prop:=∃E sb,qF E∧E.ls=f.Lookups∧E.ms=f.Glyphs.map bn.Mark∧v=j4 sb∧L=[(sb,x6 f f (.fnB 62 [.iptr (r7 E)] []))]
structure MI (f:aY):Prop where
 ac:kY f.Glyphs.length (prt f)
 sm:(jC f).1=0→Jh f
 nn:(jC f).1=0→sS f
set_option maxHeartbeats 4000000 in
theorem DJ (f:aY) (hf:MI f) (rs place:List Int):AC Tryz.prog 37 [cR f,.imm 1 (aL rs),.imm 1 (aL place)] [] fun c L=>(sI f rs place≠0∧c= .tup [LZ,aG (sI f rs place)]∧L=[])∨(sI f rs place=0∧∃v,MJ f v L∧c= .tup [v,aG 0]):=by
 refine aQ Tryz.func37 rfl Tryz.ntmps37 rfl fun B=>?_
 have hck:=zJ f fun _=>hf.ac
 have hil:=aP rs
 unfold sI
 refine W07 ?_
 refine bh [] [] hck rfl rfl (Ok _) rfl fun c L1 hc=>?_
 subst hc
 unfold ct
 refine W01 ?_
 refine zl (List.nil_sublist _) ?_
 refine aw rfl (fun h=>?_) (fun h=>?_)
 ·have h1:(jC f).1≠0:=Oy h
  rw [if_pos h1]
  clear h
  refine W01 ?_
  exact OQ NZ (.inl ⟨h1,rfl,rfl⟩)
 have h1:(jC f).1=0:=Decidable.not_not.1 (Ox h)
 rw [if_neg (by rw [h1];simp)]
 clear h
 have hnew:=Km (hf.nn h1) h1 hf.ac
 have hv:=JZ f (hf.sm h1) place
 refine W01 ?_
 rw [hil]
 refine aw rfl (fun h=>?_) (fun h=>?_)
 ·have h2:500 < rs.length:=by have:=Oy h;omega
  rw [if_pos h2]
  clear h
  refine W01 ?_
  exact OQ NZ (.inl ⟨by simp,rfl,rfl⟩)
 have h2:¬500 < rs.length:=by have:=Ox h;omega
 rw [if_neg h2]
 clear h
 by_cases h3:place=[]
 ·rw [if_neg (show ¬(place≠[]) from fun e=>e h3)]
  simp only [if_pos h3] at hv
  haveI:=AD.mk hv
  repeat' (first|refine O1 ?_|refine OE a7 KN ?_|(apply aO;first|refine OG 10 a7 0 OD ?_|refine OG 10 a7 1 OD ?_|refine OG 10 a7 2 OD ?_|refine OF a7 0 OC ?_|refine OF a7 1 OC ?_|refine OF a7 2 OC ?_|refine OF a7 3 OC ?_|fail)|refine bi a7 fun _=>?_|(apply bg;refine b9 ?_)|refine bj rfl ?_)
  refine bh [] [] hnew rfl rfl (Ok _) rfl fun c L1 ⟨E,hE1,hE2,hE3,hc⟩=>?_
  subst hc
  refine aX (bS (List.nil_sublist _)) ?_
  repeat' (first|refine O1 ?_|refine OE a7 KN ?_|refine A4 (d:=46) fun _=>?_|refine bj rfl ?_)
  rename_i sb
  exact OQ NZ (.inr ⟨rfl,_,⟨E,sb,hE1,hE2,hE3,rfl,rfl⟩,rfl⟩)
 ·rw [if_pos (show (place≠[]) from h3)]
  simp only [if_neg h3] at hv
  haveI:=AD.mk hv
  repeat' (first|refine O1 ?_|refine OE a7 KN ?_|(apply aO;first|refine OG 10 a7 0 OD ?_|refine OG 10 a7 1 OD ?_|refine OG 10 a7 2 OD ?_|refine OF a7 0 OC ?_|refine OF a7 1 OC ?_|refine OF a7 2 OC ?_|refine OF a7 3 OC ?_|fail)|refine bi a7 fun _=>?_|(apply bg;refine b9 ?_)|refine bT rfl ?_)
  refine du (List.nil_sublist _) ?_
  exact OQ NZ (.inl ⟨by simp,rfl,rfl⟩)
set_option maxRecDepth 8000
noncomputable def KD (f:aY) (rs place:List Int) (run:List bv):AV:= .tup [.imm 6 ((if sI f rs place=0 then run.map (q8 f) else []).map dw),aG (sI f rs place)]
structure L4 (f:aY) (rs:List Int) (want:List ByteArray):Prop where
 len:rs.length≤1000000
 grp:qG rs
 chars:f.Chars.length≤1000000
 feats:f.Features.length≤1000000
 pairs:(bP want f.Features).length≤1000000
 kinds:∀l∈cx want f,0≤l∧∃q,f.Lookups[l.toNat]?=some q∧1≤q.Kind∧q.Kind≤5
structure KZ (f:aY) (rs:List Int) (want:List ByteArray) (Lu:AL) (run:List bv):Prop where
 ac:∀E,qF E→E.ls=f.Lookups→E.ms=f.Glyphs.map bn.Mark→∀q,kM q (cC f rs)→AC Tryz.prog 62 [.iptr (r7 E),.imm 1 (aL (cx want f)),.imm 1 (aZ (fw want f)),f7 q (cC f rs)] (eT q (cC f rs)++Lu) (Jm run Lu)
 len:run.length≤1000000
 glyph:∀x∈run,0≤x.Glyph∧x.Glyph < f.Glyphs.length
set_option maxHeartbeats 4000000 in
theorem FL (f:aY) (hf:MI f) (rs place:List Int) (want:List ByteArray) (Lu:AL) (run:List bv) (ht:L4 f rs want) (hr:sI f rs place=0→KZ f rs want Lu run):AC Tryz.prog 19 [cR f,.imm 1 (aL rs),.imm 1 (fK want),.imm 1 (aL place)] Lu fun c L=>c=KD f rs place run∧L=Lu:=by
 refine aQ Tryz.func19 rfl Tryz.ntmps19 rfl fun B=>?_
 have hb:=DJ f hf rs place
 unfold KD
 generalize sI f rs place=e at *
 refine W07 ?_
 refine bh [] Lu hb rfl rfl (Ok _) rfl fun c L1 hc=>?_
 rcases hc with ⟨h1,rfl,rfl⟩ | ⟨h1,v,⟨E,sb,e1,e2,e3,rfl,rfl⟩,rfl⟩
 ·rw [if_neg h1]
  refine W01 ?_
  refine aw rfl (fun h=>?_) (fun h=>absurd (Ox h) (fun k=>k h1))
  clear h
  refine W01 ?_
  refine b7 (bq (t:=8) (c':= .imm 6 (([]:List bv).map dw)) rfl fun σ v h=>dV 6 h) ?_
  exact OQ NZ ⟨rfl,rfl⟩
 ·subst h1
  rw [if_pos rfl]
  have hrn:=hr rfl
  have hsh:=CD f f rs want (.fnB 62 [.iptr (r7 E)] []) sb Lu ht.len ht.grp ht.chars ht.feats ht.pairs ht.kinds run (fun q hq=>ju.fnB (f:=62) (fs:=[.iptr (r7 E)]) (caps:=[]) (hrn.ac E e1 e2 e3 q hq)) hrn.len hrn.glyph
  refine W0m ?_
  refine bh ((sb,x6 f f (.fnB 62 [.iptr (r7 E)] []))::Lu) [] hsh rfl rfl (by rw [List.append_nil];exact Ok _) rfl fun c L1 ⟨hc,hL⟩=>?_
  subst hc;subst hL
  refine W01 ?_
  refine du (L':=L1) (by rw [List.append_nil];exact List.Sublist.refl _) ?_
  exact OQ NZ ⟨rfl,rfl⟩
set_option maxRecDepth 8000
def No (ls:List bf):Bool:=ls.all (LL 5) && (decide (ls.length≤1000000) && Ka ls)
set_option maxRecDepth 8000
def Am (m k:Nat):List Int:=(List.range k).map fun (j:Nat)=>if j=m then (1:Int) else 0
def HU (m k:Nat):List Int:=(List.range k).map fun (j:Nat)=>if (m:Int) - 1≤(j:Int) then (1:Int) else 0
def Mv (m:Nat):Bool:=decide ((ot oV HT 0 (oO (Am m (m+1))) []).map bv.Glyph=List.replicate (m+1) 1) && decide ((ot oV HT 1 (oO (Am m (m+1))) []).map bv.Glyph=HU m (m+1))
end Go.Proofs.YtamjlkdanllgjaaGreatDoor
