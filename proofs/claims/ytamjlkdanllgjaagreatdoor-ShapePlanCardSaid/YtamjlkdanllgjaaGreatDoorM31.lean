/-
  What the laws make: a font, and a request.
-/
import Derived.Test.YtamjlkdanllgjaaGreatDoorM30
import Derived.Test.YtamjlkdanllgjaaGreatDoorM14
import Derived.Test.YtamjlkdanllgjaaGreatDoorM12
import Derived.Test.YtamjlkdanllgjaaGreatDoorM23
import Derived.Test.YtamjlkdanllgjaaGreatDoorM24
import Derived.Test.YtamjlkdanllgjaaGreatDoorM15
import Derived.Test.YtamjlkdanllgjaaGreatDoorM05
import Derived.Test.YtamjlkdanllgjaaGreatDoorM04
import Derived.Test.YtamjlkdanllgjaaGreatDoorM08
namespace Go.Proofs.YtamjlkdanllgjaaGreatDoor
open Go.RowKit
attribute [local irreducible] AT bF AX AO Av Kt b8 d9 DA cu
set_option maxRecDepth 8000
theorem CA:G9 Tryz.prog 34 [] 3 1 (aL fB):=by
 refine aQ Tryz.func34 rfl Tryz.ntmps34 rfl fun B=>?_
 refine W1o ?_
 intros
 exact OK KN ⟨_,rfl,rfl⟩
section
variable {P:Program} {tt:TT} {r:Option Nat} {ops:Array Oper} {Q:Exit→Act→World→Prop} {nt:Nat} {D:List Deferred} {fr:bZ} {B:Bs} {L:AL} {rest:List Oper} {d:Nat} {ty t:TypeId} {pos:String} {af:Array Edge} {x y:Operand} {u:AV}
theorem Kh (ok:eh P tt) (hi:Nat) {e sz by_ s:Nat} {l1:List (List AV)} {q:IntKind} {a:Int} (ht:jW tt t=some (e,sz,by_)) (hx:bw fr x=some u) (hu:gZ u=some (s,l1)) (hs:Nat.beq s sz=true) (hy:bw fr y=some (.sc (.int q a))) (ha:a=(hi:Int)) (h1:hi≤l1.length) (hd:Nat.ble nt d=false) (h:bF P r ops Q nt D rest ((d,.imm s (l1.take hi))::fr) B L):bF P r ops Q nt D (⟨some d,.slice t x none (some y) none,ty,pos,af,none⟩::rest) fr B L:=cz (xe (bE ok ht).1 hx (cG hu) hs hy ha h1) hd rfl h
end
def gJ (z:Int):Int:=tU.getD (z % 17).toNat 0
set_option maxHeartbeats 4000000 in
theorem FY (l:List Int):bH Tryz.prog 13 [.imm 1 (aL l)] (.imm 1 (aL (jU l))):=by
 refine aQ Tryz.func13 rfl Tryz.ntmps13 rfl fun B=>?_
 refine cV 0 rfl rfl fun hlen=>?_
 rw [aP] at hlen
 have hll:=aP l
 refine W01 ?_
 refine A5 CA rfl rfl rfl fun k=>?_
 repeat' (first|refine bO a7 ?_|fail)
 refine bA a7 _ rfl rfl rfl rfl (Ok _) (by simp [aP,fB]) (by simp [aP,fB]) rfl fun k'=>?_
 refine aX (bq (t:=8) (c':= .imm 1 (aL tU)) rfl fun σ v h=>VR.im h) ?_
 refine aX (bS (L':=[]) (List.nil_sublist _)) ?_
 have h17:(aL tU).length=17:=rfl
 refine W03 ?_
 refine bM (bq (t:=4) (c':= .vec none 1 []) rfl fun σ v h=>cM 1 h) ?_
 refine aJ [0,3] (α:=Nat×Option (Nat×Nat)) (fun x=>[(5,aG x.1),(4,.vec x.2 1 (aL ((l.take x.1).map gJ)))]) (fun x=>x.1≤l.length∧x.1≤20) (fun x=>tok x.2 3 1 (aL ((l.take x.1).map gJ)).length) (fun x=>20 - x.1) (0,none) rfl ⟨rfl,rfl,trivial⟩ ⟨Nat.zero_le _,Nat.zero_le _⟩ (fun _ _ h=>h) ?_
 rintro ⟨i,q⟩ ⟨hi,hi20⟩
 dsimp only at hi hi20 ⊢
 have htl:(aL ((l.take i).map gJ)).length=i:=by rw [aP,Ou,List.length_take];omega
 have hfin:(i=l.length∨i=20)→(l.take i).map gJ=jU l:=fun h=>by
  show (l.take i).map gJ=(l.take 20).map gJ
  rcases h with h | h
  ·rw [h,List.take_of_length_le (Nat.le_refl _),List.take_of_length_le (by omega)]
  ·rw [h]
 try dsimp only [Oq,Oo,Om,Oh]
 refine W01 ?_
 by_cases hl:i < l.length
 ·rw [decide_eq_true (show (i:Int) < (((aL l).length:Nat):Int) by omega)]
  refine W0y ?_
  refine aw rfl (fun h=>?_) (fun h=>?_)
  ·have h20:i < 20:=by have:=Oy h;omega
   obtain ⟨z,hz⟩:∃z,l[i]?=some z:=⟨_,Oz hl⟩
   have hzg:=bD hz
   have hmz:0≤z % 17∧z % 17 < 17:=⟨Int.emod_nonneg z (by omega),Int.emod_lt_of_pos z (by omega)⟩
   have htg:(aL tU)[(z % 17).toNat]?=some [aG (gJ z)]:=bD (kr (by simp only [tU,fB,List.length_append,List.length_cons,List.length_nil];omega) 0)
   have hb:=Int.lt_tmod_of_pos z (show (0:Int) < ((17:Nat):Int) by omega)
   have hb2:=Int.tmod_lt_of_pos z (show (0:Int) < ((17:Nat):Int) by omega)
   refine W08 ?_
   rw [h17]
   refine A8 ?_
   repeat' (first|refine OE a7 KN ?_|(apply aS;refine aR ?_)|fail)
   rw [h17]
   refine A8 ?_
   rw [show (z.tmod ((17:Nat):Int)+((17:Nat):Int)).tmod ((17:Nat):Int)=z % 17 from Al (by omega)]
   repeat' (first|refine OE a7 KN ?_|(apply aV;first|refine aU a7 ?_|refine aN a7 ?_)|refine bO a7 ?_|fail)
   refine bA a7 [] rfl rfl rfl rfl (by rw [List.append_nil]) (by rw [htl];simp;omega) (by rw [htl];simp;omega) rfl fun q'=>?_
   rw [List.append_nil]
   refine W02 ?_
   have hst:(l.take (i+1)).map gJ=(l.take i).map gJ++[gJ z]:=by rw [List.take_add_one,hz,List.map_append];rfl
   exact aD (i+1,q') rfl ⟨by rw [Ov];rfl,by rw [hst];dsimp only;rw [show aL ((l.take i).map gJ++[gJ z])=aL ((l.take i).map gJ)++[[aG (gJ z)]] from List.map_append ..];rfl,trivial⟩ ⟨by dsimp only;omega,by dsimp only;omega⟩ (by dsimp only;omega) (fun _ _ h=>by dsimp only;rw [hst];rw [show aL ((l.take i).map gJ++[gJ z])=aL ((l.take i).map gJ)++[[aG (gJ z)]] from List.map_append ..];exact h)
  ·have h20:i=20:=by have:=Ox h;omega
   rw [hfin (.inr h20)]
   refine W01 ?_
   exact b7 (bq (t:=2) (c':= .imm 1 (aL (jU l))) rfl fun σ v h=>VR.im h) (OL NZ)
 ·rw [decide_eq_false (show ¬(i:Int) < (((aL l).length:Nat):Int) by omega)]
  rw [hfin (.inl (by omega))]
  refine W0Q ?_
  exact b7 (bq (t:=2) (c':= .imm 1 (aL (jU l))) rfl fun σ v h=>VR.im h) (OL NZ)
def J1 (f:aY) (l:List Int):Nat→List ByteArray
 | 0=>[]
 | k+1=>J1 f l k++(match f.Features[k]?,l[k]? with | some t,some z=>if z.tmod 3≠0 then [t.Name] else [] | _,_=>[])
def Nx (bs:List Int):List Int:=jU (bs.take 40)
def Nw (f:aY) (bs:List Int):List ByteArray:=J1 f bs f.Features.length
def Mp (ns:List Int):aY:=pJ (ns.take 300)
end Go.Proofs.YtamjlkdanllgjaaGreatDoor
namespace Go.Proofs.YtamjlkdanllgjaaGreatDoor
open Go.RowKit
attribute [local irreducible] AT bF AX AO Av Kt b8 d9 DA cu
set_option maxRecDepth 8000
theorem BY (l:List Int):bH Tryz.prog 8 [.imm 1 (aL l)] (cR (pJ (l.take 300))):=by
 refine aQ Tryz.func8 rfl Tryz.ntmps8 rfl fun B=>?_
 refine cV 0 rfl rfl fun hl=>?_
 have hil:=aP l
 refine W1q ?_
 intros
 refine Kh a7 (min l.length 300) rfl rfl rfl rfl rfl (by omega) (by omega) rfl ?_
 have ht:l.take (min l.length 300)=l.take 300:=by
  rcases Nat.le_total l.length 300 with h | h
  ·rw [Nat.min_eq_left h,List.take_length,List.take_of_length_le h]
  ·rw [Nat.min_eq_right h]
 rw [show (aL l).take (min l.length 300)=aL (l.take 300) from by rw [←ht];unfold aL;rw [List.map_take]]
 refine b9 (hc:=⟨EI (l.take 300) (by rw [List.length_take];omega)⟩) ?_
 refine W15 ?_
 exact zm a7 0 rfl rfl rfl rfl rfl rfl
def Mw (gs:List bn) (i:Nat):List bn:=(gs.take i).map jp++gs.drop i
def Mt (f:aY):aY:={ f with Glyphs:=f.Glyphs.map jp,Axes:=[],Regions:=[] }
set_option maxRecDepth 8000
def Jm (run:List bv) (L0:AL):AV→AL→Prop:=fun c L=>∃q,kM q run∧c=f7 q run∧L=eT q run++L0
theorem HX (cs:List AV) (q:Option pZ) (run:List bv) (hq:kM q run) (hr:run.length≤1000000):AC Tryz.prog 62 [.iptr cs,.imm 1 (aL []),.imm 1 (aZ []),f7 q run] (eT q run++[]) (Jm run []):=by
 refine aQ Tryz.func62 rfl Tryz.ntmps62 rfl fun B=>?_
 have hcl:=JS run hr
 refine bM (pa (t:=3) hq rfl) ?_
 refine W01 ?_
 refine bh [] [] hcl rfl rfl (Ok _) rfl fun c L1 ⟨q',hq',hc,hL⟩=>?_
 subst hc;subst hL
 refine W03 ?_
 refine aJ [2,9,17,18] (α:=Unit) (fun _=>[(19,aG 0),(3,f7 q' run)]) (fun _=>True) (fun _=>eT q' run++[]) (fun _=>0) () rfl ⟨rfl,rfl,trivial⟩ trivial (fun _ _ h=>h) ?_
 rintro ⟨⟩ -
 try dsimp only [Oq,Oo,Om,Oh]
 refine W0m ?_
 exact OK KN ⟨q',hq',rfl,rfl⟩
set_option maxRecDepth 8000
def q8 (f:aY) (x:bv):bv:={ x with Advance:=((f.Glyphs[x.Glyph.toNat]?).map bn.Advance).getD 0 }
abbrev x6 (f f2:aY) (u:AV):AB:= .box (cf f++cf f2++[u]) 112
theorem zl {P:Program} {r:Option Nat} {C:Code} {Q:Exit→Act→World→Prop} {nt:Nat} {D:List Deferred} {fr:bZ} {B:Bs} {L L':AL} (hs:L'.Sublist L) (h:AT P r C Q nt D fr B L'):AT P r C Q nt D fr B L:=bM (bS hs) h
theorem th {u:AV} {y:bv} (junk:List AV):∀{r:List bv} {i j:Nat} {x:bv},r[i]?=some x→j < 6→dw y=(dw x).set j u→(eH r++junk).set (i * 6+j) u=eH (r.set i y)++junk
 | [],i,_,_,h,_,_=>by simp at h
 | z::r,0,j,x,h,hj,hy=>by
  simp at h
  subst h
  rw [List.set_cons_zero,gN,gN,List.append_assoc,Nat.zero_mul,Nat.zero_add,List.set_append_left _ _ (show j < (dw z).length from hj),hy,List.append_assoc]
 | z::r,i+1,j,x,h,hj,hy=>by
  have:=th junk (r:=r) (i:=i) (by simpa using h) hj hy
  rw [List.set_cons_succ,gN,gN,List.append_assoc,List.append_assoc,List.set_append_right _ _ (show (dw z).length≤(i+1) * 6+j by show 6≤_;omega),←this]
  congr 2
  show (i+1) * 6+j - 6=_
  omega
def qL (f:aY) (run:List bv) (i:Nat):List bv:=(run.take i).map (q8 f)++run.drop i
theorem Di (f:aY) (run:List bv) (i:Nat):(qL f run i).length=run.length:=by
 unfold qL
 rw [List.length_append,Ou,List.length_take,List.length_drop]
 omega
theorem Dh {f:aY} {run:List bv} {i:Nat} {x:bv} (h:run[i]?=some x):(qL f run i)[i]?=some x:=by
 have hi:=(Ol h).1
 have hl:((run.take i).map (q8 f)).length=i:=by rw [Ou,List.length_take];omega
 unfold qL
 rw [List.getElem?_append_right (by omega),hl,Nat.sub_self,List.getElem?_drop,Nat.add_zero]
 exact h
theorem Dj {f:aY} {run:List bv} {i:Nat} {x:bv} (h:run[i]?=some x):(qL f run i).set i (q8 f x)=qL f run (i+1):=by
 have hi:=(Ol h).1
 have hl:((run.take i).map (q8 f)).length=i:=by rw [Ou,List.length_take];omega
 unfold qL
 rw [List.set_append_right _ _ (by omega),hl,Nat.sub_self,List.take_add_one,h,List.map_append,List.drop_eq_getElem_cons hi,List.set_cons_zero,List.append_assoc]
 rfl
theorem IY {α:Type} {s:α} {A C U:List α}:(A++(s::(C++U))).Perm (C++(A++(s::U))):=by
 refine ((List.perm_middle (a:=s) (l₁:=C) (l₂:=U)).symm.append_left A).trans ?_
 rw [←List.append_assoc,←List.append_assoc]
 exact List.perm_append_comm.append_right _
theorem M8 {α:Type} {s:α} {A C U:List α}:(C++(A++(s::U))).Perm (s::(A++(C++U))):=IY.symm.trans List.perm_middle
set_option maxHeartbeats 16000000 in
theorem CD (f f2:aY) (rs:List Int) (want:List ByteArray) (u:AV) (sb:Nat) (Lu:AL) (hr:rs.length≤1000000) (h20:qG rs) (hc:f.Chars.length≤1000000) (hF:f.Features.length≤1000000) (hp:(bP want f.Features).length≤1000000)
  (hk:∀l∈cx want f,0≤l∧∃q,f.Lookups[l.toNat]?=some q∧1≤q.Kind∧q.Kind≤5) (run:List bv) (hu:∀q,kM q (cC f rs)→ju Tryz.prog u [.imm 1 (aL (cx want f)),.imm 1 (aZ (fw want f)),f7 q (cC f rs)] (eT q (cC f rs)++Lu) (Jm run Lu)) (hrl:run.length≤1000000) (hG:∀x∈run,0≤x.Glyph∧x.Glyph < f2.Glyphs.length):
  AC Tryz.prog 38 [j4 sb,.imm 1 (aL rs),.imm 1 (fK want)] ((sb,x6 f f2 u)::Lu) fun c L=>c= .imm 6 ((run.map (q8 f2)).map dw)∧L=Lu:=by
 refine aQ Tryz.func38 rfl Tryz.ntmps38 rfl fun B=>?_
 haveI i0:=AD.mk (wF f want hF hp)
 have hst:=wU f rs hr h20 hc
 have hpll:(cx want f).length≤1000000:=by
  have:=g7 (ng (bP want f.Features))
  have:=qn (bP want f.Features)
  unfold cx;omega
 have hpfl:(fw want f).length=(cx want f).length:=by unfold fw;rw [Ou]
 have hil:=aP (cx want f)
 have hfl:=cr (fw want f)
 refine W05 ?_
 rw [show AV.agg (List.take 9 (List.drop (0+0) (cf f++cf f2++[u])))=cR f from rfl]
 refine W0U ?_
 refine bM (bq (t:=7) rfl fun σ v h=>cM 1 h) ?_
 refine bM (bq (t:=9) rfl fun σ v h=>cM 1 h) ?_
 refine aJ [0,1,11,27,28] (α:=Nat×Option (Nat×Nat)×Option (Nat×Nat)) (fun s=>[(7,.vec s.2.1 1 (aL ((cx want f).take s.1))),(9,.vec s.2.2 1 (aZ ((fw want f).take s.1))),(8,.sc (.slice none 0 0)),(29,aG s.1)]) (fun s=>s.1≤(cx want f).length) (fun s=>(sb,x6 f f2 u)::(tok s.2.1 3 1 s.1++(tok s.2.2 22 1 s.1++Lu))) (fun s=>(cx want f).length - s.1) (0,none,none) rfl ⟨rfl,rfl,rfl,rfl,trivial⟩ (Nat.zero_le _) (fun _ _ h=>h) ?_
 rintro ⟨i,k1,k2⟩ hi
 dsimp only at hi ⊢
 try dsimp only [Oq,Oo,Om,Oh]
 refine W01 ?_
 refine aw rfl (fun h=>?_) (fun h=>?_)
 ·have hil:i < (cx want f).length:=by have:=Oy h;omega
  obtain ⟨z,hz⟩:∃z,(cx want f)[i]?=some z:=⟨_,Oz hil⟩
  obtain ⟨y,hy⟩:∃z,(fw want f)[i]?=some z:=⟨_,Oz (by omega)⟩
  have hzg:=bD hz
  have hyg:=iD hy
  obtain ⟨h0,lk,hlk,hk1,hk5⟩:=hk z (Ow hz)
  have hlg:=c7 (c:=bC) hlk
  clear h
  refine W0n ?_
  refine iu (α:=Unit) [0,1,7,8,9,11,12,13,27,28,29,47] (fun _=>[(0,j4 sb),(1,.imm 1 (aL rs)),(7,.vec k1 1 (aL (List.take i (cx want f)))),(8,.sc (.slice none 0 0)),(9,.vec k2 1 (aZ (List.take i (fw want f)))),(11,.imm 1 (aZ (fw want f))),(12,aG i),(13,aG z),(27,.imm 1 (aL (cx want f))),(28,.sc (.int .i64 ((aL (cx want f)).length:Int))),(29,aG i),(47,cU true)]) (fun _=>(sb,x6 f f2 u)::(tok k1 3 1 i++(tok k2 22 1 i++Lu))) (fun _=>True) (fun Q' K=>?_) (fun _ _=>?_)
  ·have hkk:lk.Kind=1∨lk.Kind=2∨lk.Kind=3∨lk.Kind=4∨lk.Kind=5:=by omega
   rcases hkk with e | e | e | e | e <;> rw [e]
   all_goals
    repeat' (first|refine O1 ?_|refine OE a7 KN ?_|refine bT rfl ?_|refine bj rfl ?_)
    exact K () _ trivial rfl
  have htl:(aL (List.take i (cx want f))).length=i:=by rw [aP,List.length_take];omega
  have htf:(aZ (List.take i (fw want f))).length=i:=by rw [cr,List.length_take];omega
  have hs1:aL (List.take (i+1) (cx want f))=aL (List.take i (cx want f))++[[aG z]]:=by rw [List.take_add_one,hz];unfold aL;rw [List.map_append];rfl
  have hs2:aZ (List.take (i+1) (fw want f))=aZ (List.take i (fw want f))++[[.imm 1 (aL y)]]:=by rw [List.take_add_one,hy];simp [aZ]
  refine W0X ?_
  refine bA a7 ((sb,x6 f f2 u)::(tok k2 22 1 i++Lu)) rfl rfl rfl rfl (by rw [htl];exact List.perm_middle.symm) (by rw [htl];simp;omega) (by rw [htl];simp;omega) rfl fun k1'=>?_
  rw [show (aL (List.take i (cx want f))++[[aG z]]).length=i+1 by rw [List.length_append,htl];rfl]
  refine W1d ?_
  refine bA a7 (tok k1' 3 1 (i+1)++(sb,x6 f f2 u)::Lu) rfl rfl rfl rfl (by rw [htf];exact IY) (by rw [htf];simp;omega) (by rw [htf];simp;omega) rfl fun k2'=>?_
  rw [show (aZ (List.take i (fw want f))++[[AV.imm 1 (aL y)]]).length=i+1 by rw [List.length_append,htf];rfl]
  refine W02 ?_
  exact aD (i+1,k1',k2') rfl ⟨by dsimp only;rw [hs1];rfl,by dsimp only;rw [hs2];rfl,rfl,by rw [Ov];rfl,trivial⟩ hil (by dsimp only;omega) (fun _ _ h=>h.perm M8)
 ·have hil2:i=(cx want f).length:=by have:=Ox h;omega
  subst hil2
  rw [List.take_length,List.take_of_length_le (Nat.le_of_eq hpfl)]
  clear h
  repeat' (first|refine O1 ?_|fail)
  refine bM (bq (t:=7) (c':= .imm 1 (aL (cx want f))) rfl fun σ v h=>VR.im h) ?_
  refine bM (bq (t:=9) (c':= .imm 1 (aZ (fw want f))) rfl fun σ v h=>VR.im h) ?_
  refine zl (L':=(sb,x6 f f2 u)::Lu) (List.Sublist.cons_cons _ ((List.sublist_append_right _ _).trans (List.sublist_append_right _ _))) ?_
  repeat' (first|fail)
  refine dE [.cell (sb,18,u)] 12 [(0,.v),(1,.v),(2,.v),(3,.k),(4,.v),(5,.v),(6,.v),(7,.v),(8,.v),(9,.l),(10,.v),(11,.f)] none ?_ trivial rfl (by kernel_rfl) (by kernel_rfl) (by kernel_rfl) mixed (by kernel_rfl) rfl
  refine W06 ?_
  refine dU a7 0 rfl rfl rfl (nB 0 rfl rfl) (by first | trivial | rfl) ?_
  repeat' (first|refine aE ?_|refine b6 a7 ?_|refine qm a7 0 rfl rfl rfl rfl (by first|trivial|rfl) ?_)
  rw [show AV.agg (List.take 9 (List.drop (0+0) (cf f++cf f2++[u])))=cR f from rfl]
  repeat' (first|fail)
  refine ue [] ((sb,x6 f f2 u)::Lu) hst rfl rfl (Ok _) trivial (fun c L1 ⟨q,_,_,hL1⟩ _=>by
   subst hL1
   exact nB (eT q (cC f rs)).length (by rw [List.getElem?_append_right (Nat.le_refl _),Nat.sub_self];rfl) rfl) fun c L1 ⟨q,hq,hc1,hL1⟩=>?_
  subst hc1;subst hL1
  repeat' (first|fail)
  refine OO [0,8,68,69,70,76] KN ?_
  repeat' (first|fail)
  refine ix (eT q (cC f rs)++Lu) [(sb,x6 f f2 u)] (hu q hq) rfl rfl ?_ rfl rfl fun c L1 ⟨q2,hq2,hc2,hL2⟩=>?_
  ·rw [List.append_assoc]
   exact (List.perm_append_comm (l₁:=[_])).append_left _
  subst hc2;subst hL2
  refine aX (aW (L':=eT q2 run++((sb,x6 f f2 u)::Lu)) (by rw [List.append_assoc];exact (List.perm_append_comm (l₁:=Lu)).append_left _)) ?_
  clear hst hu i0
  cases q2 with
  | none=>
   have he:=hq2.emp rfl
   subst he
   unfold f7 eT
   dsimp only
   refine W03 ?_
   refine aJ [0,8,14,79] (α:=Unit) (fun _=>[(80,aG 0),(14,.imm 6 [])]) (fun _=>True) (fun _=>[]++((sb,x6 f f2 u)::Lu)) (fun _=>0) () rfl ⟨rfl,rfl,trivial⟩ trivial (fun _ _ h=>h) ?_
   rintro ⟨⟩ -
   try dsimp only [Oq,Oo,Om,Oh]
   refine W1f ?_
   refine aJ [0,101,102] (α:=Unit) (fun _=>[(103,aG 0),(14,.imm 6 [])]) (fun _=>True) (fun _=>[]++((sb,x6 f f2 u)::Lu)) (fun _=>0) () rfl ⟨rfl,rfl,trivial⟩ trivial (fun _ _ h=>h) ?_
   rintro ⟨⟩ -
   try dsimp only [Oq,Oo,Om,Oh]
   refine W0m ?_
   refine du (L':=Lu) (List.sublist_cons_self _ _) ?_
   exact OK KN ⟨rfl,rfl⟩
  | some m=>
   obtain ⟨m1,m2,m3⟩:=hq2.fit m rfl
   unfold f7 eT
   dsimp only
   refine W03 ?_
   refine aJ [0,8,14,79] (α:=Nat) (fun i=>[(80,aG i),(14,.sc (.slice (some ⟨m.rb,0,none⟩) run.length m.cap))]) (fun i=>i≤run.length) (fun i=>[(m.rb,.box (eH (qL f2 run i)++m.junk) 56)]++((sb,x6 f f2 u)::Lu)) (fun i=>run.length - i) 0 rfl ⟨rfl,rfl,trivial⟩ (Nat.zero_le _) (fun _ _ h=>h) fun i hi=>?_
   try dsimp only [Oq,Oo,Om,Oh]
   refine W01 ?_
   refine aw rfl (fun h=>?_) (fun h=>?_)
   ·have hil:i < run.length:=by have:=Oy h;omega
    obtain ⟨x,hx⟩:∃z,run[i]?=some z:=⟨_,Oz hil⟩
    obtain ⟨g1,g2⟩:=hG x (Ow hx)
    obtain ⟨g,hg⟩:∃z,f2.Glyphs[x.Glyph.toNat]?=some z:=⟨_,Oz (by omega)⟩
    have hgg:=c7 (c:=bG) hg
    have hxr:=Dh (f:=f2) hx
    have hset:=Dj (f:=f2) hx
    have hal:=Di f2 run i
    have hadv:q8 f2 x={ x with Advance:=g.Advance }:=by unfold q8;rw [hg];rfl
    rw [hadv] at hset
    have hfx:=LB m.junk hxr (j:=0) rfl
    have hput:=th m.junk hxr (j:=3) (u:=aG g.Advance) (y:={ x with Advance:=g.Advance }) (by omega) rfl
    rw [hset] at hput
    generalize qL f2 run i=rr at *
    clear h
    refine W03 ?_
    refine bk 15 [(0,.v),(1,.v),(2,.v),(3,.v),(4,.v),(5,.v),(6,.l),(7,.v),(8,.v),(9,.v),(10,.v),(11,.l),(12,.v),(13,.v),(14,.v)] none ?_ trivial rfl (by kernel_rfl) (by kernel_rfl) (by kernel_rfl) mixed (by kernel_rfl) rfl
    refine W0Z ?_
    refine c5 a7 rfl rfl rfl ⟨by omega,by omega⟩ trivial ?_
    refine W06 ?_
    refine cW a7 0 rfl rfl rfl hfx (by first | trivial | rfl) ?_
    refine W0l ?_
    refine OO [0,8,14,79,80,83,84,97] KN ?_
    refine W0V ?_
    refine gt a7 0 (i * 6+3) rfl rfl (by show 0+((i:Nat):Int).toNat * 6+3=_;rw [Int.toNat_natCast,Nat.zero_add]) rfl rfl rfl (by rw [List.length_append,jB];omega) ?_
    rw [hput]
    refine W02 ?_
    exact aD (i+1) rfl ⟨by rw [Ov];rfl,rfl,trivial⟩ hil (by omega) (fun _ _ h=>h)
   ·have hil:i=run.length:=by have:=Ox h;omega
    subst hil
    have hall:qL f2 run run.length=run.map (q8 f2):=by unfold qL;rw [List.take_length,List.drop_length,List.append_nil]
    rw [hall]
    clear h
    refine W03 ?_
    refine aJ [0,101,102] (α:=Unit) (fun _=>[(103,aG 0),(14,.sc (.slice (some ⟨m.rb,0,none⟩) run.length m.cap))]) (fun _=>True) (fun _=>(m.rb,.box (eH (run.map (q8 f2))++m.junk) 56)::((sb,x6 f f2 u)::Lu)) (fun _=>0) () rfl ⟨rfl,rfl,trivial⟩ trivial (fun _ _ h=>h) ?_
    rintro ⟨⟩ -
    try dsimp only [Oq,Oo,Om,Oh]
    refine W0m ?_
    have hml:(run.map (q8 f2)).length=run.length:=Ou ..
    refine b7 (pa (t:=6) (q:=some m) (run:=run.map (q8 f2)) (Lf:=(sb,x6 f f2 u)::Lu) ⟨fun h=>(by cases h),fun m' hm=>?_⟩ (by unfold f7;dsimp only;rw [hml];rfl)) ?_
    ·cases hm
     rw [List.length_append,jB] at m3 ⊢
     rw [hml]
     exact ⟨m1,m2,m3⟩
    refine du (L':=Lu) (List.sublist_cons_self _ _) ?_
    exact OK KN ⟨rfl,rfl⟩
set_option maxRecDepth 8000
section
variable {α:Type} [BEq α] [LawfulBEq α]
def ek (t:List α) (z:α):List α:=if t.contains z=true then t else t++[z]
theorem fS {t:List α} {z:α} (h:z∈t):ek t z=t:=if_pos (List.contains_iff_mem.2 h)
theorem gA {t:List α} {z:α} (h:z∉t):ek t z=t++[z]:=if_neg fun e=>h (List.contains_iff_mem.1 e)
theorem lF (t:List α) (z:α):z∈ek t z:=by
 by_cases h:z∈t
 ·rw [fS h];exact h
 ·rw [gA h];simp
theorem wV {t:List α} {x:α} (z:α) (h:x∈t):x∈ek t z:=by
 by_cases hz:z∈t
 ·rw [fS hz];exact h
 ·rw [gA hz];simp [h]
theorem su {t:List α} {x:α} (z:α) (h:x∈t):(ek t z).idxOf x=t.idxOf x:=by
 by_cases hz:z∈t
 ·rw [fS hz]
 ·rw [gA hz,List.idxOf_append,if_pos h]
theorem o7 {t:List α} {z:α} (h:z∉t):(ek t z).idxOf z=t.length:=by
 rw [gA h,List.idxOf_append,if_neg h,List.idxOf_cons_self,Nat.zero_add]
theorem Im {t:List α} {z:α}:(ek t z)[(ek t z).idxOf z]?=some z:=by
 have h:=List.idxOf_lt_length_of_mem (lF t z)
 rw [Oz h,List.getElem_idxOf]
theorem o6 {t:List α} {x:α} {i:Nat} (z:α) (h:t[i]?=some x):(ek t z)[i]?=some x:=by
 by_cases hz:z∈t
 ·rw [fS hz];exact h
 ·rw [gA hz,List.getElem?_append_left (Ol h).1];exact h
theorem mP {t:List α} (z:α) (h:t.Nodup):(ek t z).Nodup:=by
 by_cases hz:z∈t
 ·rw [fS hz];exact h
 ·rw [gA hz,List.nodup_append]
  exact ⟨h,by simp,fun a ha b hb=>by rw [List.mem_singleton] at hb;subst hb;exact fun e=>hz (e▸ha)⟩
theorem sv (t:List α) (z:α):t.length≤(ek t z).length∧(ek t z).length≤t.length+1:=by
 by_cases hz:z∈t
 ·rw [fS hz];omega
 ·rw [gA hz,List.length_append,List.length_singleton];omega
theorem zO {t:List α} {x y:α} (hx:x∈t) (hy:y∈t) (h:t.idxOf x=t.idxOf y):x=y:=by
 have h1:=List.getElem_idxOf (List.idxOf_lt_length_of_mem hx)
 have h2:=List.getElem_idxOf (List.idxOf_lt_length_of_mem hy)
 rw [←h1,←h2]
 congr 1
end
def iU (k:Int) (st:List Int×List Int) (g:Int):List Int×List Int:=
 (st.1.set g.toNat (k+((ek st.2 (st.1.getD g.toNat 0)).idxOf (st.1.getD g.toNat 0):Nat)),ek st.2 (st.1.getD g.toNat 0))
def ky (st:List Int×Int) (s:List Int):List Int×Int:=((s.foldl (iU st.2) (st.1,[])).1,st.2+(s.foldl (iU st.2) (st.1,[])).2.length)
def nN (n:Nat) (sets:List (List Int)):List Int×Int:=sets.foldl ky (List.replicate n 0,1)
structure qj (c0:List Int) (k:Int) (p:List Int) (st:List Int×List Int):Prop where
 len:st.1.length=c0.length
 nodup:st.2.Nodup
 few:st.2.length≤p.length
 at_:∀(i:Nat) z,c0[i]?=some z→((i:Int)∈p∧z∈st.2∧st.1[i]?=some (k+(st.2.idxOf z:Nat)))∨((i:Int)∉p∧st.1[i]?=some z)
theorem uA {c0:List Int} {k:Int} {p:List Int} {st:List Int×List Int} (h:qj c0 k p st) {g:Int} (h0:0≤g) (hl:g < c0.length) (hn:g∉p):qj c0 k (p++[g]) (iU k st g):=by
 obtain ⟨z,hz⟩:∃z,c0[g.toNat]?=some z:=⟨_,Oz (by omega)⟩
 have hg0:((g.toNat:Nat):Int)=g:=Int.toNat_of_nonneg h0
 have hzs:st.1[g.toNat]?=some z:=by
  rcases h.at_ g.toNat z hz with ⟨h1,_⟩ | ⟨_,h2⟩
  ·rw [hg0] at h1;exact absurd h1 hn
  ·exact h2
 have hzd:st.1.getD g.toNat 0=z:=by rw [List.getD_eq_getElem?_getD,hzs];rfl
 unfold iU
 rw [hzd]
 refine ⟨by rw [List.length_set];exact h.len,mP _ h.nodup,?_,fun i y hy=>?_⟩
 ·have:=h.few
  rw [List.length_append,List.length_singleton]
  have h2:=(sv st.2 z).2
  dsimp only
  omega
 ·by_cases hi:i=g.toNat
  ·subst hi
   rw [hz] at hy
   cases hy
   refine Or.inl ⟨by rw [hg0];simp,lF _ _,?_⟩
   dsimp only
   rw [List.getElem?_set_self (by rw [h.len];omega)]
  ·have hne:g.toNat≠i:=fun e=>hi e.symm
   have hne2:(i:Int)≠g:=fun e=>hi (by omega)
   dsimp only
   rw [List.getElem?_set_ne hne]
   rcases h.at_ i y hy with ⟨h1,h2,h3⟩ | ⟨h1,h2⟩
   ·exact Or.inl ⟨List.mem_append_left _ h1,wV _ h2,by rw [h3,su _ h2]⟩
   ·exact Or.inr ⟨by simp [h1,hne2],h2⟩
theorem pL {c0:List Int} {k:Int}:∀{s p:List Int} {st:List Int×List Int},qj c0 k p st→(∀g∈s,0≤g∧g < c0.length)→(p++s).Nodup→qj c0 k (p++s) (s.foldl (iU k) st)
 | [],p,st,h,_,_=>by rw [List.append_nil];exact h
 | g::s,p,st,h,hd,hn=>by
  have hg:=hd g (by simp)
  have hgp:g∉p:=fun hp=>by
   rw [List.nodup_append] at hn
   exact hn.2.2 g hp g (by simp) rfl
  have:=pL (s:=s) (uA h hg.1 hg.2 hgp) (fun x hx=>hd x (by simp [hx])) (by rw [List.append_assoc];exact hn)
  rw [List.append_assoc] at this
  exact this
structure mV (n:Nat) (done:List (List Int)) (st:List Int×Int):Prop where
 len:st.1.length=n
 dom:∀z∈st.1,0≤z∧z < st.2
 pos:0≤st.2
 apart:∀s∈done,∀(i j:Nat) z,st.1[i]?=some z→st.1[j]?=some z→((i:Int)∈s↔(j:Int)∈s)
theorem uO {n:Nat} {done:List (List Int)} {st:List Int×Int} (h:mV n done st) {s:List Int} (hd:∀g∈s,0≤g∧g < (n:Int)) (hn:s.Nodup):mV n (done++[s]) (ky st s):=by
 have hm:=pL (c0:=st.1) (k:=st.2) (s:=s) (p:=[]) (st:=(st.1,[])) ⟨rfl,by simp,by simp,fun i z hz=>Or.inr ⟨by simp,hz⟩⟩ (fun g hg=>by rw [h.len];exact hd g hg) (by simpa using hn)
 rw [Oo] at hm
 unfold ky
 generalize s.foldl (iU st.2) (st.1,[])=r at hm
 have hp:=h.pos
 have get:∀{i:Nat} {z:Int},r.1[i]?=some z→∃y,st.1[i]?=some y∧(0≤y∧y < st.2)∧(((i:Int)∈s∧y∈r.2∧z=st.2+(r.2.idxOf y:Nat))∨((i:Int)∉s∧z=y)):=by
  intro i z hz
  have hi:=(Ol hz).1
  rw [hm.len] at hi
  obtain ⟨y,hy⟩:∃y,st.1[i]?=some y:=⟨_,Oz hi⟩
  refine ⟨y,hy,h.dom y (Ow hy),?_⟩
  rcases hm.at_ i y hy with ⟨h1,h2,h3⟩ | ⟨h1,h2⟩
  ·rw [hz] at h3
   cases h3
   exact Or.inl ⟨h1,h2,rfl⟩
  ·rw [hz] at h2
   cases h2
   exact Or.inr ⟨h1,rfl⟩
 refine ⟨by rw [←h.len];exact hm.len,fun z hz=>?_,by dsimp only;omega,fun t ht i j z hi hj=>?_⟩
 ·obtain ⟨i,hi⟩:=List.mem_iff_getElem?.1 hz
  obtain ⟨y,_,⟨h1,h2⟩,h3⟩:=get hi
  dsimp only
  rcases h3 with ⟨_,h4,h5⟩ | ⟨_,h5⟩
  ·have:=List.idxOf_lt_length_of_mem h4
   omega
  ·omega
 ·obtain ⟨y,hy,hy0,hy1⟩:=get hi
  obtain ⟨x,hx,hx0,hx1⟩:=get hj
  have hxy:x=y∧((i:Int)∈s↔(j:Int)∈s):=by
   rcases hy1 with ⟨a1,a2,a3⟩ | ⟨a1,a2⟩ <;> rcases hx1 with ⟨b1,b2,b3⟩ | ⟨b1,b2⟩
   ·exact ⟨zO b2 a2 (by omega),by simp [a1,b1]⟩
   ·omega
   ·omega
   ·exact ⟨by omega,by simp [a1,b1]⟩
  rw [List.mem_append,List.mem_singleton] at ht
  rcases ht with ht | rfl
  ·exact h.apart t ht i j y hy (hxy.1▸hx)
  ·exact hxy.2
theorem pP {n:Nat}:∀{sets done:List (List Int)} {st:List Int×Int},mV n done st→(∀s∈sets,(∀g∈s,0≤g∧g < (n:Int))∧s.Nodup)→mV n (done++sets) (sets.foldl ky st)
 | [],done,st,h,_=>by rw [List.append_nil];exact h
 | s::sets,done,st,h,hd=>by
  have:=pP (sets:=sets) (uO h (hd s (by simp)).1 (hd s (by simp)).2) fun x hx=>hd x (by simp [hx])
  rw [List.append_assoc] at this
  exact this
theorem mL {n:Nat} {sets:List (List Int)} (h:∀s∈sets,(∀g∈s,0≤g∧g < (n:Int))∧s.Nodup):mV n sets (nN n sets):=by
 have:=pP (sets:=sets) (done:=[]) (st:=(List.replicate n 0,1)) ⟨by simp,fun z hz=>by rw [(List.mem_replicate.1 hz).2];omega,by dsimp only;omega,fun s hs=>by cases hs⟩ h
 rwa [Oo] at this
def j5 (l:List Int):List Int:=l.foldl ek []
theorem jT (l:List Int) (z:Int):j5 (l++[z])=ek (j5 l) z:=by simp [j5]
theorem o9 {P:List Int→Prop} (h0:P []) (h:∀l z,P l→P (l++[z])) (l:List Int):P l:=by
 have:∀(n:Nat) (l:List Int),l.length=n→P l:=by
  intro n
  induction n with
  | zero=>intro l hl;rw [List.length_eq_zero_iff.1 hl];exact h0
  | succ n ih=>
   intro l hl
   have hne:l≠[]:=fun e=>by rw [e] at hl;simp at hl
   rw [←List.dropLast_concat_getLast hne]
   exact h _ _ (ih _ (by rw [List.length_dropLast];omega))
 exact this _ l rfl
theorem o8 (l:List Int):∀z∈l,z∈j5 l:=by
 refine o9 (P:=fun l=>∀z∈l,z∈j5 l) (fun z hz=>by cases hz) (fun l y ih z hz=>?_) l
 rw [jT]
 rw [List.mem_append,List.mem_singleton] at hz
 rcases hz with hz | rfl
 ·exact wV _ (ih z hz)
 ·exact lF _ _
theorem yR (l:List Int):(j5 l).Nodup:=by
 refine o9 (P:=fun l=>(j5 l).Nodup) (by simp [j5]) (fun l y ih=>?_) l
 rw [jT]
 exact mP _ ih
theorem FT (l:List Int):(j5 l).length≤l.length:=by
 refine o9 (P:=fun l=>(j5 l).length≤l.length) (by simp [j5]) (fun l y ih=>?_) l
 rw [jT,List.length_append,List.length_singleton]
 have:=(sv (j5 l) y).2
 omega
def gB (l:List Int):List Int:=l.map fun z=>((j5 l).idxOf z:Nat)
theorem yW (l:List Int) (z:Int):gB (l++[z])=gB l++[(((ek (j5 l) z).idxOf z:Nat):Int)]:=by
 unfold gB
 rw [jT,List.map_append]
 congr 1
 refine List.map_congr_left fun y hy=>?_
 rw [su _ (o8 l y hy)]
theorem gV (l:List Int):(gB l).length=l.length:=by simp [gB]
def eg (n:Nat) (sets:List (List Int)):List Int:=gB (nN n sets).1
def gH (l:List Int):Int:=l.foldl (fun m z=>max m (z+1)) 0
theorem rK:∀{l:List Int} {m:Int},m≤l.foldl (fun m z=>max m (z+1)) m∧∀z∈l,z < l.foldl (fun m z=>max m (z+1)) m
 | [],m=>⟨Int.le_refl _,fun z hz=>by cases hz⟩
 | a::l,m=>by
  obtain ⟨h1,h2⟩:=rK (l:=l) (m:=max m (a+1))
  rw [List.foldl_cons]
  refine ⟨by omega,fun z hz=>?_⟩
  rw [List.mem_cons] at hz
  rcases hz with rfl | hz
  ·omega
  ·exact h2 z hz
theorem tE:∀{l:List Int} {m k:Int},m≤k→(∀z∈l,z < k)→l.foldl (fun m z=>max m (z+1)) m≤k
 | [],_,_,h,_=>h
 | a::l,m,k,h,hl=>by
  rw [List.foldl_cons]
  exact tE (by have:=hl a (by simp);omega) fun z hz=>hl z (by simp [hz])
theorem tK (n:Nat) (sets:List (List Int)) (h:∀s∈sets,(∀g∈s,0≤g∧g < (n:Int))∧s.Nodup):(eg n sets).length=n:=by
 unfold eg
 rw [gV]
 exact (mL h).len
theorem tJ (n:Nat) (sets:List (List Int)) (h:∀s∈sets,(∀g∈s,0≤g∧g < (n:Int))∧s.Nodup):∀z∈eg n sets,0≤z∧z < n:=by
 intro z hz
 have hl:=(mL h).len
 unfold eg gB at hz
 obtain ⟨y,hy,rfl⟩:=List.mem_map.1 hz
 have h1:=List.idxOf_lt_length_of_mem (o8 _ y hy)
 have h2:=FT (nN n sets).1
 omega
theorem wD (n:Nat) (sets:List (List Int)) (h:∀s∈sets,(∀g∈s,0≤g∧g < (n:Int))∧s.Nodup):vi n (gH (eg n sets)).toNat (eg n sets) sets:=by
 refine ⟨tK n sets h,fun z hz=>?_,fun s hs i j z hi hj=>?_⟩
 ·have h1:=(tJ n sets h z hz).1
  have h2:=(rK (l:=eg n sets) (m:=0)).2 z hz
  unfold gH
  omega
 ·unfold eg gB at hi hj
  rw [List.getElem?_map,Option.map_eq_some_iff] at hi hj
  obtain ⟨x,hx,hx1⟩:=hi
  obtain ⟨y,hy,hy1⟩:=hj
  have hxy:x=y:=zO (o8 _ x (Ow hx)) (o8 _ y (Ow hy)) (by omega)
  subst hxy
  exact (mL h).apart s hs i j x hx hy
end Go.Proofs.YtamjlkdanllgjaaGreatDoor
namespace Go.Proofs.YtamjlkdanllgjaaGreatDoor
open Go.RowKit Go.MapKept
section
variable {P:Program} {fr:bZ} {B:Bs} {L:AL} {d:Option Tmp} {ty t:TypeId} {pos:String} {af:Array Edge} {g:Option (Nat×Bool)} {x y z:Operand} {u:AV}
theorem B2 (i:Nat) {b kt et:Nat} {kd:TypeDesc} {m:Value→Option AV} {ks:List Value} (ht:P.underlying t=some (.map kt et)) (hx:bw fr x=some (.sc (.map (some b)))) (hL:L[i]?=some (b,ci kd m)) (hn:ks.Pairwise (·≠ ·)) (hk:∀k,(m k).isSome=true↔k∈ks):
    AO P ⟨d,.call ⟨.builtin .len,#[x],#[t]⟩,ty,pos,af,g⟩ fr B L (fun c L'=>c= .sc (.int .i64 ks.length)∧L'=L):=by
  intro σ ρ w hρ hw
  obtain ⟨o,ho,hM⟩:=hw.here _ (Ow hL)
  have hM':jv kd m σ o:=hM
  obtain ⟨es,clock,rfl,h1,h2,h3⟩:=hM'
  have hl:es.size=ks.length:=by
    have key:∀(es:List MapEntry) (ks:List Value),es.Pairwise (fun x y=>x.key≠y.key)→ks.Pairwise (·≠ ·)→(∀k,(∃x∈es,x.key=k)↔k∈ks)→es.length=ks.length:=by
      intro es
      induction es with
      | nil=>
        intro ks _ _ h
        cases ks with
        | nil=>rfl
        | cons k ks=>obtain ⟨x,hx,_⟩:=(h k).2 (by simp);cases hx
      | cons e es ih=>
        intro ks he hks h
        obtain ⟨he1,he2⟩:=List.pairwise_cons.1 he
        obtain ⟨a,c,rfl⟩:=List.append_of_mem ((h e.key).1 ⟨e,by simp,rfl⟩)
        obtain ⟨p1,p2,p3⟩:=List.pairwise_append.1 hks
        obtain ⟨p4,p5⟩:=List.pairwise_cons.1 p2
        have:=ih (a++c) he2 (List.pairwise_append.2 ⟨p1,p5,fun x hx y hy=>p3 x hx y (by simp [hy])⟩) fun k=>by
          constructor
          · rintro ⟨x,hx,rfl⟩
            have hm:=(h x.key).1 ⟨x,by simp [hx],rfl⟩
            rw [List.mem_append,List.mem_cons] at hm
            rw [List.mem_append]
            rcases hm with hm | hm | hm
            · exact .inl hm
            · exact absurd hm.symm (he1 x hx)
            · exact .inr hm
          · intro hk
            obtain ⟨x,hx,hxk⟩:=(h k).2 (by rw [List.mem_append] at hk;rw [List.mem_append,List.mem_cons];rcases hk with hk | hk;exact .inl hk;exact .inr (.inr hk))
            rcases List.mem_cons.1 hx with rfl | hx
            · exfalso
              rw [List.mem_append] at hk
              rcases hk with hk | hk
              · exact p3 k hk _ (List.mem_cons_self ..) hxk.symm
              · exact p4 k hk hxk
            · exact ⟨x,hx,hxk⟩
        rw [List.length_cons,this,List.length_append,List.length_append,List.length_cons]
        omega
    have:=key es.toList ks h2 hn fun k=>by
      rw [←hk]
      constructor
      · rintro ⟨x,hx,rfl⟩
        obtain ⟨_,c,hc,_⟩:=h1 x hx
        rw [hc];rfl
      · intro h
        obtain ⟨c,hc⟩:=Option.isSome_iff_exists.1 h
        exact h3 k c hc
    simpa using this
  unfold i8
  have hg:=MapKept.run_getObj_map (P:=P) ho
  rw [show (execOp ρ ⟨d,.call ⟨.builtin .len,#[x],#[t]⟩,ty,pos,af,g⟩).run P w= .ok (.value (.int .i64 ks.length)) w by
    simp [execOp,resolve,(hρ x _ hx).sc_inv,invoke,builtin,Builtin.len_,run_underlying ht,hg,goInt,hl,Result.andThen]]
  exact ⟨σ,.sc _,_,cm.le_refl _,.sc _,hw,rfl,rfl⟩
end
section
variable {P:Program} {tt:TT} {r:Option Nat} {ops:Array Oper} {Q:Exit→Act→World→Prop} {nt:Nat} {D:List Deferred} {fr:bZ} {B:Bs} {L:AL} {rest:List Oper} {d:Nat} {ty t t':TypeId} {pos:String} {af:Array Edge} {x y z:Operand} {u:AV}
theorem EU (i:Nat) (ks:List Value) {b kt et:Nat} {kd:TypeDesc} {m:Value→Option AV} (ht:P.underlying t=some (.map kt et)) (hx:bw fr x=some (.sc (.map (some b)))) (hL:L[i]?=some (b,ci kd m)) (hn:ks.Pairwise (·≠ ·)) (hk:∀k,(m k).isSome=true↔k∈ks) (hd:Nat.ble nt d=false) (h:bF P r ops Q nt D rest ((d,.sc (.int .i64 ks.length))::fr) B L):bF P r ops Q nt D (⟨some d,.call ⟨.builtin .len,#[x],#[t]⟩,ty,pos,af,none⟩::rest) fr B L:=
  cn hd rfl (B2 i ht hx hL hn hk) fun c L' ⟨h1,h2⟩=>by subst h1;subst h2;exact h
end
end Go.Proofs.YtamjlkdanllgjaaGreatDoor
namespace Go.Proofs.YtamjlkdanllgjaaGreatDoor
open Go.RowKit
attribute [local irreducible] AT bF AX AO Av Kt b8 d9 DA cu
set_option maxRecDepth 8000
open Go.MapKept
abbrev KJ:TypeDesc:= .int .i64
def Ny (l:List Int):Value→Option AV
 | .int .i64 z=>if z∈l then some (cU true) else none
 | _=>none
def Nt (f:aY) (n:Int):Bool:=match f.Glyphs[n.toNat]? with | some g=>g.Mark | none=>false
end Go.Proofs.YtamjlkdanllgjaaGreatDoor
