/-
  The document's rules: what comes in the place of an item.
-/
import Derived.Test.YtpmdfoaadejmkaaGreatDoorM32
namespace Go.Proofs.YtpmdfoaadejmkaaGreatDoor
open Go.RowKit
attribute [local irreducible] AT bK AX AO Av Kt bh dw DA cK
theorem sl:∀{l:List Int} {k:Nat} {g:Int},l[k]?=some g→(l.take k).contains g=false→l.idxOf g=k
 | [],_,_,h,_=>by simp at h
 | z::l,0,g,h,_=>by simp at h;subst h;simp
 | z::l,k+1,g,h,hn=>by
  rw [List.take_succ_cons,List.contains_cons,Bool.or_eq_false_iff] at hn
  have hz:z≠g:=fun e=>by rw [e] at hn;simp at hn
  rw [List.idxOf_cons,beq_false_of_ne hz,cond_false,sl (by simpa using h) hn.2]
theorem GI {l:List Int} {k:Nat} {g:Int} (hk:k≤l.length) (hn:(l.take k).contains g=false):k≤l.idxOf g:=by
 refine Classical.byContradiction fun h=>?_
 have hm:g∈l:=List.idxOf_lt_length_iff.1 (by omega)
 have:l[l.idxOf g]?=some g:=by rw [Hb (List.idxOf_lt_length_of_mem hm),List.getElem_idxOf]
 have hm2:g∈l.take k:=Jx (i:=l.idxOf g) (by rw [List.getElem?_take,if_pos (by omega)];exact this)
 rw [←List.contains_iff_mem] at hm2
 rw [hm2] at hn
 cases hn
def ln (i0 out:List Int) (g:Int):Option Int:=if i0.idxOf g < i0.length then out[i0.idxOf g]? else none
def mt (i0 out:List Int) (g:Int):AV:=match ln i0 out g with
 | some o=> .tup [aF o,dY true]
 | none=> .tup [aF 0,dY false]
theorem gP {r:bc} {i0:List Int} {is:List (List Int)} (hin:r.In=i0::is) {run:List aI} {i:Nat} {x:aI} (hx:run[i]?=some x):dt r i run=match ln i0 r.Out x.Glyph with
  | some g=>run.set i { x with Glyph:=g }
  | none=>run:=by
 unfold dt ln
 rw [hx,hin]
 simp only [List.headD_cons]
 by_cases hi:i0.idxOf x.Glyph < i0.length
 ·rw [if_pos hi]
  cases r.Out[i0.idxOf x.Glyph]? with
  | none=>rfl
  | some g=>exact if_pos hi
 ·rw [if_neg hi]
  cases r.Out[i0.idxOf x.Glyph]? with
  | none=>rfl
  | some g=>exact if_neg hi
theorem sB (r:bc) (i0:List Int) (is:List (List Int)) (hin:r.In=i0::is) (g:Int) (hn0:r.Out.length≤1000000):bJ Tryz.prog 106 [.agg (bB r),aF g] (mt i0 r.Out g):=by
 refine aN Tryz.func106 rfl Tryz.ntmps106 rfl fun B=>?_
 have hil:=aZ i0
 have hol:=aZ r.Out
 have hi0:(b6 r.In)[(0:Int).toNat]?=some [.imm 1 (aW i0)]:=by rw [hin];rfl
 repeat' (first|refine JU ?_|refine am ?_|refine JG a5 JA ?_|refine bf ?_|fail)
 refine aP [1,2] (α:=Nat) (fun k=>[(6,aF k)]) (fun k=>k≤i0.length∧k≤r.Out.length∧(i0.take k).contains g=false) (fun _=>[]) (fun k=>i0.length - k) 0 rfl ⟨rfl,trivial⟩ ⟨Nat.zero_le _,Nat.zero_le _,by simp⟩ (fun _ _ h=>h) ?_
 rintro k ⟨hk,hk2,hno⟩
 try dsimp only [Jt,Js,Jr,Kz]
 repeat' (first|refine JU ?_|refine JG a5 JA ?_|(apply aL;first|refine aK a5 ?_|refine aG a5 ?_)|fail)
 refine bX [1,2,6] (k < i0.length∧k < r.Out.length) rfl (fun Q' K=>?_) (fun hC=>?_) (fun hC=>?_)
 ·repeat' (first|refine JU ?_|refine JG a5 JA ?_|refine JO JA ?_|refine JP JC ?_|refine JS JB (fun _=>?_) (fun _=>?_))
  all_goals exact K _ _ rfl rfl (by simp_all <;> omega)
 ·obtain ⟨z,hz⟩:∃z,i0[k]?=some z:=⟨_,Hb hC.1⟩
  obtain ⟨o,ho⟩:∃o,r.Out[k]?=some o:=⟨_,Hb hC.2⟩
  have hzg:=bO hz
  have hog:=bO ho
  repeat' (first|refine JU ?_|refine am ?_|refine JG a5 JA ?_|(apply aL;first|refine aK a5 ?_|refine aG a5 ?_)|fail)
  refine ar rfl (fun h=>?_) (fun h=>?_)
  ·have he:z=g:=Jz h
   subst he
   repeat' (first|refine JU ?_|refine JG a5 JA ?_|(apply aL;first|refine aK a5 ?_|refine aG a5 ?_)|fail)
   refine JR JB ?_
   unfold mt ln
   rw [sl hz hno,if_pos hC.1,ho]
  ·have he:z≠g:=Jy h
   repeat' (first|refine JU ?_|refine JG a5 JA ?_|(apply aS;refine aQ ?_)|fail)
   refine aC (k+1) rfl ⟨by rw [Jw];rfl,trivial⟩ ⟨hC.1,hC.2,?_⟩ (by omega) (fun _ _ h=>h)
   ·rw [List.take_add_one,hz]
    simp only [Option.toList_some,List.contains_append,hno,Bool.false_or,List.contains_cons,List.contains_nil,Bool.or_false]
    exact beq_eq_false_iff_ne.2 fun e=>he e.symm
 ·repeat' (first|refine JU ?_|refine JG a5 JA ?_)
  refine JR JB ?_
  have hge:=GI hk hno
  have:ln i0 r.Out g=none:=by
   unfold ln
   split
   ·exact List.getElem?_eq_none (by omega)
   ·rfl
  unfold mt
  rw [this]
theorem rY (run w:List aI) (p q:Nat) (hp:p≤run.length) (hq:q≤run.length) (hr:run.length≤1000000) (hw:w.length≤2000000):bJ Tryz.prog 107 [.imm 6 (run.map aY),aF p,aF q,.imm 6 (w.map aY)] (.imm 6 ((run.take p++w++run.drop q).map aY)):=by
 refine aN Tryz.func107 rfl Tryz.ntmps107 rfl fun B=>?_
 have hrl:(run.map aY).length=run.length:=Jv ..
 have hwl:(w.map aY).length=w.length:=Jv ..
 have htl:((run.map aY).take p).length=p:=by rw [List.length_take];omega
 have hdl:((run.map aY).drop q).length=run.length - q:=by rw [List.length_drop];omega
 repeat' (first|refine JU ?_|refine JG a5 JA ?_|refine iL (n:=0) a5 fun _=>?_|fail)
 refine tA a5 p rfl rfl rfl rfl rfl rfl (by omega) rfl ?_
 repeat' (first|fail)
 refine bI a5 [] rfl rfl rfl rfl (Jp _) (by simp;omega) (by simp;omega) rfl fun q1=>?_
 rw [Js]
 repeat' (first|refine JU ?_|refine JG a5 JA ?_)
 refine bI a5 [] rfl rfl rfl rfl (Jp _) (by simp;omega) (by simp;omega) rfl fun q2=>?_
 repeat' (first|refine JU ?_|refine JG a5 JA ?_)
 refine EN a5 q rfl rfl rfl rfl rfl rfl (by omega) rfl ?_
 repeat' (first|fail)
 refine bI a5 [] rfl rfl rfl rfl (Jp _) (by simp;omega) (by simp;omega) rfl fun q3=>?_
 repeat' (first|refine JU ?_|refine JG a5 JA ?_)
 refine dI (L':=[]) (List.nil_sublist _) ?_
 refine bk (bL (t:=8) (c':= .imm 6 ((run.map aY).take p++w.map aY++(run.map aY).drop q)) rfl fun σ v h=>VR.im h) ?_
 exact JM JA (by rw [List.map_append,List.map_append,List.map_take,List.map_drop])
theorem zO (f:b7) (l:aO) (run:List aI) (hr:run.length≤1000000) (i:Nat) (hi:i≤1000000) (n:Int) (hn:n≤1000000):bJ Tryz.prog 109 [bZ f,.agg (bi l),.imm 6 (run.map aY),aF i,aF n] (aF (match kI (bb f) l.Ignore run i n with | some j=>(j:Int) | none=> -1)):=by
 refine aN Tryz.func109 rfl Tryz.ntmps109 rfl fun B=>?_
 have hrl:(run.map aY).length=run.length:=Jv ..
 repeat' (first|refine JU ?_|refine JG a5 JA ?_|refine bf ?_|fail)
 refine ar rfl (fun h=>?_) (fun h=>?_)
 ·have hn0:n < 0:=Jz h
  repeat' (first|refine JU ?_|refine JG a5 JA ?_)
  refine JM JA ?_
  unfold kI
  rw [if_neg (by omega)]
 ·have hn0:¬n < 0:=Jy h
  clear h
  repeat' (first|refine JU ?_|refine am ?_|refine JG a5 JA ?_)
  refine aP [2,5,6] (α:=Nat×Int) (fun x=>[(11,aF x.1),(4,aF x.2)]) (fun x=>x.1≤1000001∧0≤x.2∧x.2≤1000000∧kI (bb f) l.Ignore run x.1 x.2=kI (bb f) l.Ignore run i n) (fun _=>[]) (fun x=>run.length - x.1) (i,n) rfl ⟨rfl,rfl,trivial⟩ ⟨by dsimp only;omega,by dsimp only;omega,hn,rfl⟩ (fun _ _ h=>h) ?_
  rintro ⟨k,m⟩ ⟨hk,hm,hm2,hv⟩
  dsimp only at hk hm hm2 hv ⊢
  try dsimp only [Jt,Js,Jr,Kz]
  repeat' (first|refine JU ?_|refine JG a5 JA ?_)
  refine ar rfl (fun h=>?_) (fun h=>?_)
  ·have hk2:k < run.length:=by have:=Jz h;omega
   obtain ⟨x,hx⟩:∃x,run[k]?=some x:=⟨_,Hb hk2⟩
   have hxg:=bH (c:=aY) hx
   rw [sA hk2 hm,jH hx] at hv
   clear h
   repeat' (first|refine JU ?_|refine am ?_)
   refine br 6 [(0,.v),(1,.v),(2,.v),(3,.v),(4,.v),(5,.v)] none ?_ trivial rfl (by kernel_rfl) (by kernel_rfl) (by kernel_rfl) bQ (by kernel_rfl) rfl
   repeat' (first|refine aD ?_|refine b8 a5 ?_|(apply bW;refine ci a5 ?_)|fail)
   refine JQ [2,4,5,6,11,21,22,26] JA ?_
   repeat' (first|refine JU ?_|refine a7 ?_|(apply bw;refine bn ?_)|fail)
   refine ar rfl (fun hb=>?_) (fun hb=>?_)
   ·rw [if_pos hb] at hv
    repeat' (first|refine JU ?_|refine JG a5 JA ?_)
    refine ar rfl (fun h0=>?_) (fun h0=>?_)
    ·rw [if_pos (Jz h0)] at hv
     repeat' (first|refine JU ?_|refine JG a5 JA ?_)
     exact JM JA (by rw [←hv])
    ·have hne:=Jy h0
     rw [if_neg hne] at hv
     repeat' (first|refine JU ?_|refine JG a5 JA ?_|(apply aS;refine aQ ?_)|fail)
     exact aC (k+1,m - 1) rfl ⟨by rw [Jw];rfl,rfl,trivial⟩ ⟨by dsimp only;omega,by dsimp only;omega,by dsimp only;omega,hv⟩ (by dsimp only;omega) (fun _ _ h=>h)
   ·rw [if_neg (by rw [hb];simp)] at hv
    repeat' (first|refine JU ?_|refine JG a5 JA ?_|(apply aS;refine aQ ?_)|fail)
    exact aC (k+1,m) rfl ⟨by rw [Jw];rfl,rfl,trivial⟩ ⟨by dsimp only;omega,hm,hm2,hv⟩ (by dsimp only;omega) (fun _ _ h=>h)
  ·have hk2:run.length≤k:=by have:=Jy h;omega
   rw [vc hk2] at hv
   repeat' (first|refine JU ?_|refine JG a5 JA ?_)
   exact JM JA (by rw [←hv])
theorem wJ {q:List Nat} {run:List aI} {k:Nat} {x:aI} (h:run[k]?=some x):dE q 0 (run.take (k+1))=if k∈q then dE q 0 (run.take k) else dE q 0 (run.take k)++[x]:=by
 have hk:=(Jq h).1
 rw [List.take_add_one,h,Option.toList_some,qz,List.length_take,Nat.min_eq_left (by omega),Nat.zero_add]
theorem so {q:List Nat}:∀{r:List aI} {k:Nat},(dE q k r).length≤r.length
 | [],_=>Nat.le_refl _
 | x::r,k=>by
  have:=so (q:=q) (r:=r) (k:=k+1)
  rw [dE,List.length_cons]
  split
  ·omega
  ·rw [List.length_cons];omega
theorem HY {l:List Nat} {k:Nat}:(l.map Int.ofNat).contains (k:Int)=l.contains k:=by
 induction l with
 | nil=>rfl
 | cons z l ih=>
  rw [Jr,List.contains_cons,List.contains_cons,ih]
  congr 1
  rw [Bool.eq_iff_iff]
  simp
  omega
theorem wN {r:bc} {p:Nat} {q:List Nat} {run:List aI} {x:aI} {g:Int} {gs:List Int} (hg:r.Out=g::gs) (hx:run[p]?=some x) (hs:(p::q).Pairwise (· < ·)):gA r (p::q) run=dE q 0 (run.set p { x with Glyph:=g,Cluster:=dR run (p::q) x.Cluster }):=by
  unfold gA
  rw [hg]
  dsimp only
  rw [hx]
  dsimp only
  rw [qc (List.pairwise_cons.1 hs).2]
set_option maxHeartbeats 4000000 in
theorem uY (run:List aI) (hr:run.length≤1000000) (r:bc) (g:Int) (gs:List Int) (hg:r.Out=g::gs) (p:Nat) (q:List Nat) (hps:mI run (p::q)):bJ Tryz.prog 108 [.imm 6 (run.map aY),.agg (bB r),.imm 1 (bY (p::q))] (.imm 6 ((gA r (p::q) run).map aY)):=by
 refine aN Tryz.func108 rfl Tryz.ntmps108 rfl fun B=>?_
 refine cB 2 rfl rfl fun hlen=>?_
 have hnl:=dm (p::q)
 rw [hnl] at hlen
 have hrl:(run.map aY).length=run.length:=Jv ..
 have hpl:=hps.lt p (by simp)
 obtain ⟨x,hx⟩:∃x,run[p]?=some x:=⟨_,Hb hpl⟩
 have hxg:=bH (c:=aY) hx
 have hp0:(bY (p::q))[(0:Int).toNat]?=some [aF p]:=rfl
 have ho0:(aW r.Out)[(0:Int).toNat]?=some [aF g]:=by rw [hg];rfl
 rw [wN hg hx hps.inc]
 repeat' (first|refine JU ?_|refine am ?_|refine JG a5 JA ?_|(apply aL;first|refine aK a5 ?_|refine aG a5 ?_)|refine bf ?_|refine iL (n:=0) a5 fun _=>?_|fail)
 refine aP [0,2,4,7] (α:=Nat) (fun k=>[(9,aF k),(8,aF (dR run ((p::q).take k) x.Cluster))]) (fun k=>k≤(p::q).length) (fun _=>tok (some (_,0)) 67 6 0) (fun k=>(p::q).length - k) 0 rfl ⟨rfl,rfl,trivial⟩ (Nat.zero_le _) (fun _ _ h=>h) fun k hk=>?_
 try dsimp only [Jt,Js,Jr,Kz]
 repeat' (first|refine JU ?_|refine JG a5 JA ?_)
 refine ar rfl (fun h=>?_) (fun h=>?_)
 ·have hk2:k < (p::q).length:=by have:=Jz h;omega
  obtain ⟨j,hj⟩:∃z,(p::q)[k]?=some z:=⟨_,Hb hk2⟩
  have hjg:(bY (p::q))[k]?=some [aF j]:=by unfold bY;exact bO (by rw [List.getElem?_map,hj];rfl)
  have hjl:=hps.lt j (Jx hj)
  obtain ⟨y,hy⟩:∃z,run[j]?=some z:=⟨_,Hb hjl⟩
  have hyg:=bH (c:=aY) hy
  have htk:(p::q).take (k+1)=(p::q).take k++[j]:=by rw [List.take_add_one,hj];rfl
  have hnew:dR run ((p::q).take (k+1)) x.Cluster=min (dR run ((p::q).take k) x.Cluster) y.Cluster:=by
   unfold dR
   rw [htk,List.foldl_append]
   show lc run _ j=_
   unfold lc
   rw [hy]
  clear h
  repeat' (first|refine JU ?_|refine am ?_|refine JG a5 JA ?_|(apply aL;first|refine aK a5 ?_|refine aG a5 ?_)|fail)
  refine ar rfl (fun h=>?_) (fun h=>?_)
  ·have hlt:y.Cluster < dR run ((p::q).take k) x.Cluster:=Jz h
   repeat' (first|refine JU ?_|refine JG a5 JA ?_|(apply aS;refine aQ ?_)|(apply aL;first|refine aK a5 ?_|refine aG a5 ?_)|fail)
   exact aC (k+1) rfl ⟨by rw [Jw];rfl,by rw [hnew,show min (dR run ((p::q).take k) x.Cluster) y.Cluster=y.Cluster by omega];rfl,trivial⟩ hk2 (by omega) (fun _ _ h=>h)
  ·have hlt:¬y.Cluster < dR run ((p::q).take k) x.Cluster:=Jy h
   repeat' (first|refine JU ?_|refine JG a5 JA ?_|(apply aS;refine aQ ?_)|fail)
   exact aC (k+1) rfl ⟨by rw [Jw];rfl,by rw [hnew,show min (dR run ((p::q).take k) x.Cluster) y.Cluster=dR run ((p::q).take k) x.Cluster by omega];rfl,trivial⟩ hk2 (by omega) (fun _ _ h=>h)
 ·have hk2:k=(p::q).length:=by have:=Jy h;omega
  subst hk2
  clear h
  rw [List.take_length]
  generalize dR run (p::q) x.Cluster=least
  repeat' (first|refine JU ?_|refine am ?_|refine JG a5 JA ?_)
  refine aP [0,2,4,8] (α:=Nat×Option (Nat×Nat)) (fun s=>[(10,aF s.1),(7,.vec s.2 6 ((dE q 0 ((run.set p { x with Glyph:=g,Cluster:=least }).take s.1)).map aY))]) (fun s=>s.1≤run.length) (fun s=>tok s.2 67 6 ((dE q 0 ((run.set p { x with Glyph:=g,Cluster:=least }).take s.1)).map aY).length) (fun s=>run.length - s.1) (0,some (_,0)) rfl ⟨rfl,rfl,trivial⟩ (Nat.zero_le _) (fun _ _ h=>h) ?_
  rintro ⟨k,s⟩ hk
  dsimp only at hk ⊢
  try dsimp only [Jt,Js,Jr,Kz]
  repeat' (first|refine JU ?_|refine JG a5 JA ?_)
  refine ar rfl (fun h=>?_) (fun h=>?_)
  ·have hk2:k < run.length:=by have:=Jz h;omega
   obtain ⟨y,hy⟩:∃z,run[k]?=some z:=⟨_,Hb hk2⟩
   have hyg:=bH (c:=aY) hy
   obtain ⟨y2,hy2⟩:∃z,(run.set p { x with Glyph:=g,Cluster:=least })[k]?=some z:=⟨_,Hb (by rw [List.length_set];exact hk2)⟩
   have hst:=wJ (q:=q) hy2
   have hml:((dE q 0 ((run.set p { x with Glyph:=g,Cluster:=least }).take k)).map aY).length≤1000000:=by
    rw [Jv]
    have:=so (q:=q) (r:=(run.set p { x with Glyph:=g,Cluster:=least }).take k) (k:=0)
    rw [List.length_take,List.length_set] at this
    omega
   haveI:AD Tryz.prog 195 [.imm 1 (bY (p::q)),aF k] (dY ((p::q).contains k)):=⟨by have:=uQ ((p::q).map Int.ofNat) k;rw [HY] at this;exact this⟩
   clear h
   generalize hA:dE q 0 ((run.set p { x with Glyph:=g,Cluster:=least }).take k)=A at *
   repeat' (first|refine JU ?_|refine am ?_|refine JG a5 JA ?_|(apply aL;first|refine aK a5 ?_|refine aG a5 ?_)|(apply aM;first|refine JH a5 0 JE ?_|refine JH a5 1 JE ?_|refine JH a5 2 JE ?_|refine JH a5 3 JE ?_|fail)|refine bj a5 fun _=>?_|fail)
   refine ar rfl (fun h=>?_) (fun h=>?_)
   ·have hkp:k=p:=by have:=Jz h;omega
    subst hkp
    rw [hx] at hy
    cases hy
    have hkq:k∉q:=fun e=>by have:=(List.pairwise_cons.1 hps.inc).1 k e;omega
    have hy3:y2={ x with Glyph:=g,Cluster:=least }:=by
     rw [List.getElem?_set_self hk2] at hy2
     exact (Option.some.inj hy2).symm
    rw [if_neg hkq,hy3] at hst
    repeat' (first|refine JU ?_|refine JG a5 JA ?_|(apply aL;first|refine aK a5 ?_|refine aG a5 ?_)|(apply aM;first|refine JH a5 0 JE ?_|refine JH a5 1 JE ?_|refine JH a5 2 JE ?_|refine JH a5 3 JE ?_|fail))
    rw [decide_eq_true (rfl:(k:Int)=(k:Int))]
    repeat' (first|refine JU ?_|refine JG a5 JA ?_|refine JP JC ?_|(apply bF;first|refine JJ a5 0 JD ?_|refine JJ a5 1 JD ?_|refine JJ a5 2 JD ?_|refine JJ a5 3 JD ?_|refine JK a5 0 JD ?_|refine JK a5 1 JD ?_|refine JK a5 2 JD ?_|refine JL a5 1 JB (by assumption) rfl ?_|refine JL a5 0 JB (by assumption) rfl ?_|fail)|refine bN a5 ?_|refine bD rfl ?_)
    refine bI a5 _ rfl rfl rfl rfl (List.perm_append_comm (l₁:=[_])) (by simp only [List.length_cons,List.length_nil];omega) (by simp only [List.length_cons,List.length_nil];omega) rfl fun s'=>?_
    repeat' (first|refine JU ?_|refine JG a5 JA ?_|(apply aS;refine aQ ?_)|fail)
    refine aC (k+1,s') rfl ⟨by rw [Jw];rfl,by dsimp only;rw [hst,List.map_append];rfl,trivial⟩ hk2 (by dsimp only;omega) (fun _ _ h=>?_)
    dsimp only
    rw [hst,List.map_append]
    exact h.sublist (List.sublist_append_left ..)
   ·have hkp:k≠p:=by have:=Jy h;omega
    have hy3:y2=y:=by
     rw [List.getElem?_set_ne (Ne.symm hkp),hy] at hy2
     exact (Option.some.inj hy2).symm
    rw [hy3] at hst
    have hcq:(p::q).contains k=decide (k∈q):=by
     rw [Bool.eq_iff_iff]
     simp [hkp]
    repeat' (first|refine JU ?_|refine JG a5 JA ?_|(apply aL;first|refine aK a5 ?_|refine aG a5 ?_)|fail)
    rw [decide_eq_false (show ¬(k:Int)=(p:Int) by omega)]
    repeat' (first|refine JU ?_|refine JG a5 JA ?_|refine JO JA ?_|(apply bw;refine bn ?_)|fail)
    rw [hcq]
    by_cases hq:k∈q
    ·rw [if_pos hq] at hst
     rw [decide_eq_true hq]
     repeat' (first|refine JU ?_|refine JG a5 JA ?_|(apply aS;refine aQ ?_)|refine bC rfl ?_)
     refine aC (k+1,s) rfl ⟨by rw [Jw];rfl,by dsimp only;rw [hst];rfl,trivial⟩ hk2 (by dsimp only;omega) (fun _ _ h=>?_)
     dsimp only
     rw [hst]
     exact h.sublist (List.sublist_cons_self ..)
    ·rw [if_neg hq] at hst
     rw [decide_eq_false hq]
     repeat' (first|refine JU ?_|refine JG a5 JA ?_|(apply bF;first|refine JJ a5 0 JD ?_|refine JJ a5 1 JD ?_|refine JJ a5 2 JD ?_|refine JJ a5 3 JD ?_|refine JK a5 0 JD ?_|refine JK a5 1 JD ?_|refine JK a5 2 JD ?_|refine JL a5 1 JB (by assumption) rfl ?_|refine JL a5 0 JB (by assumption) rfl ?_|fail)|refine bN a5 ?_|refine bD rfl ?_)
     refine bI a5 _ rfl rfl rfl rfl (List.perm_append_comm (l₁:=[_])) (by simp only [List.length_cons,List.length_nil];omega) (by simp only [List.length_cons,List.length_nil];omega) rfl fun s'=>?_
     repeat' (first|refine JU ?_|refine JG a5 JA ?_|(apply aS;refine aQ ?_)|fail)
     refine aC (k+1,s') rfl ⟨by rw [Jw];rfl,by dsimp only;rw [hst,List.map_append];rfl,trivial⟩ hk2 (by dsimp only;omega) (fun _ _ h=>?_)
     dsimp only
     rw [hst,List.map_append]
     exact h.sublist (List.sublist_append_left ..)
  ·have hk2:k=run.length:=by have:=Jy h;omega
   subst hk2
   have ht:(run.set p { x with Glyph:=g,Cluster:=least }).take run.length=run.set p { x with Glyph:=g,Cluster:=least }:=List.take_of_length_le (by rw [List.length_set];omega)
   rw [ht]
   repeat' (first|refine JU ?_|refine JG a5 JA ?_)
   refine dI (L':=[]) (List.nil_sublist _) ?_
   refine bk (bL (t:=6) (c':= .imm 6 ((dE q 0 (run.set p { x with Glyph:=g,Cluster:=least })).map aY)) rfl fun σ v h=>VR.im h) ?_
   exact JN JB
theorem F2 {run:List aI} {p:Nat} (h:p < run.length) (y:aI):run.take p++[y]++run.drop (p+1)=run.set p y:=by
 rw [List.set_eq_take_append_cons_drop,if_pos h,List.append_assoc]
 rfl
theorem mg {run:List aI} {p:Nat} (h:p < run.length) (hr:run.length≤1000000) (y:aI):bJ Tryz.prog 107 [.imm 6 (run.map aY),aF p,aF ((p:Int)+1),.imm 6 ([y].map aY)] (.imm 6 ((run.set p y).map aY)):=by
 have:=rY run [y] p (p+1) (by omega) (by omega) hr (by simp)
 rw [F2 h,Jw] at this
 exact this
def iS (run:List aI) (z:Nat):AV:= .tup [.imm 6 (run.map aY),aF z]
theorem gw {run run':List aI} {last:Nat} (h1:last < run.length) (h2:run.length - 1 - last≤run'.length):AV.tup [.imm 6 (run'.map aY),aF (((run'.map aY).length:Int) - (((run.map aY).length:Int) - (last:Int) - 1))]=iS run' (run'.length - (run.length - 1 - last)):=by
 unfold iS
 rw [Jv,Jv,show (run'.length:Int) - ((run.length:Int) - (last:Int) - 1)=((run'.length - (run.length - 1 - last):Nat):Int) by omega]
theorem fX {p:Nat} {q:List Nat}:(bY (p::q))[(((bY (p::q)).length:Int) - 1).toNat]?=some [aF ((p::q).getLastD p:Nat)]:=by
 rw [dm]
 exact qT
theorem iu.looks {f:b7} (h:iu f) {l:aO} (hl:l∈f.Lookups):Fw l:=⟨by have:=h.few l hl;omega,fun r hr=>by have hb:=(h.rule l hl r hr).b.long;exact ⟨by omega,by omega,by omega⟩⟩
theorem iu.ruleO {f:b7} (h:iu f) {l:aO} (hl:l∈f.Lookups) {r:bc} (hr:r∈l.Rules) (hin:r.In≠[]):jQ r:=
 have hb:=h.rule l hl r hr
 ⟨hin,hb.out,hb.calls,hb.at_⟩
abbrev iA (f:b7) (n:Nat) (run:List aI) (m:Nat) (ps:List Nat) (deep:Nat):List AV:=[bZ f,aF n,.imm 6 (run.map aY),aF m,.imm 1 (bY ps),aF deep]
def kT (l:aO) (r:bc) (ps:List Nat) (run:List aI) (i:Nat):AV:=iS (dW l r ps run) (jA l i (ps.getLastD i) run (dW l r ps run))
section
variable {f:b7} {n:Nat} {l:aO} (hl:f.Lookups[n]?=some l) {m:Nat} {r:bc} (hm:l.Rules[m]?=some r) (hro:jQ r) {run:List aI} (hr:run.length≤1000000) {p:Nat} {q:List Nat} (hps:mI run (p::q)) (deep:Nat)
include hl hm hro hr hps
set_option maxHeartbeats 4000000 in
theorem FH (hk:l.Kind=1):bJ Tryz.prog 40 (iA f n run m (p::q) deep) (kT l r (p::q) run p):=by
 obtain ⟨kd,ig,rs⟩:=l
 dsimp only at hk hm
 subst hk
 have hlg:=bH (c:=bi) hl
 have hmg:=bH (c:=bB) hm
 have hpl:=hps.lt p (by simp)
 obtain ⟨x,hx⟩:∃x,run[p]?=some x:=⟨_,Hb hpl⟩
 have hxg:=bH (c:=aY) hx
 have hp0:(bY (p::q))[(0:Int).toNat]?=some [aF p]:=rfl
 have hla:=fX (p:=p) (q:=q)
 obtain ⟨l1,l2,l3⟩:=gO hps
 have hnl:(bY (p::q)).length=q.length+1:=dm (p::q)
 have hrl:(run.map aY).length=run.length:=Jv ..
 have hol:=aZ r.Out
 have hoo:=hro.out
 have hlf:=fR (l:=⟨1,ig,rs⟩) (r:=r) hps
 obtain ⟨i0,is,hin⟩:=List.exists_cons_of_ne_nil hro.some_
 have hsv:dW ⟨1,ig,rs⟩ r (p::q) run=dt r p run:=rfl
 have hnv:kT ⟨1,ig,rs⟩ r (p::q) run p=iS (dt r p run) ((dt r p run).length - (run.length - 1 - (p::q).getLastD p)):=rfl
 rw [hsv,gP hin hx] at hlf
 rw [hnv,gP hin hx]
 generalize (p::q).getLastD p=last at *
 haveI:AD Tryz.prog 106 [.agg (bB r),aF x.Glyph] (mt i0 r.Out x.Glyph):=⟨sB r i0 is hin x.Glyph hro.out⟩
 refine aN Tryz.func40 rfl Tryz.ntmps40 rfl fun B=>?_
 repeat' (first|refine JU ?_|refine am ?_|refine JG a5 JA ?_|(apply aS;refine aQ ?_)|(apply aL;first|refine aK a5 ?_|refine aG a5 ?_)|(apply aM;first|refine JI 14 a5 0 JF ?_|refine JI 14 a5 1 JF ?_|refine JI 14 a5 2 JF ?_|refine JI 15 a5 0 JF ?_|refine JI 15 a5 1 JF ?_|refine JI 15 a5 2 JF ?_|refine JH a5 0 JE ?_|refine JH a5 1 JE ?_|refine JH a5 2 JE ?_|refine JH a5 3 JE ?_|fail)|refine bf ?_|refine bj a5 fun _=>?_|refine bD rfl ?_)
 refine br 11 [(0,.v),(1,.v),(2,.v),(3,.v),(4,.v),(5,.v),(6,.v),(7,.v),(8,.v),(9,.v),(10,.v)] none ?_ trivial rfl (by kernel_rfl) (by kernel_rfl) (by kernel_rfl) bQ (by kernel_rfl) rfl
 repeat' (first|refine aD ?_|refine b8 a5 ?_|(apply bW;refine ci a5 ?_)|(apply cW;refine du ?_)|fail)
 unfold mt
 cases hoo:ln i0 r.Out x.Glyph with
 | none=>
  rw [hoo] at hlf
  dsimp only at hlf ⊢
  repeat' (first|refine aD ?_|refine b8 a5 ?_|fail)
  refine JQ [2,16,18,19,66] JA ?_
  repeat' (first|refine JU ?_|refine a7 ?_|refine JG a5 JA ?_|(apply aS;refine aQ ?_)|refine bC rfl ?_)
  exact JR JB (gw l2 hlf)
 | some g=>
  rw [hoo] at hlf
  dsimp only at hlf ⊢
  have hct:=mg hpl hr { x with Glyph:=g }
  have hsl:((run.set p { x with Glyph:=g }).map aY).length=run.length:=by rw [Jv,List.length_set]
  repeat' (first|refine aD ?_|refine b8 a5 ?_|fail)
  refine JQ [2,16,18,19,66] JA ?_
  repeat' (first|refine JU ?_|refine a7 ?_|refine JG a5 JA ?_|(apply bF;first|refine JJ a5 0 JD ?_|refine JJ a5 1 JD ?_|refine JJ a5 2 JD ?_|refine JJ a5 3 JD ?_|refine JK a5 0 JD ?_|refine JK a5 1 JD ?_|refine JK a5 2 JD ?_|refine JL a5 1 JB (by assumption) rfl ?_|refine JL a5 0 JB (by assumption) rfl ?_|fail)|(apply aS;refine aQ ?_)|(apply aL;first|refine aK a5 ?_|refine aG a5 ?_)|(apply aM;first|refine JI 14 a5 0 JF ?_|refine JI 14 a5 1 JF ?_|refine JI 14 a5 2 JF ?_|refine JI 15 a5 0 JF ?_|refine JI 15 a5 1 JF ?_|refine JI 15 a5 2 JF ?_|refine JH a5 0 JE ?_|refine JH a5 1 JE ?_|refine JH a5 2 JE ?_|refine JH a5 3 JE ?_|fail)|refine bj a5 fun _=>?_|refine bN a5 ?_|refine bD rfl ?_)
  refine b9 [] _ hct rfl rfl (Jp _) rfl fun c L1 hc=>?_
  subst hc
  refine aJ (bA (L':=[]) (List.nil_sublist _)) ?_
  repeat' (first|refine JU ?_|refine JG a5 JA ?_|(apply aS;refine aQ ?_)|fail)
  exact JR JB (gw l2 hlf)
set_option maxHeartbeats 4000000 in
theorem FL (hk:l.Kind=5):bJ Tryz.prog 40 (iA f n run m (p::q) deep) (kT l r (p::q) run p):=by
 obtain ⟨kd,ig,rs⟩:=l
 dsimp only at hk hm
 subst hk
 have hlg:=bH (c:=bi) hl
 have hmg:=bH (c:=bB) hm
 have hpl:=hps.lt p (by simp)
 obtain ⟨x,hx⟩:∃x,run[p]?=some x:=⟨_,Hb hpl⟩
 have hxg:=bH (c:=aY) hx
 have hp0:(bY (p::q))[(0:Int).toNat]?=some [aF p]:=rfl
 have hla:=fX (p:=p) (q:=q)
 obtain ⟨l1,l2,l3⟩:=gO hps
 have hnl:(bY (p::q)).length=q.length+1:=dm (p::q)
 have hrl:(run.map aY).length=run.length:=Jv ..
 have hol:=aZ r.Out
 have hoo:=hro.out
 have hlf:=fR (l:=⟨5,ig,rs⟩) (r:=r) hps
 obtain ⟨i0,is,hin⟩:=List.exists_cons_of_ne_nil hro.some_
 have hsv:dW ⟨5,ig,rs⟩ r (p::q) run=dt r p run:=rfl
 have hnv:kT ⟨5,ig,rs⟩ r (p::q) run p=iS (dt r p run) ((dt r p run).length - (run.length - 1 - (p::q).getLastD p)):=rfl
 rw [hsv,gP hin hx] at hlf
 rw [hnv,gP hin hx]
 generalize (p::q).getLastD p=last at *
 haveI:AD Tryz.prog 106 [.agg (bB r),aF x.Glyph] (mt i0 r.Out x.Glyph):=⟨sB r i0 is hin x.Glyph hro.out⟩
 refine aN Tryz.func40 rfl Tryz.ntmps40 rfl fun B=>?_
 repeat' (first|refine JU ?_|refine am ?_|refine JG a5 JA ?_|(apply aS;refine aQ ?_)|(apply aL;first|refine aK a5 ?_|refine aG a5 ?_)|(apply aM;first|refine JI 14 a5 0 JF ?_|refine JI 14 a5 1 JF ?_|refine JI 14 a5 2 JF ?_|refine JI 15 a5 0 JF ?_|refine JI 15 a5 1 JF ?_|refine JI 15 a5 2 JF ?_|refine JH a5 0 JE ?_|refine JH a5 1 JE ?_|refine JH a5 2 JE ?_|refine JH a5 3 JE ?_|fail)|refine bf ?_|refine bj a5 fun _=>?_|refine bD rfl ?_|refine bC rfl ?_)
 refine br 11 [(0,.v),(1,.v),(2,.v),(3,.v),(4,.v),(5,.v),(6,.v),(7,.v),(8,.v),(9,.v),(10,.v)] none ?_ trivial rfl (by kernel_rfl) (by kernel_rfl) (by kernel_rfl) bQ (by kernel_rfl) rfl
 repeat' (first|refine aD ?_|refine b8 a5 ?_|(apply bW;refine ci a5 ?_)|(apply cW;refine du ?_)|fail)
 unfold mt
 cases hoo:ln i0 r.Out x.Glyph with
 | none=>
  rw [hoo] at hlf
  dsimp only at hlf ⊢
  repeat' (first|refine aD ?_|refine b8 a5 ?_|fail)
  refine JQ [2,16,18,19,66] JA ?_
  repeat' (first|refine JU ?_|refine a7 ?_|refine JG a5 JA ?_|(apply aS;refine aQ ?_)|refine bC rfl ?_)
  exact JR JB (gw l2 hlf)
 | some g=>
  rw [hoo] at hlf
  dsimp only at hlf ⊢
  have hct:=mg hpl hr { x with Glyph:=g }
  have hsl:((run.set p { x with Glyph:=g }).map aY).length=run.length:=by rw [Jv,List.length_set]
  repeat' (first|refine aD ?_|refine b8 a5 ?_|fail)
  refine JQ [2,16,18,19,66] JA ?_
  repeat' (first|refine JU ?_|refine a7 ?_|refine JG a5 JA ?_|(apply bF;first|refine JJ a5 0 JD ?_|refine JJ a5 1 JD ?_|refine JJ a5 2 JD ?_|refine JJ a5 3 JD ?_|refine JK a5 0 JD ?_|refine JK a5 1 JD ?_|refine JK a5 2 JD ?_|refine JL a5 1 JB (by assumption) rfl ?_|refine JL a5 0 JB (by assumption) rfl ?_|fail)|(apply aS;refine aQ ?_)|(apply aL;first|refine aK a5 ?_|refine aG a5 ?_)|(apply aM;first|refine JI 14 a5 0 JF ?_|refine JI 14 a5 1 JF ?_|refine JI 14 a5 2 JF ?_|refine JI 15 a5 0 JF ?_|refine JI 15 a5 1 JF ?_|refine JI 15 a5 2 JF ?_|refine JH a5 0 JE ?_|refine JH a5 1 JE ?_|refine JH a5 2 JE ?_|refine JH a5 3 JE ?_|fail)|refine bj a5 fun _=>?_|refine bN a5 ?_|refine bD rfl ?_)
  refine b9 [] _ hct rfl rfl (Jp _) rfl fun c L1 hc=>?_
  subst hc
  refine aJ (bA (L':=[]) (List.nil_sublist _)) ?_
  repeat' (first|refine JU ?_|refine JG a5 JA ?_|(apply aS;refine aQ ?_)|fail)
  exact JR JB (gw l2 hlf)
set_option maxHeartbeats 4000000 in
theorem FI (hk:l.Kind=2):bJ Tryz.prog 40 (iA f n run m (p::q) deep) (kT l r (p::q) run p):=by
 obtain ⟨kd,ig,rs⟩:=l
 dsimp only at hk hm
 subst hk
 have hlg:=bH (c:=bi) hl
 have hmg:=bH (c:=bB) hm
 have hpl:=hps.lt p (by simp)
 obtain ⟨x,hx⟩:∃x,run[p]?=some x:=⟨_,Hb hpl⟩
 have hxg:=bH (c:=aY) hx
 have hp0:(bY (p::q))[(0:Int).toNat]?=some [aF p]:=rfl
 have hla:=fX (p:=p) (q:=q)
 obtain ⟨l1,l2,l3⟩:=gO hps
 have hnl:(bY (p::q)).length=q.length+1:=dm (p::q)
 have hrl:(run.map aY).length=run.length:=Jv ..
 have hol:=aZ r.Out
 have hoo:=hro.out
 have hlf:=fR (l:=⟨2,ig,rs⟩) (r:=r) hps
 have hsv:dW ⟨2,ig,rs⟩ r (p::q) run=eH r p run:=rfl
 have hnv:kT ⟨2,ig,rs⟩ r (p::q) run p=iS (eH r p run) ((eH r p run).length - (run.length - 1 - (p::q).getLastD p)):=rfl
 have hmv:eH r p run=if run.length - 1+r.Out.length > 500∧1 < r.Out.length then run else run.take p++(r.Out.map fun g=>{ x with Glyph:=g })++run.drop (p+1):=by
  unfold eH
  rw [hx]
 rw [hsv] at hlf
 rw [hnv]
 generalize (p::q).getLastD p=last at *
 refine aN Tryz.func40 rfl Tryz.ntmps40 rfl fun B=>?_
 repeat' (first|refine JU ?_|refine am ?_|refine JG a5 JA ?_|(apply aS;refine aQ ?_)|(apply aL;first|refine aK a5 ?_|refine aG a5 ?_)|(apply aM;first|refine JI 14 a5 0 JF ?_|refine JI 14 a5 1 JF ?_|refine JI 14 a5 2 JF ?_|refine JI 15 a5 0 JF ?_|refine JI 15 a5 1 JF ?_|refine JI 15 a5 2 JF ?_|refine JH a5 0 JE ?_|refine JH a5 1 JE ?_|refine JH a5 2 JE ?_|refine JH a5 3 JE ?_|fail)|refine bf ?_|refine bj a5 fun _=>?_|refine bD rfl ?_|refine bC rfl ?_)
 refine bX [2,15,16,18] (run.length - 1+r.Out.length≤500∨r.Out.length≤1) rfl (fun Q' K=>?_) (fun hC=>?_) (fun hC=>?_)
 ·repeat' (first|refine JU ?_|refine JG a5 JA ?_|refine JO JA ?_|refine JP JC ?_|refine JS JB (fun _=>?_) (fun _=>?_))
  all_goals exact K _ _ rfl rfl (by simp_all <;> omega)
 ·rw [if_neg (by omega)] at hmv
  have hct:=rY run (r.Out.map fun g=>{ x with Glyph:=g }) p (p+1) (by omega) (by omega) hr (by rw [Jv];omega)
  rw [←hmv,Jw] at hct
  have hml:(eH r p run).length≤2000000:=by
   rw [hmv]
   simp only [List.length_append,List.length_take,List.length_drop,Jv]
   omega
  have hmm:((eH r p run).map aY).length=(eH r p run).length:=Jv ..
  repeat' (first|refine JU ?_|refine am ?_|refine JG a5 JA ?_|refine iL (n:=0) a5 fun _=>?_|fail)
  refine aP [2,15,16,18] (α:=Nat×Option (Nat×Nat)) (fun s=>[(23,aF s.1),(22,.vec s.2 6 ((((r.Out.take s.1).map fun g=>{ x with Glyph:=g })).map aY))]) (fun s=>s.1≤r.Out.length) (fun s=>tok s.2 67 6 s.1) (fun s=>r.Out.length - s.1) (0,some (_,0)) rfl ⟨rfl,rfl,trivial⟩ (Nat.zero_le _) (fun _ _ h=>h) ?_
  rintro ⟨k,s⟩ hk
  dsimp only at hk ⊢
  have hkl:((((r.Out.take k).map fun g=>{ x with Glyph:=g })).map aY).length=k:=by rw [Jv,Jv,List.length_take];omega
  try dsimp only [Jt,Js,Jr,Kz]
  repeat' (first|refine JU ?_|refine JG a5 JA ?_)
  refine ar rfl (fun h=>?_) (fun h=>?_)
  ·have hk2:k < r.Out.length:=by have:=Jz h;omega
   obtain ⟨g,hg⟩:∃g,r.Out[k]?=some g:=⟨_,Hb hk2⟩
   have hgg:=bO hg
   have hst:(((r.Out.take k).map fun g=>{ x with Glyph:=g })).map aY++[aY { x with Glyph:=g }]=(((r.Out.take (k+1)).map fun g=>{ x with Glyph:=g })).map aY:=by
    rw [List.take_add_one,hg,Option.toList_some,List.map_append,List.map_append]
    rfl
   clear h
   generalize (((r.Out.take k).map fun g=>{ x with Glyph:=g })).map aY=A at *
   repeat' (first|refine JU ?_|refine am ?_|refine JG a5 JA ?_|(apply bF;first|refine JJ a5 0 JD ?_|refine JJ a5 1 JD ?_|refine JJ a5 2 JD ?_|refine JJ a5 3 JD ?_|refine JK a5 0 JD ?_|refine JK a5 1 JD ?_|refine JK a5 2 JD ?_|refine JL a5 1 JB (by assumption) rfl ?_|refine JL a5 0 JB (by assumption) rfl ?_|fail)|(apply aL;first|refine aK a5 ?_|refine aG a5 ?_)|(apply aM;first|refine JI 14 a5 0 JF ?_|refine JI 14 a5 1 JF ?_|refine JI 14 a5 2 JF ?_|refine JI 15 a5 0 JF ?_|refine JI 15 a5 1 JF ?_|refine JI 15 a5 2 JF ?_|refine JH a5 0 JE ?_|refine JH a5 1 JE ?_|refine JH a5 2 JE ?_|refine JH a5 3 JE ?_|fail)|refine bj a5 fun _=>?_|refine bN a5 ?_|fail)
   refine bI a5 _ rfl rfl rfl rfl (by rw [hkl];exact List.perm_append_comm (l₁:=[_])) (by simp only [List.length_cons,List.length_nil];omega) (by simp only [List.length_cons,List.length_nil];omega) rfl fun s'=>?_
   repeat' (first|refine JU ?_|refine JG a5 JA ?_|(apply aS;refine aQ ?_)|fail)
   refine aC (k+1,s') rfl ⟨by rw [Jw];rfl,by dsimp only;rw [←hst];rfl,trivial⟩ hk2 (by dsimp only;omega) (fun _ _ h=>?_)
   rw [List.length_append,hkl] at h
   exact h.sublist (List.sublist_append_left ..)
  ·have hk2:k=r.Out.length:=by have:=Jy h;omega
   subst hk2
   rw [List.take_length]
   repeat' (first|refine JU ?_|refine JG a5 JA ?_|(apply aS;refine aQ ?_)|fail)
   refine b9 [] _ hct rfl rfl (Jp _) rfl fun c L1 hc=>?_
   subst hc
   refine aJ (bA (L':=[]) (List.nil_sublist _)) ?_
   repeat' (first|refine JU ?_|refine JG a5 JA ?_|(apply aS;refine aQ ?_)|fail)
   exact JR JB (gw l2 hlf)
 ·rw [if_pos (by omega)] at hmv
  rw [hmv] at hlf ⊢
  repeat' (first|refine JU ?_|refine JG a5 JA ?_|(apply aS;refine aQ ?_)|fail)
  exact JR JB (gw l2 hlf)
set_option maxHeartbeats 4000000 in
theorem FJ (hk:l.Kind=3):bJ Tryz.prog 40 (iA f n run m (p::q) deep) (kT l r (p::q) run p):=by
 obtain ⟨kd,ig,rs⟩:=l
 dsimp only at hk hm
 subst hk
 have hlg:=bH (c:=bi) hl
 have hmg:=bH (c:=bB) hm
 have hpl:=hps.lt p (by simp)
 obtain ⟨x,hx⟩:∃x,run[p]?=some x:=⟨_,Hb hpl⟩
 have hxg:=bH (c:=aY) hx
 have hp0:(bY (p::q))[(0:Int).toNat]?=some [aF p]:=rfl
 have hla:=fX (p:=p) (q:=q)
 obtain ⟨l1,l2,l3⟩:=gO hps
 have hnl:(bY (p::q)).length=q.length+1:=dm (p::q)
 have hrl:(run.map aY).length=run.length:=Jv ..
 have hol:=aZ r.Out
 have hoo:=hro.out
 have hlf:=fR (l:=⟨3,ig,rs⟩) (r:=r) hps
 have hsv:dW ⟨3,ig,rs⟩ r (p::q) run=gA r (p::q) run:=rfl
 have hnv:kT ⟨3,ig,rs⟩ r (p::q) run p=iS (gA r (p::q) run) ((gA r (p::q) run).length - (run.length - 1 - (p::q).getLastD p)):=rfl
 rw [hsv] at hlf
 rw [hnv]
 generalize (p::q).getLastD p=last at *
 refine aN Tryz.func40 rfl Tryz.ntmps40 rfl fun B=>?_
 repeat' (first|refine JU ?_|refine am ?_|refine JG a5 JA ?_|(apply aS;refine aQ ?_)|(apply aL;first|refine aK a5 ?_|refine aG a5 ?_)|(apply aM;first|refine JI 14 a5 0 JF ?_|refine JI 14 a5 1 JF ?_|refine JI 14 a5 2 JF ?_|refine JI 15 a5 0 JF ?_|refine JI 15 a5 1 JF ?_|refine JI 15 a5 2 JF ?_|refine JH a5 0 JE ?_|refine JH a5 1 JE ?_|refine JH a5 2 JE ?_|refine JH a5 3 JE ?_|fail)|refine bf ?_|refine bj a5 fun _=>?_|refine bD rfl ?_|refine bC rfl ?_)
 refine ar rfl (fun h=>?_) (fun h=>?_)
 ·obtain ⟨g,gs,hg⟩:∃g gs,r.Out=g::gs:=List.exists_cons_of_ne_nil fun e=>by have:=Jz h;have:=List.length_eq_zero_iff.2 e;omega
  have hlv:=uY run hr r g gs hg p q hps
  have hll:((gA r (p::q) run).map aY).length≤1000000:=by
   rw [Jv]
   have:=oo (l:=⟨3,ig,rs⟩) (r:=r) (ps:=p::q) (run:=run)
   rw [hsv] at this
   exact this.big hr
  clear h
  repeat' (first|refine JU ?_|refine JG a5 JA ?_)
  refine b9 [] _ hlv rfl rfl (Jp _) rfl fun c L1 hc=>?_
  subst hc
  refine aJ (bA (L':=[]) (List.nil_sublist _)) ?_
  repeat' (first|refine JU ?_|refine JG a5 JA ?_|(apply aS;refine aQ ?_)|fail)
  exact JR JB (gw l2 hlf)
 ·have he:r.Out=[]:=List.length_eq_zero_iff.1 (by have:=Jy h;omega)
  have hlv:gA r (p::q) run=run:=by
   unfold gA
   rw [he]
  rw [hlv] at hlf ⊢
  repeat' (first|refine JU ?_|refine JG a5 JA ?_|(apply aS;refine aQ ?_)|fail)
  exact JR JB (gw l2 hlf)
set_option maxHeartbeats 4000000 in
theorem FM (hk:l.Kind=6):bJ Tryz.prog 40 (iA f n run m (p::q) deep) (kT l r (p::q) run p):=by
 obtain ⟨kd,ig,rs⟩:=l
 dsimp only at hk hm
 subst hk
 have hlg:=bH (c:=bi) hl
 have hmg:=bH (c:=bB) hm
 have hpl:=hps.lt p (by simp)
 obtain ⟨x,hx⟩:∃x,run[p]?=some x:=⟨_,Hb hpl⟩
 have hxg:=bH (c:=aY) hx
 have hp0:(bY (p::q))[(0:Int).toNat]?=some [aF p]:=rfl
 have hla:=fX (p:=p) (q:=q)
 obtain ⟨l1,l2,l3⟩:=gO hps
 have hnl:(bY (p::q)).length=q.length+1:=dm (p::q)
 have hrl:(run.map aY).length=run.length:=Jv ..
 have hol:=aZ r.Out
 have hoo:=hro.out
 have hlf:=fR (l:=⟨6,ig,rs⟩) (r:=r) hps
 have hsv:dW ⟨6,ig,rs⟩ r (p::q) run=kD r p run:=rfl
 have hnv:kT ⟨6,ig,rs⟩ r (p::q) run p=iS (kD r p run) (if p < (p::q).getLastD p then (p::q).getLastD p else (kD r p run).length - (run.length - 1 - (p::q).getLastD p)):=by
  unfold kT jA
  rw [hsv,if_neg (by decide:¬(6:Int)=4)]
  simp only [true_and]
 have hpv:kD r p run=run.set p { x with Advance:=IntKind.i64.wrap (x.Advance+r.X) }:=by
  unfold kD
  rw [hx]
 rw [hsv,hpv] at hlf
 rw [hnv,hpv]
 generalize (p::q).getLastD p=last at *
 have hct:=mg hpl hr { x with Advance:=IntKind.i64.wrap (x.Advance+r.X) }
 have hsl:((run.set p { x with Advance:=IntKind.i64.wrap (x.Advance+r.X) }).map aY).length=run.length:=by rw [Jv,List.length_set]
 refine aN Tryz.func40 rfl Tryz.ntmps40 rfl fun B=>?_
 repeat' (first|refine JU ?_|refine am ?_|refine JG a5 JA ?_|(apply bF;first|refine JJ a5 0 JD ?_|refine JJ a5 1 JD ?_|refine JJ a5 2 JD ?_|refine JJ a5 3 JD ?_|refine JK a5 0 JD ?_|refine JK a5 1 JD ?_|refine JK a5 2 JD ?_|refine JL a5 1 JB (by assumption) rfl ?_|refine JL a5 0 JB (by assumption) rfl ?_|fail)|(apply aS;refine aQ ?_)|(apply aL;first|refine aK a5 ?_|refine aG a5 ?_)|(apply aM;first|refine JI 14 a5 0 JF ?_|refine JI 14 a5 1 JF ?_|refine JI 14 a5 2 JF ?_|refine JI 15 a5 0 JF ?_|refine JI 15 a5 1 JF ?_|refine JI 15 a5 2 JF ?_|refine JH a5 0 JE ?_|refine JH a5 1 JE ?_|refine JH a5 2 JE ?_|refine JH a5 3 JE ?_|fail)|refine bf ?_|refine bj a5 fun _=>?_|refine bD rfl ?_|refine bC rfl ?_)
 refine cf (AS rfl rfl) rfl rfl ?_
 repeat' (first|refine JU ?_|refine JG a5 JA ?_|(apply bF;first|refine JJ a5 0 JD ?_|refine JJ a5 1 JD ?_|refine JJ a5 2 JD ?_|refine JJ a5 3 JD ?_|refine JK a5 0 JD ?_|refine JK a5 1 JD ?_|refine JK a5 2 JD ?_|refine JL a5 1 JB (by assumption) rfl ?_|refine JL a5 0 JB (by assumption) rfl ?_|fail)|(apply aS;refine aQ ?_)|(apply aM;first|refine JI 14 a5 0 JF ?_|refine JI 14 a5 1 JF ?_|refine JI 14 a5 2 JF ?_|refine JI 15 a5 0 JF ?_|refine JI 15 a5 1 JF ?_|refine JI 15 a5 2 JF ?_|refine JH a5 0 JE ?_|refine JH a5 1 JE ?_|refine JH a5 2 JE ?_|refine JH a5 3 JE ?_|fail)|refine bN a5 ?_|fail)
 refine b9 [] _ hct rfl rfl (Jp _) rfl fun c L1 hc=>?_
 subst hc
 refine aJ (bA (L':=[]) (List.nil_sublist _)) ?_
 repeat' (first|refine JU ?_|refine JG a5 JA ?_)
 refine ar rfl (fun h=>?_) (fun h=>?_)
 ·have hlt:p < last:=by have:=Jz h;omega
  rw [if_pos hlt]
  repeat' (first|refine JU ?_|refine JG a5 JA ?_)
  exact JT JC
 ·have hlt:¬p < last:=by have:=Jy h;omega
  rw [if_neg hlt]
  repeat' (first|refine JU ?_|refine JG a5 JA ?_|(apply aS;refine aQ ?_)|fail)
  exact JR JB (gw l2 hlf)
end
end Go.Proofs.YtpmdfoaadejmkaaGreatDoor
