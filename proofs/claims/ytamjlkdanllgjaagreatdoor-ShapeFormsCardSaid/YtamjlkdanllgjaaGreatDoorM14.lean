/-
  An engine's match.
-/
import Derived.Test.YtamjlkdanllgjaaGreatDoorM13
import Derived.Test.YtamjlkdanllgjaaGreatDoorM05
import Derived.Test.YtamjlkdanllgjaaGreatDoorM04
import Derived.Test.YtamjlkdanllgjaaGreatDoorM07
import Derived.Test.YtamjlkdanllgjaaGreatDoorM12
namespace Go.Proofs.YtamjlkdanllgjaaGreatDoor
open Go.RowKit
attribute [local irreducible] AT bz AX AO Av Kt aZ cY DA cu
set_option maxRecDepth 8000
theorem vT (l:List Int) (z:Int):bD Tryz.prog 298 [.imm 1 (aT l),aF z] (aF (if z∈l then (l.idxOf z:Nat) else -1)):=by
 refine aI Tryz.func298 rfl Tryz.ntmps298 rfl fun B=>?_
 refine cF 0 rfl rfl fun hlen=>?_
 have hll:=b7 l
 rw [hll] at hlen
 repeat' (first|refine ae ?_|refine a6 ?_|refine ar ?_|refine a8 ?_|refine aa ?_|refine LR a7 LL ?_)
 refine aN [0,1,7] (α:=Nat) (fun i=>[(8,aF i)]) (fun i=>i≤l.length∧z∉l.take i) (fun _=>[]) (fun i=>l.length - i) 0 rfl ⟨rfl,trivial⟩ ⟨Nat.zero_le _,by simp⟩ (fun _ _ h=>h) fun i hi=>?_
 try dsimp only [Mt,Ms,Mr,Mn]
 repeat' (first|refine ae ?_|refine a6 ?_|refine a8 ?_|refine aa ?_|refine LR a7 LL ?_)
 refine aB rfl (fun h=>?_) (fun h=>?_)
 ·have hil:i < l.length:=by have:=Mz h;omega
  obtain ⟨y,hy⟩:∃z,l[i]?=some z:=⟨_,Ia hil⟩
  have hzg:=bH hy
  have htk:l.take (i+1)=l.take i++[y]:=by rw [List.take_add_one,hy];rfl
  clear h
  repeat' (first|refine ae ?_|refine a6 ?_|refine ar ?_|refine aq ?_|refine a8 ?_|refine aa ?_|refine LR a7 LL ?_|(apply aL;first|refine aK a7 ?_|refine aH a7 ?_)|fail)
  refine aB rfl (fun h2=>?_) (fun h2=>?_)
  ·have h2':=Mz h2
   subst h2'
   repeat' (first|refine ae ?_|refine a6 ?_|refine am ?_|refine a8 ?_|refine az ?_|refine aR ?_|refine bF ?_|refine aa ?_|refine LR a7 LL ?_)
   refine MA LL ?_
   have hm:=Mx hy
   have:l.idxOf z=i:=by
    have e:l=l.take i++z::l.drop (i+1):=by
     conv=>lhs;rw [←List.take_append_drop i l,List.drop_eq_getElem_cons hil,(Mq hy).2]
    rw [e,List.idxOf_append,if_neg hi.2,List.idxOf_cons_self,List.length_take]
    omega
   rw [if_pos hm,this]
  ·have h2':=My h2
   repeat' (first|refine a6 ?_|refine aq ?_|refine a8 ?_|refine aP ?_|refine aa ?_|refine LR a7 LL ?_|(apply aY;refine aX ?_)|fail)
   exact aE (i+1) rfl ⟨by rw [Mw];rfl,trivial⟩ ⟨by omega,by rw [htk];simp [hi.2];exact h2'⟩ (by omega) (fun _ _ h=>h)
 ·have hil:i=l.length:=by have:=My h;omega
  subst hil
  rw [List.take_length] at hi
  repeat' (first|refine ae ?_|refine a6 ?_|refine am ?_|refine aO ?_|refine a8 ?_|refine av ?_|refine aC ?_|refine aA ?_|refine aa ?_|refine LR a7 LL ?_)
  refine MA LL ?_
  rw [if_neg hi.2]
instance (l:List Int) (z:Int):AD Tryz.prog 298 [.imm 1 (aT l),aF z] (aF (if z∈l then (l.idxOf z:Nat) else -1)):=⟨vT l z⟩
theorem qC (l:List Int) (z:Int):bD Tryz.prog 323 [.imm 1 (aT l),aF z] (cw (l.contains z)):=by
 refine aI Tryz.func323 rfl Tryz.ntmps323 rfl fun B=>?_
 repeat' (first|refine ae ?_|refine a6 ?_|refine am ?_|refine a8 ?_|refine aa ?_|refine LR a7 LL ?_|(apply bk;refine b9 ?_)|fail)
 refine MA LL ?_
 congr 2
 by_cases h:z∈l
 ·rw [if_pos h,decide_eq_true (by omega)];simp [h]
 ·rw [if_neg h,decide_eq_false (by omega)];simp [h]
instance (l:List Int) (z:Int):AD Tryz.prog 323 [.imm 1 (aT l),aF z] (cw (l.contains z)):=⟨qC l z⟩
structure jI (e:oB):Prop where
 few:e.l.Rules.length≤6
 ends:rV e
 fore:∀gl,fA e.cls e.fore e.foreE gl=c9 (eA (e.l.Rules.map du) (ri e.l.Rules) gl) (e.l.Rules.map du).length
 back:∀gl,fA e.cls e.back e.backE gl=c9 (eA (e.l.Rules.map bh.Back) (fun _=>true) gl) (e.l.Rules.map bh.Back).length
 long:fz e.l.Rules≤1000000∧gN e.l.Rules≤1000000
section
variable {e:oB} (h:jI e)
include h
theorem jI.lt (bg fg:List Int):fA e.cls e.back e.backE bg &&& fA e.cls e.fore e.foreE fg < 64:=by
 have h1:=Nat.and_le_right (n:=fA e.cls e.back e.backE bg) (m:=fA e.cls e.fore e.foreE fg)
 have h2:=lQ (eA (e.l.Rules.map du) (ri e.l.Rules) fg) (e.l.Rules.map du).length
 rw [←h.fore fg,Mv] at h2
 have h3:2 ^ e.l.Rules.length≤2 ^ 6:=Nat.pow_le_pow_right (by omega) h.few
 have:(2:Nat) ^ 6=64:=rfl
 omega
theorem jI.first (ms:List Bool) (run:List aM) (i:Nat):sf (fA e.cls e.back e.backE (((lP ms e.l.Ignore run i).take (gN e.l.Rules)).map (fj run)) &&& fA e.cls e.fore e.foreE (((dU ms e.l.Ignore run i).take (fz e.l.Rules)).map (fj run)))=match e.l.Rules.findIdx? (eg ms e.l.Ignore run i) with
  | some n=>(n:Int)
  | none=> -1:=by
 have hlt:=h.lt (((lP ms e.l.Ignore run i).take (gN e.l.Rules)).map (fj run)) (((dU ms e.l.Ignore run i).take (fz e.l.Rules)).map (fj run))
 rw [h.fore,h.back] at hlt ⊢
 have ht:=vH (ms:=ms) (ig:=e.l.Ignore) (run:=run) (i:=i) (rs:=e.l.Rules) fun n=>yj (rs:=e.l.Rules) (n:=n)
 generalize (c9 (eA (e.l.Rules.map bh.Back) _ _) _ &&& _)=b at ht hlt ⊢
 obtain ⟨k1,k2⟩:=vX (q:=eg ms e.l.Ignore run i) (l:=e.l.Rules) ht
 unfold sf
 cases hf:e.l.Rules.findIdx? (eg ms e.l.Ignore run i) with
 | none=>rw [k2 hf];rfl
 | some n=>
  obtain ⟨k3,k4⟩:=k1 n hf
  have hn:=(List.findIdx?_eq_some_iff_getElem.1 hf).1
  have hf:=h.few
  rw [if_neg (fun e=>by rw [e,Nat.zero_testBit] at k3;cases k3)]
  exact Dj b hlt n (by omega) k3 k4
end
theorem u1:∀{ss:List (List Int)} {gl:List Int},eB ss gl=true→ss.length≤gl.length
 | [],_,_=>Nat.zero_le _
 | _::_,[],h=>by cases h
 | _::ss,_::gl,h=>by
  rw [eB,Bool.and_eq_true] at h
  have:=u1 h.2
  simp;omega
theorem og {ms:List Bool} {ig:Bool} {run:List aM} {i:Nat} {r:bh} (h:eg ms ig run i r=true):0 < r.In.length∧r.In.length≤(dU ms ig run i).length:=by
 unfold eg at h
 rw [Bool.and_eq_true,Bool.and_eq_true] at h
 have h1:=u1 h.2.1
 rw [List.length_append,Mv] at h1
 constructor
 ·have:=h.1
  cases hr:r.In with
  | nil=>rw [hr] at this;cases this
  | cons a b=>simp
 ·omega
theorem BI {rs:List bh} {r:bh} (h:r∈rs):r.In.length≤fz rs:=by
 have:=(m6 (g:=fun r:bh=>r.In.length+r.Ahead.length) (m:=0)).2 r h
 unfold fz
 omega
theorem CQ {ms:List Bool} {ig:Bool} {run:List aM} {i:Nat}:gZ ms ig run true (i:Int)=dU ms ig run i:=by
 unfold gZ
 rw [if_pos rfl,Int.toNat_natCast]
theorem wA {ms:List Bool} {ig:Bool} {run:List aM} {i:Nat}:gZ ms ig run false ((i:Int) - 1)=lP ms ig run i:=by
 unfold gZ
 simp only [Bool.false_eq_true,if_false]
 rw [show ((i:Int) - 1+1).toNat=i by omega]
def jZ (E:ot) (l:b6) (run:List aM) (i:Nat) (forms:List Int):AV:=match ej E.ms l run i forms with
 | none=> .tup [J9,.sc (.slice none 0 0)]
 | some r=> .tup [.iptr (bR (eC r)),.imm 1 (df (dm E.ms l run i r))]
abbrev iv (wb:Nat) (E:ot) (q:Option f0) (run:List aM):AL:=uY wb (.iptr (dZ E)) q run++[cX]
set_option maxHeartbeats 4000000 in
theorem pP (E:ot) (e:oB) (he:jI e) (wb:Nat) (q:Option f0) (run:List aM) (hq:cS q run) (hr:run.length≤1000000) (i:Nat) (hi0:i≤1000000) (forms:List Int):AC Tryz.prog 284 [eZ wb,.iptr (f4 e),aF i,.imm 1 (aT forms)] (iv wb E q run) fun c L=>c=jZ E e.l run i forms∧L=iv wb E q run:=by
 refine aI Tryz.func284 rfl Tryz.ntmps284 rfl fun B=>?_
 have hfl:=b7 forms
 refine cF 3 rfl rfl fun hlen=>?_
 by_cases hi:i < run.length
 ·obtain ⟨m,rfl⟩:=hq.lt hi
  obtain ⟨x,hx⟩:∃x,run[i]?=some x:=⟨_,Ia hi⟩
  have hse:=sY E e wb m run i x hx
  repeat' (first|refine ae ?_|refine a6 ?_|refine a8 ?_|refine aa ?_|refine LR a7 LL ?_|refine MB LL ?_|(apply bL;first|refine LV a7 0 LO ?_|refine LV a7 1 LO ?_|refine LV a7 2 LO ?_|refine LV a7 3 LO ?_|refine LW a7 0 LO ?_|refine LW a7 1 LO ?_|refine LW a7 2 LO ?_|refine LZ a7 1 LM (by assumption) rfl ?_|refine LZ a7 0 LM (by assumption) rfl ?_|fail)|fail)
  refine bN [0,1,2,3] (mz E.ms e.l.Ignore x=false) rfl (fun Q' K=>?_) (fun hC=>?_) (fun hC=>?_)
  ·repeat' (first|refine aa ?_|refine LR a7 LL ?_|refine MB LL ?_|refine MC LN ?_|refine MD LM (fun _=>?_) (fun _=>?_))
   ·refine aW (uY wb (.iptr (dZ E)) (some m) run) [cX] hse rfl rfl (Mp _) rfl fun c L1 ⟨hc,hL⟩=>?_
    subst hc;subst hL
    repeat' (first|refine aa ?_|refine LR a7 LL ?_|refine MB LL ?_)
    exact K _ _ rfl rfl (by simp)
   ·rename_i hx2
    have:=Mz hx2
    omega
  ·have hm:ej E.ms e.l run i forms=none:=by
    unfold ej
    rw [if_neg]
    unfold il
    rw [hx]
    dsimp only
    rw [hC]
    simp
   unfold jZ
   rw [hm]
   repeat' (first|refine ae ?_|refine a6 ?_|refine am ?_|refine a8 ?_|refine az ?_|refine aa ?_|refine LR a7 LL ?_)
   exact ME LM ⟨rfl,rfl⟩
  have hC:mz E.ms e.l.Ignore x=true:=by simpa using hC
  have h2:=m4 (j:=2) m.junk hx rfl
  repeat' (first|refine ae ?_|refine a6 ?_|refine aq ?_|refine a8 ?_|refine LR a7 LL ?_)
  refine bN [0,1,2] (forms≠[]∧forms.contains x.Form=false) rfl (fun Q' K=>?_) (fun hC2=>?_) (fun hC2=>?_)
  ·repeat' (first|refine aa ?_|refine LR a7 LL ?_|refine MB LL ?_|refine MC LN ?_|(apply bL;first|refine LV a7 0 LO ?_|refine LV a7 1 LO ?_|refine LV a7 2 LO ?_|refine LV a7 3 LO ?_|refine LW a7 0 LO ?_|refine LW a7 1 LO ?_|refine LW a7 2 LO ?_|refine LZ a7 1 LM (by assumption) rfl ?_|refine LZ a7 0 LM (by assumption) rfl ?_|fail)|(apply aL;first|refine aK a7 ?_|refine aH a7 ?_)|(apply bk;refine b9 ?_)|refine MD LM (fun _=>?_) (fun _=>?_))
   all_goals exact K _ _ rfl rfl (by cases forms <;> simp_all)
  ·have hm:ej E.ms e.l run i forms=none:=by
    unfold ej
    rw [if_neg]
    unfold il
    rw [hx]
    dsimp only
    rw [hC2.2]
    cases forms with
    | nil=>exact absurd rfl hC2.1
    | cons a b=>simp
   unfold jZ
   rw [hm]
   repeat' (first|refine ae ?_|refine a6 ?_|refine am ?_|refine a8 ?_|refine az ?_|refine aa ?_|refine LR a7 LL ?_)
   exact ME LM ⟨rfl,rfl⟩
  have hbe:il E.ms e.l.Ignore run i forms=true:=by
   unfold il
   rw [hx]
   dsimp only
   rw [hC]
   cases forms with
   | nil=>rfl
   | cons a b=>cases hcc:(a::b).contains x.Form with
    | true=>rfl
    | false=>exact absurd ⟨by simp,hcc⟩ hC2
  have hmv:ej E.ms e.l run i forms=e.l.Rules.find? (eg E.ms e.l.Ignore run i):=by
   unfold ej
   rw [if_pos hbe]
  have s1:=xN E e wb (some m) run hq hr true i ⟨by omega,fun _=>by omega,fun h=>by cases h⟩ (by omega) (fz e.l.Rules)
  have s2:=xN E e wb (some m) run hq hr false ((i:Int) - 1) ⟨by omega,fun h=>(by cases h),fun _=>by omega⟩ (by omega) (gN e.l.Rules)
  rw [CQ] at s1
  rw [wA] at s2
  have hfirst:=he.first E.ms run i
  repeat' (first|refine ae ?_|refine a6 ?_|refine aq ?_|refine a8 ?_|refine LR a7 LL ?_)
  refine aW (uY wb (.iptr (dZ E)) (some m) run) [cX] s1 rfl rfl (Mp _) rfl fun c L1 ⟨hc,hL⟩=>?_
  subst hc;subst hL
  repeat' (first|refine ae ?_|refine a6 ?_|refine a8 ?_|refine aa ?_|refine LR a7 LL ?_|(apply aY;refine aX ?_)|fail)
  refine aW (uY wb (.iptr (dZ E)) (some m) run) [cX] s2 rfl rfl (Mp _) rfl fun c L1 ⟨hc,hL⟩=>?_
  subst hc;subst hL
  repeat' (first|refine ae ?_|refine a6 ?_|refine a8 ?_|refine aa ?_|refine LR a7 LL ?_)
  refine aW [cX] (uY wb (.iptr (dZ E)) (some m) run) (y3 e he.ends _ _ (he.lt _ _)) rfl rfl List.perm_append_comm rfl fun c L1 ⟨hc,hL⟩=>?_
  subst hc;subst hL
  refine bq (b8 (L':=iv wb E (some m) run) List.perm_append_comm) ?_
  rw [hfirst]
  unfold jZ
  rw [hmv,Bh]
  cases hfi:e.l.Rules.findIdx? (eg E.ms e.l.Ignore run i) with
  | none=>
   dsimp only [Option.bind_none]
   repeat' (first|refine ae ?_|refine a6 ?_|refine am ?_|refine a8 ?_|refine az ?_|refine aa ?_|refine LR a7 LL ?_|refine bI rfl ?_)
   exact ME LM ⟨rfl,rfl⟩
  | some n=>
   obtain ⟨hn,hn1,hn2⟩:=List.findIdx?_eq_some_iff_getElem.1 hfi
   obtain ⟨r,hrr⟩:∃r,e.l.Rules[n]?=some r:=⟨_,Ia hn⟩
   rw [(Mq hrr).2] at hn1
   obtain ⟨hin0,hin⟩:=og hn1
   have hfm:=BI (Mx hrr)
   have hrg:((iu e.l).Rules.map bR)[n]?=some (bR (eC r)):=by simp [iu,hrr]
   have hpl:((dU E.ms e.l.Ignore run i).take (fz e.l.Rules)).take r.In.length=dm E.ms e.l run i r:=by
    unfold dm
    rw [List.take_take,Nat.min_eq_left hfm]
   have hnl:=kH ((dU E.ms e.l.Ignore run i).take (fz e.l.Rules))
   rw [List.length_take] at hnl
   have hril:=c8 r.In
   dsimp only [Option.bind_some]
   rw [hrr]
   dsimp only
   repeat' (first|refine ae ?_|refine a6 ?_|refine aq ?_|refine a8 ?_|refine aa ?_|refine LR a7 LL ?_|(apply aL;first|refine aK a7 ?_|refine aH a7 ?_)|refine bo rfl ?_)
   refine bB 6 [(0,.v),(1,.v),(2,.v),(3,.v),(4,.v),(5,.v)] none ?_ trivial rfl (by kernel_rfl) (by kernel_rfl) (by kernel_rfl) mixed (by kernel_rfl) rfl
   repeat' (first|refine aJ ?_|refine bw a7 ?_|fail)
   refine E7 a7 r.In.length rfl rfl rfl rfl rfl rfl (by rw [show (eC r).In=r.In from rfl,hril]) (by rw [show (eC r).In=r.In from rfl,hril]) (by omega) trivial ?_
   rw [show (df ((dU E.ms e.l.Ignore run i).take (fz e.l.Rules))).take r.In.length=df (dm E.ms e.l run i r) by rw [←hpl];unfold df aT;rw [←List.map_take,←List.map_take]]
   repeat' (first|refine aJ ?_|refine bw a7 ?_|fail)
   refine MG [8,99] LL ?_
   repeat' (first|refine am ?_|refine a8 ?_|refine aa ?_|refine LR a7 LL ?_)
   exact ME LM ⟨rfl,rfl⟩
 ·have hm:ej E.ms e.l run i forms=none:=by
   unfold ej
   rw [if_neg]
   unfold il
   rw [List.getElem?_eq_none (by omega)]
   exact fun h=>by cases h
  unfold jZ
  rw [hm]
  repeat' (first|refine ae ?_|refine a6 ?_|refine a8 ?_|refine aa ?_|refine LR a7 LL ?_|refine MB LL ?_|(apply bL;first|refine LV a7 0 LO ?_|refine LV a7 1 LO ?_|refine LV a7 2 LO ?_|refine LV a7 3 LO ?_|refine LW a7 0 LO ?_|refine LW a7 1 LO ?_|refine LW a7 2 LO ?_|refine LZ a7 1 LM (by assumption) rfl ?_|refine LZ a7 0 LM (by assumption) rfl ?_|fail)|fail)
  refine bN [0,1,2,3] True rfl (fun Q' K=>?_) (fun hC=>?_) (fun hC=>absurd trivial hC)
  ·repeat' (first|fail)
   refine lr a7 rfl hq rfl rfl ?_
   repeat' (first|refine aa ?_|refine LR a7 LL ?_|refine MB LL ?_|refine MC LN ?_|refine MD LM (fun _=>?_) (fun _=>?_))
   ·rename_i h
    have:=My h
    omega
   ·exact K _ _ rfl rfl (by simp)
  ·repeat' (first|refine ae ?_|refine a6 ?_|refine am ?_|refine a8 ?_|refine az ?_|refine aa ?_|refine LR a7 LL ?_)
   exact ME LM ⟨rfl,rfl⟩
end Go.Proofs.YtamjlkdanllgjaaGreatDoor
namespace Go.Proofs.YtamjlkdanllgjaaGreatDoor
open Go.RowKit
end Go.Proofs.YtamjlkdanllgjaaGreatDoor
namespace Go.Proofs.YtamjlkdanllgjaaGreatDoor
open Go.RowKit
section
variable {P:Program} {r:Option Nat} {Q:Exit→Act→World→Prop} {nt:Nat} {D:List Deferred} {fr:bP} {B:Bs} {L:AL}
theorem oG {α:Type} {A C:Code} (ks:List Nat) (fr1:α→bP) (L1:α→AL) (φ:α→Prop) (hA:∀Q',(∀x fr',φ x→fE fr' ks=some (fr1 x)→AX P .normal Q' nt D fr' B (L1 x))→AT P r A Q' nt D fr B L) (hB:∀x,φ x→AT P r C Q nt D (fr1 x) B (L1 x)):AT P r A (Kt P r C Q) nt D fr B L:=
 hA _ fun x _ hx h=>a8 (s6 ks h (hB x hx))
end
theorem u3 {α:Type} {sz:Nat}:∀(l:List (List α)) (i c:Nat) (e:List α) (v:α),(∀e∈l,e.length=sz)→l[i]?=some e→c < sz→l.flatten.set (i * sz+c) v=(l.set i (e.set c v)).flatten
 | [],i,c,e,v,_,h,_=>by simp at h
 | x::l,0,c,e,v,hs,h,hc=>by
  simp at h
  subst h
  have hx:=hs x (List.mem_cons_self ..)
  rw [List.flatten_cons,List.set_cons_zero,List.flatten_cons,Nat.zero_mul,Nat.zero_add,List.set_append_left _ _ (by omega)]
 | x::l,i+1,c,e,v,hs,h,hc=>by
  have hx:=hs x (List.mem_cons_self ..)
  rw [List.flatten_cons,List.set_cons_succ,List.flatten_cons,←u3 l i c e v (fun e he=>hs e (Mu _ he)) (by simpa using h) hc,List.set_append_right _ _ (by rw [hx,Nat.add_mul];omega),hx,show (i+1) * sz+c - sz=i * sz+c by rw [Nat.add_mul];omega]
end Go.Proofs.YtamjlkdanllgjaaGreatDoor
namespace Go.Proofs.YtamjlkdanllgjaaGreatDoor
open Go.RowKit
theorem jC {P:Program} (w:World) (t tn ty e:TypeId) (i:TypeInfo) (z:Value) (k kn:IntKind) (ht:P.underlying t=some (.slice e)) (htn:P.underlying tn=some (.int kn)) (hi:P.info? e=some i) (hz:i.zero=some z)
  (b:Addr) (sLen sCap:Nat) (olds:List Value) (hlo:olds.length=sLen * i.size) (holds:∀j v,olds[j]?=some v→w.cell? (b.add j)=some v)
  (n:Nat) (h0:0 < n) (hs:0 < i.size) (hg:sCap < sLen+n) (h63:((sLen+n:Nat):Int)≤9223372036854775807) (h48:n * i.bytes≤281474976710656) (hfit:Builtin.nextslicecap (sLen+n) sCap * i.bytes≤281474976710656):
  (Builtin.append_ #[t,tn] ty #[.slice (some b) sLen sCap,.int k n]).run P w=
   .ok (.slice (some ⟨w.heap.size,0,none⟩) (sLen+n) (grownCap w (sLen+n) sCap e)) (w.drew.alloc (.cells (olds.toArray++Builtin.zeroCells z.cells n++Builtin.zeroCells z.cells (grownCap w (sLen+n) sCap e - (sLen+n))) e)):=by
 have hn:n≠0:=by omega
 have hnn:¬(sLen+n≤sCap):=by omega
 have hw:IntKind.i64.wrap (n:Int)=n:=by rw [IntKind.wrap_i64];omega
 have h63':¬(9223372036854775807 < ((sLen:Int)+(n:Int))):=by omega
 have h48':¬(281474976710656 < Builtin.nextslicecap (sLen+n) sCap * i.bytes):=by omega
 have h48i:¬(281474976710656 < (n:Int) * (i.bytes:Int)):=by
  rw [←Int.natCast_mul]
  omega
 have hneg:¬((n:Int) < 0):=by omega
 have hns:¬(n * i.size=0):=Nat.mul_ne_zero hn (by omega)
 have hfo:=run_firstCells_some (P:=P) w.drew i.size sLen b sLen sCap olds hlo (by simpa using holds)
 simp [Builtin.append_,run_underlying ht,run_underlying htn,sizeOf,typeInfo,zeroValue,hi,hz,asInt,asIntOf,hw,hn,hnn,hneg,hns,h63',h48',h48i,Question.forced,hfo,newRow,grownCap]
section
variable {P:Program} {fr:bP} {B:Bs} {L:AL} {d:Option Tmp} {ty t t' tn:TypeId} {pos:String} {af:Array Edge} {g:Option (Nat×Bool)} {x y z q:Operand} {u:AV}
theorem tA (i:Nat) {e sz by_ b n cap m:Nat} {k kn:IntKind} {a:Int} {cs:List AV} {zs:List Value} (hc:jE P t e sz by_) (hs0:0 < sz) (hz:CZ P e zs) (hz1:zs.all (·.oneCell')=true) (hn':P.underlying tn=some (.int kn)) (hx:bc fr x=some (.sc (.slice (some ⟨b,0,none⟩) n cap))) (hy:bc fr y=some (.sc (.int k a))) (ha:a=(m:Int)) (h0:0 < m) (hL:L[i]?=some (b,.box cs e)) (hcl:cap * sz≤cs.length) (hn:n≤cap) (hg:cap < n+m) (h63:n+m≤maxLen) (hby:(n+m) * by_≤140737488355328):
  AO P ⟨d,.call ⟨.builtin .append,#[x,y],#[t,tn]⟩,ty,pos,af,g⟩ fr B L (fun r L'=>∃b' cs' cap',r= .sc (.slice (some ⟨b',0,none⟩) (n+m) cap')∧cap' * sz≤cs'.length∧cs'.take (n * sz)=cs.take (n * sz)∧n+m≤cap'∧cap'≤maxLen∧L'=(b',.box cs' e)::L):=by
 intro σ ρ w hρ hw
 subst ha
 have hxv:=(hρ x _ hx).sc_inv
 haveI:=hc
 obtain ⟨inf,zz,hi,hsz,rfl,hzz,hzs⟩:=hc.info
 have hzc:=hz.cells hi hzz w
 obtain ⟨o,ho,vs,rfl,hvs,h1⟩:=hw.here _ (Mx hL)
 have hl:=hvs.1
 have hnc:n * sz≤cap * sz:=Nat.mul_le_mul_right _ hn
 have hm63:=h63
 unfold maxLen at h63
 unfold gn
 have holds:∀j v,(vs.take (n * sz))[j]?=some v→w.cell? ((⟨b,0,none⟩:Addr).add j)=some v:=fun j v hj=>by
  rw [da,Nat.zero_add,cI ho]
  have hjl:=(Mq hj).1
  rw [List.length_take] at hjl
  rw [List.getElem?_take_of_lt (by omega)] at hj
  simpa using hj
 have hbm:m * inf.bytes≤(n+m) * inf.bytes:=Nat.mul_le_mul_right _ (by omega)
 have hr:=jC (P:=P) w t tn ty e inf zz k kn hc.under hn' hi hzz ⟨b,0,none⟩ n cap (vs.take (n * sz)) (by rw [hsz,List.length_take];omega) holds m h0 (by omega) hg (by omega) (by omega) (growslice_fits (by omega) hby)
 rw [show (execOp ρ ⟨d,.call ⟨.builtin .append,#[x,y],#[t,tn]⟩,ty,pos,af,g⟩).run P w= .ok (.value (.slice (some ⟨w.heap.size,0,none⟩) (n+m) (grownCap w (n+m) cap e))) (w.drew.alloc (.cells ((vs.take (n * sz)).toArray++Builtin.zeroCells zz.cells m++Builtin.zeroCells zz.cells (grownCap w (n+m) cap e - (n+m))) e)) by
  simp [execOp,resolve,hxv,(hρ y _ hy).sc_inv,invoke,builtin,hr]]
 have hge:=grownCap_ge w (n+m) cap e
 have hgm:=grownCap_le_maxLen w (n+m) cap e hm63
 have hzl:∀k,(Builtin.zeroCells zz.cells k).toList.length=k * sz:=fun k=>by rw [Array.length_toList,size_zeroCells,hzs]
 have hzm:∀k,∀v∈(Builtin.zeroCells zz.cells k).toList,v.oneCell'=true:=fun k v hv=>by
  have:=fc hv
  rw [hzc] at this
  exact List.all_eq_true.1 hz1 v (by simpa using this)
 generalize grownCap w (n+m) cap e=cap' at *
 have hmc:cap' * sz=n * sz+(m * sz+(cap' - (n+m)) * sz):=by rw [←Nat.add_mul,←Nat.add_mul];congr 1;omega
 have hzl':=hzl (cap' - (n+m))
 have hzm':=hzm (cap' - (n+m))
 have hzl2:=hzl m
 have hzm2:=hzm m
 generalize Builtin.zeroCells zz.cells (cap' - (n+m))=zc at *
 generalize Builtin.zeroCells zz.cells m=zd at *
 refine ⟨σ,.sc _,_,bW.le_refl _,.sc _,(hw.drew _).alloc _ (.box (cs.take (n * sz)++zd.toList.map AV.sc++zc.toList.map AV.sc) e) ⟨vs.take (n * sz)++zd.toList++zc.toList,by simp,dx (dx (eR hvs _) (mJ _)) (mJ _),fun u hu=>?_⟩,w.heap.size,_,cap',rfl,?_,?_,hge,hgm,rfl⟩
 ·rcases Mo hu with hu | hu
  ·rcases Mo hu with hu | hu
   ·exact h1 _ (List.mem_of_mem_take hu)
   ·exact hzm2 u hu
  ·exact hzm' u hu
 ·simp only [List.length_append,Mv,hzl',hzl2,List.length_take];omega
 ·rw [List.append_assoc,List.take_append_of_le_length (by simp;omega),List.take_of_length_le (by simp;omega)]
end
section
variable {P:Program} {tt:TT} {r:Option Nat} {ops:Array Oper} {Q:Exit→Act→World→Prop} {nt:Nat} {D:List Deferred} {fr:bP} {B:Bs} {L:AL} {rest:List Oper} {d:Nat} {ty t t' tn:TypeId} {pos:String} {af:Array Edge} {x y z:Operand} {u:AV}
theorem w9 (ok:dG P tt) (i m:Nat) {e sz by_ b n cap:Nat} {k kn:IntKind} {a:Int} {cs:List AV} {zs:List Value} (ht:iS tt t=some (e,sz,by_)) (hz:zI tt e=some zs) (hz1:zs.all (·.oneCell')=true) (hn':P.underlying tn=some (.int kn)) (hx:bc fr x=some (.sc (.slice (some ⟨b,0,none⟩) n cap))) (hy:bc fr y=some (.sc (.int k a))) (ha:a=(m:Int)) (h0:0 < m) (hL:L[i]?=some (b,.box cs e)) (hcl:cap * sz≤cs.length) (hn:n≤cap) (hg:cap < n+m) (h63:n+m≤maxLen) (hby:(n+m) * by_≤140737488355328) (hd:Nat.ble nt d=false)
  (h:∀b' cs' cap',cap' * sz≤cs'.length→cs'.take (n * sz)=cs.take (n * sz)→n+m≤cap'→cap'≤maxLen→bz P r ops Q nt D rest ((d,.sc (.slice (some ⟨b',0,none⟩) (n+m) cap'))::fr) B ((b',.box cs' e)::L)):
  bz P r ops Q nt D (⟨some d,.call ⟨.builtin .append,#[x,y],#[t,tn]⟩,ty,pos,af,none⟩::rest) fr B L:=
 ce hd rfl (tA i (bv ok ht).1 (bv ok ht).2 (er ok hz) hz1 hn' hx hy ha h0 hL hcl hn hg h63 hby) fun c L' ⟨b',cs',cap',h1,h2,h3,h4,h5,h7⟩=>by subst h1;subst h7;exact h b' cs' cap' h2 h3 h4 h5
theorem Hr (ok:dG P tt) (lo hi:Nat) {e sz by_ b n cap:Nat} {k k2:IntKind} {a a2:Int} {q:Operand} (ht:iS tt t=some (e,sz,by_)) (hx:bc fr x=some (.sc (.slice (some ⟨b,0,none⟩) n cap))) (hq:bc fr q=some (.sc (.int k2 a2))) (ha2:a2=(lo:Int)) (hy:bc fr y=some (.sc (.int k a))) (ha:a=(hi:Int)) (h0:lo < hi) (h1:hi≤cap) (hd:Nat.ble nt d=false) (h:bz P r ops Q nt D rest ((d,.sc (.slice (some ⟨b,lo * sz,none⟩) (hi - lo) (cap - lo)))::fr) B L):
  bz P r ops Q nt D (⟨some d,.slice t x (some q) (some y) none,ty,pos,af,none⟩::rest) fr B L:=by
 refine c5 (fun σ ρ w hρ _=>?_) hd rfl h
 haveI:=(bv ok ht).1
 subst ha;subst ha2
 have e6:¬(cap - lo=0):=by omega
 have e7:¬(cap=lo):=by omega
 have e8:lo≤hi:=by omega
 refine ⟨_,?_,.sc _⟩
 simp [execOp,(hρ x _ hx).sc_inv,(hρ y _ hy).sc_inv,(hρ q _ hq).sc_inv,Instr.sliceAt,Instr.slice,Instr.sliceBounds,Instr.sliceBound,asIntOf,run_underlying (bv ok ht).1.under,cH (t:=t),e6,e7,e8,h1,da]
theorem Hs (ok:dG P tt) (lo hi m:Nat) {e sz by_ b n cap:Nat} {k k' k2:IntKind} {a a' a2:Int} {q:Operand} (ht:iS tt t=some (e,sz,by_)) (hx:bc fr x=some (.sc (.slice (some ⟨b,0,none⟩) n cap))) (hq:bc fr q=some (.sc (.int k2 a2))) (ha2:a2=(lo:Int)) (hy:bc fr y=some (.sc (.int k a))) (ha:a=(hi:Int)) (hz:bc fr z=some (.sc (.int k' a'))) (ha':a'=(m:Int)) (h0:lo < hi) (h1:hi≤m) (h2:m≤cap) (hd:Nat.ble nt d=false) (h:bz P r ops Q nt D rest ((d,.sc (.slice (some ⟨b,lo * sz,none⟩) (hi - lo) (m - lo)))::fr) B L):
  bz P r ops Q nt D (⟨some d,.slice t x (some q) (some y) (some z),ty,pos,af,none⟩::rest) fr B L:=by
 refine c5 (fun σ ρ w hρ _=>?_) hd rfl h
 haveI:=(bv ok ht).1
 subst ha;subst ha';subst ha2
 have e4:¬(cap < m):=by omega
 have e6:¬(m - lo=0):=by omega
 have e7:¬(m=lo):=by omega
 have e8:lo≤hi:=by omega
 refine ⟨_,?_,.sc _⟩
 simp [execOp,(hρ x _ hx).sc_inv,(hρ y _ hy).sc_inv,(hρ z _ hz).sc_inv,(hρ q _ hq).sc_inv,Instr.sliceAt,Instr.slice,Instr.sliceBounds,Instr.sliceBound,asIntOf,run_underlying (bv ok ht).1.under,cH (t:=t),e4,e6,e7,e8,h1,h2,da]
end
theorem DF {P:Program} {fr:bP} {t ty:TypeId} {x y:Operand} {pos:String} {af:Array Edge} {g:Option (Nat×Bool)} {dd:Option Tmp} {e sz by_ b n cap lo:Nat} {k:IntKind} {a:Int} (hc:jE P t e sz by_) (hx:bc fr x=some (.sc (.slice (some ⟨b,0,none⟩) n cap))) (hy:bc fr y=some (.sc (.int k a))) (ha:a=(lo:Int)) (h:lo≤n) (hn:n≤cap):Av P ⟨dd,.slice t x (some y) none none,ty,pos,af,g⟩ fr (.sc (.slice (some ⟨b,if cap=lo then 0 else lo * sz,none⟩) (n - lo) (cap - lo))):=by
 intro σ ρ w hρ _
 subst ha
 haveI:=hc
 refine ⟨_,?_,.sc _⟩
 by_cases h3:cap=lo
 ·have:n=lo:=by omega
  subst h3;subst this
  simp [execOp,(hρ x _ hx).sc_inv,(hρ y _ hy).sc_inv,Instr.sliceAt,Instr.slice,Instr.sliceBounds,Instr.sliceBound,asIntOf,run_underlying hc.under,cH (t:=t)]
 ·simp [execOp,(hρ x _ hx).sc_inv,(hρ y _ hy).sc_inv,Instr.sliceAt,Instr.slice,Instr.sliceBounds,Instr.sliceBound,asIntOf,run_underlying hc.under,cH (t:=t),h,h3,da]
section
variable {P:Program} {tt:TT} {l:List Oper} {fr:bP} {fin:jz} {sk:lE} {acc:bP} {L:AL} {k:Nat} {dd:Option Tmp} {ty t:TypeId} {pos:String} {af:Array Edge} {g:Option (Nat×Bool)} {x y:Operand}
theorem E6 (ok:dG P tt) (hi:Nat) {e sz by_ b off n cap:Nat} {q:IntKind} {a:Int} (ht:iS tt t=some (e,sz,by_)) (hx:bc (cE l.toArray acc fr af.toList) x=some (.sc (.slice (some ⟨b,off,none⟩) n cap))) (hy:bc (cE l.toArray acc fr af.toList) y=some (.sc (.int q a))) (ha:a=(hi:Int)) (h1:hi≤cap) (hg:jt ⟨dd,.slice t x none (some y) none,ty,pos,af,g⟩ acc) (h:DA P l fr fin sk ((k,.sc (.slice (some ⟨b,off,none⟩) hi cap))::acc) L):cu P l fr fin k .v ⟨dd,.slice t x none (some y) none,ty,pos,af,g⟩ sk acc L:=fI hg (Dp (wU (bv ok ht).1 hx hy ha h1)) h
theorem xb (ok:dG P tt) (lo:Nat) {e sz by_ b n cap:Nat} {q:IntKind} {a:Int} (ht:iS tt t=some (e,sz,by_)) (hx:bc (cE l.toArray acc fr af.toList) x=some (.sc (.slice (some ⟨b,0,none⟩) n cap))) (hy:bc (cE l.toArray acc fr af.toList) y=some (.sc (.int q a))) (ha:a=(lo:Int)) (h1:lo≤n) (hn:n≤cap) (hg:jt ⟨dd,.slice t x (some y) none none,ty,pos,af,g⟩ acc) (h:DA P l fr fin sk ((k,.sc (.slice (some ⟨b,if cap=lo then 0 else lo * sz,none⟩) (n - lo) (cap - lo)))::acc) L):cu P l fr fin k .v ⟨dd,.slice t x (some y) none none,ty,pos,af,g⟩ sk acc L:=fI hg (Dp (DF (bv ok ht).1 hx hy ha h1 hn)) h
end
section
variable {P:Program} {tt:TT} {l:List Oper} {fr:bP} {fin:jz} {sk:lE} {acc:bP} {L:AL} {k:Nat} {dd:Option Tmp} {ty t:TypeId} {pos:String} {af:Array Edge} {g:Option (Nat×Bool)} {x y:Operand} {u:AV}
theorem B8 (ok:dG P tt) (i:Nat) {b q n:Nat} {cs ys:List AV} {e:TypeId} (ht:Ds tt t=some n) (hx:bc (cE l.toArray acc fr af.toList) x=some (.sc (.pointer (some ⟨b,q,none⟩)))) (hy:bc (cE l.toArray acc fr af.toList) y=some u) (hu:u.cells=some ys) (hL:L[i]?=some (b,.box cs e)) (hn:Nat.beq ys.length n=true) (hk:Nat.ble (q+n) cs.length=true) (hK:fU fin.gs (f3 L i (.box (eK cs q ys) e))) (hg:jt ⟨dd,.store t x y,ty,pos,af,g⟩ acc) (h:∀c,DA P l fr fin sk ((k,c)::acc) (f3 L i (.box (eK cs q ys) e))):
  cu P l fr fin k .f ⟨dd,.store t x y,ty,pos,af,g⟩ sk acc L:=xc (fun c L' h1 _=>by subst h1;exact hK) hg (fun _=>lK i (mC ok ht) hx hy hu hL hn hk) fun c L' h1=>by subst h1;exact h c
end
theorem iF {q:Nat×Nat×AV} {L:AL} (i:Nat) {cs:List AV} {e:TypeId} (hL:L[i]?=some (q.1,.box cs e)) (hc:cs[q.2.1]?=some q.2.2):fU [.cell q] L:=fun p hp=>by
 rw [List.mem_singleton] at hp
 subst hp
 exact ⟨cs,e,Mx hL,hc⟩
end Go.Proofs.YtamjlkdanllgjaaGreatDoor
namespace Go.Proofs.YtamjlkdanllgjaaGreatDoor
open Go.RowKit
section
variable {P:Program} {tt:TT} {r:Option Nat} {ops:Array Oper} {Q:Exit→Act→World→Prop} {nt:Nat} {D:List Deferred} {fr:bP} {B:Bs} {L:AL} {rest:List Oper} {d:Nat} {ty t t':TypeId} {pos:String} {af:Array Edge} {g:Option (Nat×Bool)} {x y z:Operand} {u:AV}
theorem Gq (ok:dG P tt) {dd:Option Tmp} {n e:Nat} {k:IntKind} {i:Nat} {a:Int} {cs:List AV} (ht:tH tt t=some (n,e,1)) (he:Dq tt e=true) (hx:bc fr x=some (.agg cs)) (hy:bc fr y=some (.sc (.int k a))) (ha:a=(i:Int)) (h0:i < n) (hu:cs[i]?=some u):Av P ⟨dd,.index t x y,ty,pos,af,g⟩ fr u:=by
 intro σ ρ w hρ _
 subst ha
 obtain ⟨h1,h2⟩:=g7 ok ht
 have hc:=ck ok he
 have hyv:=(hρ y _ hy).sc_inv
 obtain ⟨vs,hv,hs,_⟩:=(hρ x _ hx).agg_inv
 obtain ⟨v,g1,g2⟩:=hs.get hu
 have hso:(sizeOf e:Sem Nat).run P w= .ok 1 w:=by
  cases hi:P.info? e with
  | none=>rw [hi] at h2;cases h2
  | some i=>rw [hi] at h2;simp at h2;simp [sizeOf,typeInfo,hi,h2]
 refine ⟨v,?_,g2⟩
 have h3:(i:Int) < n:=by omega
 simp [execOp,hv,hyv,Instr.index,asIntOf,run_underlying h1,h3,hso,part,hc.agg w,g1]
 intro hle
 omega
theorem wa (ok:dG P tt) (i:Nat) {n e:Nat} {k:IntKind} {a:Int} {cs:List AV} (ht:tH tt t=some (n,e,1)) (he:Dq tt e=true) (hx:bc fr x=some (.agg cs)) (hy:bc fr y=some (.sc (.int k a))) (ha:a=(i:Int)) (h0:i < n) (hu:cs[i]?=some u) (hd:Nat.ble nt d=false) (h:bz P r ops Q nt D rest ((d,u)::fr) B L):bz P r ops Q nt D (⟨some d,.index t x y,ty,pos,af,none⟩::rest) fr B L:=c5 (Gq ok ht he hx hy ha h0 hu) hd rfl h
end
section
variable {P:Program} {tt:TT} {l:List Oper} {fr:bP} {fin:jz} {sk:lE} {acc:bP} {L:AL} {k:Nat} {dd:Option Tmp} {ty t:TypeId} {pos:String} {af:Array Edge} {g:Option (Nat×Bool)}
theorem B7 (ok:dG P tt) {zs:List Value} (hz:zI tt t=some zs) (h1:zs.all (·.oneCell')=true) (hg:jt ⟨dd,.alloc t,ty,pos,af,g⟩ acc) (h:∀b,DA P l fr fin sk ((k,.sc (.pointer (some ⟨b,0,none⟩)))::acc) ((b,.box (zs.map .sc) t)::L)):
  cu P l fr fin k .a ⟨dd,.alloc t,ty,pos,af,g⟩ sk acc L:=
 GU (fun c L' ⟨b,_,h2⟩=>⟨[(b,_)],h2⟩) hg (fun _=>tx (er ok hz) h1) fun c L' ⟨b,h1,h2⟩=>by subst h1;subst h2;exact h b
end
end Go.Proofs.YtamjlkdanllgjaaGreatDoor
namespace Go.Proofs.YtamjlkdanllgjaaGreatDoor
open Go.RowKit
attribute [local irreducible] AT bz AX AO Av Kt aZ cY DA cu
set_option maxRecDepth 8000
theorem jU {run:List aM} {i j:Nat} {x:aM} (y:aM) (v:AV) (junk:List AV) (h:run[i]?=some x) (hj:j < 6) (hy:cg y=(cg x).set j v):eK (bO run++junk) (0+((i:Nat):Int).toNat * 6+j) [v]=bO (run.set i y)++junk:=by
 rw [f8,Int.toNat_natCast,Nat.zero_add]
 have hi:=(Mq h).1
 have hl:=cJ run
 rw [List.set_append,if_pos (by omega)]
 congr 1
 unfold bO
 have hm:(run.map cg)[i]?=some (cg x):=by simp [h]
 rw [u3 (sz:=6) (run.map cg) i j (cg x) v (fun e he=>by obtain ⟨z,_,rfl⟩:=List.mem_map.1 he;rfl) hm hj,←hy,List.map_set]
theorem na (run:List aM) (junk:List AV) {k:Nat} (h:k≤run.length):(bO run++junk).take (k * 6)=bO (run.take k):=by
 have e:bO run=bO (run.take k)++bO (run.drop k):=by rw [←g8,List.take_append_drop]
 have hl:=cJ (run.take k)
 rw [List.length_take,Nat.min_eq_left h] at hl
 rw [e,List.append_assoc,←hl,List.take_left]
theorem rf (run:List aM) (junk:List AV) {k:Nat} (h:k≤run.length):((bO run++junk).drop (k * 6)).take ((run.length - k) * 6)=bO (run.drop k):=by
 have e:bO run=bO (run.take k)++bO (run.drop k):=by rw [←g8,List.take_append_drop]
 have hl:=cJ (run.take k)
 rw [List.length_take,Nat.min_eq_left h] at hl
 have hl2:=cJ (run.drop k)
 rw [List.length_drop] at hl2
 rw [e,List.append_assoc,←hl,List.drop_left,←hl2,List.take_left]
theorem yE (run:List aM) (junk:List AV) {i:Nat} {x:aM} (h:run[i]?=some x):((bO run++junk).drop (i * 6)).take 6=cg x:=by
 have hi:=(Mq h).1
 have e:bO run=bO (run.take i)++(cg x++bO (run.drop (i+1))):=by
  rw [←fq,←g8]
  congr 1
  rw [←(Mq h).2,List.getElem_cons_drop,List.take_append_drop]
 have hl:=cJ (run.take i)
 rw [List.length_take,Nat.min_eq_left (by omega)] at hl
 rw [e,List.append_assoc,←hl,List.drop_left,List.append_assoc]
 exact List.take_left (l₁:=cg x)
theorem BC (b k n:Nat) (cs:List AV) (hk:k * 6≤cs.length) (hk1:k≤1000000) (hn1:n≤2000000):AC Tryz.prog 356 [.sc (.slice (some ⟨b,0,none⟩) k k),aF n] [(b,.box cs 56)] fun c L=>
  (n=0∧c= .sc (.slice (some ⟨b,0,none⟩) k k)∧L=[(b,.box cs 56)])∨
  (0 < n∧∃b' cs' cap',c= .sc (.slice (some ⟨b',0,none⟩) k cap')∧cap' * 6≤cs'.length∧cs'.take (k * 6)=cs.take (k * 6)∧k+n≤cap'∧cap'≤maxLen∧L=[(b',.box cs' 56),(b,.box cs 56)]):=by
 refine aI Tryz.func356 rfl Tryz.ntmps356 rfl fun B=>?_
 repeat' (first|refine ae ?_|refine a6 ?_|refine aq ?_|refine a8 ?_|refine aa ?_|refine LR a7 LL ?_|refine bo rfl ?_)
 refine sE a7 rfl rfl rfl ?_
 repeat' (first|refine ae ?_|refine a6 ?_|refine a8 ?_|refine aa ?_|refine LR a7 LL ?_|(apply aY;refine aX ?_)|fail)
 refine aB rfl (fun h=>?_) fun h=>?_
 ·have hn0:0 < n:=by have:=Mz h;omega
  repeat' (first|refine a6 ?_|refine LR a7 LL ?_)
  refine sE a7 rfl rfl rfl ?_
  repeat' (first|fail)
  refine xz a7 k rfl rfl rfl rfl (Nat.le_refl _) rfl ?_
  repeat' (first|refine LR a7 LL ?_)
  refine w9 a7 0 n rfl rfl rfl Tryz.underlying3 rfl rfl (by omega) hn0 rfl hk (Nat.le_refl _) (by omega) (by unfold maxLen;omega) (by omega) rfl fun b' cs' cap' h1 h2 h3 h4=>?_
  repeat' (first|refine LR a7 LL ?_)
  refine xz a7 k rfl rfl rfl rfl (by omega) rfl ?_
  repeat' (first|refine ae ?_|refine a6 ?_|refine am ?_|refine a8 ?_|refine aa ?_|refine LR a7 LL ?_)
  exact MA LL (.inr ⟨hn0,b',cs',cap',rfl,h1,h2,h3,h4,rfl⟩)
 ·have hn0:n=0:=by have:=My h;omega
  repeat' (first|refine ae ?_|refine a6 ?_|refine aq ?_|refine am ?_|refine a8 ?_|refine aa ?_|refine LR a7 LL ?_)
  exact MA LL (.inl ⟨hn0,rfl,rfl⟩)
set_option maxRecDepth 8000
theorem rL {fr:bP} {B:Bs} {L:AL} {y:Operand} {sz c:Nat} {A:Option Addr} (hy:bc fr y=some (.sc (.slice A 0 c))):rY fr B L y sz 0 []:=fun σ ρ w hρ _=>⟨A,c,[],(hρ y _ hy).sc_inv,cR.nil,by simp,by simp,fun h=>by omega⟩
theorem vJ {run:List aM} (junk:List AV) {i:Nat} {x:aM} (h:run[i]?=some x):((bO run++junk).drop (0+((i:Nat):Int).toNat * 6)).take 6=cg x:=by
 rw [Int.toNat_natCast,Nat.zero_add]
 exact yE run junk h
def wn (x:aM) (l:List Int):List aM:=l.map fun g=>{ x with Glyph:=g }
theorem Cy (x:aM) (l:List Int):(wn x l).length=l.length:=by simp [wn]
theorem HE {a b:Nat×AB} {X:AL}:(a::b::X).Perm (b::a::X):=List.Perm.swap ..
theorem Ki {a b c d:Nat×AB}:[a,b,c,d].Perm [c,b,d,a]:=(List.Perm.cons a (List.Perm.swap c b _)).trans ((List.Perm.swap c a _).trans ((((List.Perm.swap b a _).trans ((List.Perm.swap d a _).cons b))).cons c))
theorem Kj {a b c d:Nat×AB} {X:AL}:((a::X)++[b,c,d]).Perm (b::a::c::d::X):=(List.perm_append_comm (l₁:=a::X) (l₂:=[b,c,d])).trans (((List.Perm.swap a d _).cons c |>.trans (List.Perm.swap a c _)).cons b)
set_option maxHeartbeats 4000000 in
theorem C3 (E:ot) (wb:Nat) (m:f0) (run:List aM) (hq:cS (some m) run) (hr:run.length≤1000000) (i:Nat) (x:aM) (hx:run[i]?=some x) (r:bh) (ho:r.Out.length≤1000000):AC Tryz.prog 326 [eZ wb,aF i,.imm 1 (aT r.Out)] (iv wb E (some m) run) fun _ L=>∃q',cS q' (gX r i run)∧L=iv wb E q' (gX r i run):=by
 refine aI Tryz.func326 rfl Tryz.ntmps326 rfl fun B=>?_
 have hil:=(Mq hx).1
 have hol:=b7 r.Out
 obtain ⟨h1,h2,h3⟩:=hq.fit m rfl
 have hfl:=cJ run
 have hmv:gX r i run=if run.length - 1+r.Out.length > 500∧1 < r.Out.length then run else run.take i++wn x r.Out++run.drop (i+1):=by
  unfold gX
  rw [hx]
  rfl
 have hit:=vJ m.junk hx
 unfold maxLen at h2
 repeat' (first|refine ae ?_|refine a6 ?_|refine a8 ?_|refine aa ?_|refine LR a7 LL ?_|(apply bL;first|refine LV a7 0 LO ?_|refine LV a7 1 LO ?_|refine LV a7 2 LO ?_|refine LV a7 3 LO ?_|refine LW a7 0 LO ?_|refine LW a7 1 LO ?_|refine LW a7 2 LO ?_|refine LZ a7 1 LM (by assumption) rfl ?_|refine LZ a7 0 LM (by assumption) rfl ?_|fail)|(apply aY;refine aX ?_)|fail)
 refine bN [0,1,2] (run.length - 1+r.Out.length > 500∧1 < r.Out.length) rfl (fun Q' K=>?_) (fun hC=>?_) (fun hC=>?_)
 ·repeat' (first|refine aa ?_|refine LR a7 LL ?_|refine MB LL ?_|refine MC LN ?_|refine MD LM (fun _=>?_) (fun _=>?_))
  all_goals exact K _ _ rfl rfl (by simp_all <;> omega)
 ·rw [if_pos hC] at hmv
  repeat' (first|refine am ?_|refine az ?_)
  exact kr rfl ⟨some m,by rw [hmv];exact hq,by rw [hmv]⟩
 rw [if_neg hC] at hmv
 repeat' (first|refine ae ?_|refine aq ?_|refine a8 ?_)
 refine lL [.cell (wb,1,cG (some m) run)] 17 [(0,.v),(1,.v),(2,.v),(3,.l),(4,.v),(5,.v),(6,.l),(7,.v),(8,.v),(9,.v),(10,.k),(11,.v),(12,.v),(13,.v),(14,.a),(15,.f),(16,.v)] none ?_ trivial rfl (by kernel_rfl) (by kernel_rfl) (by kernel_rfl) mixed (by kernel_rfl) rfl
 repeat' (first|refine aJ ?_|refine bw a7 ?_|refine cn a7 0 rfl rfl rfl rfl (by first|trivial|rfl) ?_)
 refine cx a7 rfl rfl rfl ⟨by omega,by omega⟩ trivial ?_
 repeat' (first|refine aJ ?_|fail)
 refine sa a7 1 rfl rfl rfl (Nat.ble_eq_true_of_le (by rw [Int.toNat_natCast];simp;omega)) trivial ?_
 rw [hit]
 repeat' (first|refine aJ ?_|refine bw a7 ?_|fail)
 refine sd a7 0 rfl rfl rfl (iF 0 rfl rfl) trivial ?_
 repeat' (first|refine aJ ?_|refine bw a7 ?_|(apply iq;refine kT ?_)|fail)
 refine xb a7 (i+1) rfl rfl rfl (by omega) (by omega) h1 trivial ?_
 repeat' (first|refine aJ ?_|fail)
 refine B7 a7 rfl rfl trivial fun ib=>?_
 repeat' (first|refine aJ ?_|fail)
 refine B8 a7 0 rfl rfl rfl rfl rfl rfl rfl (iF 1 rfl rfl) trivial fun _=>?_
 repeat' (first|refine aJ ?_|refine bw a7 ?_|fail)
 refine MG [0,1,2,7,8] LL ?_
 repeat' (first|refine ae ?_|refine a6 ?_|refine a8 ?_|refine aa ?_|refine LR a7 LL ?_|(apply bL;first|refine LV a7 0 LO ?_|refine LV a7 1 LO ?_|refine LV a7 2 LO ?_|refine LV a7 3 LO ?_|refine LW a7 0 LO ?_|refine LW a7 1 LO ?_|refine LW a7 2 LO ?_|refine LZ a7 1 LM (by assumption) rfl ?_|refine LZ a7 0 LM (by assumption) rfl ?_|fail)|fail)
 refine Ht a7 i rfl rfl rfl rfl rfl rfl (by omega) rfl ?_
 repeat' (first|refine LR a7 LL ?_|(apply aY;refine aX ?_)|fail)
 have hfll:(bO run++m.junk).length=run.length * 6+m.junk.length:=by rw [List.length_append,hfl]
 have hti:=na run m.junk (Nat.le_of_lt hil)
 have hgr:=BC m.rb i (r.Out.length+(run.length - (i+1))) (bO run++m.junk) (by omega) (by omega) (by omega)
 refine bq (b8 (L':=(m.rb,.box (bO run++m.junk) 56)::[(wb,.box [.iptr (dZ E),cG (some m) run] 328),cX,(ib,.box (cg x) 56)]) ?_) ?_
 ·exact Ki
 refine aW [(m.rb,.box (bO run++m.junk) 56)] [(wb,.box [.iptr (dZ E),cG (some m) run] 328),cX,(ib,.box (cg x) 56)] hgr rfl (by rw [hol];rfl) (Mp _) rfl fun c L1 hp=>?_
 obtain ⟨db,dcs,dcap,X,hc,hL,hd1,hd2,hd3,hd4,hX⟩:∃db dcs dcap X,c= .sc (.slice (some ⟨db,0,none⟩) i dcap)∧L1=(db,.box dcs 56)::X∧dcap * 6≤dcs.length∧dcs.take (i * 6)=bO (run.take i)∧i+(r.Out.length+(run.length - (i+1)))≤dcap∧dcap≤maxLen∧(r.Out.length+(run.length - (i+1))=0∨X=[(m.rb,.box (bO run++m.junk) 56)]):=by
  rcases hp with ⟨h0,hc,hL⟩ | ⟨h0,b',cs',cap',hc,h4,h5,h6,h7,hL⟩
  ·exact ⟨m.rb,_,i,[],hc,hL,by omega,hti,by omega,by unfold maxLen;omega,.inl h0⟩
  ·exact ⟨b',cs',cap',_,hc,hL,h4,by rw [h5,hti],h6,h7,.inr rfl⟩
 subst hc;subst hL
 unfold maxLen at hd4
 refine bq (b8 (L':=(wb,.box [.iptr (dZ E),cG (some m) run] 328)::(db,.box dcs 56)::cX::(ib,.box (cg x) 56)::X) ?_) ?_
 ·exact Kj
 repeat' (first|refine ae ?_|refine a6 ?_|refine ar ?_|refine a8 ?_|refine aa ?_|refine LR a7 LL ?_)
 refine aN [0,7,8,59,60] (α:=Nat×Int×List AV) (fun s=>[(61,aF s.1),(9,.sc (.slice (some ⟨db,0,none⟩) (i+s.1:Nat) dcap))]) (fun s=>s.1≤r.Out.length∧dcap * 6≤s.2.2.length∧s.2.2.take ((i+s.1) * 6)=bO (run.take i++wn x (r.Out.take s.1))) (fun s=>(wb,.box [.iptr (dZ E),cG (some m) run] 328)::(db,.box s.2.2 56)::cX::(ib,.box (cg { x with Glyph:=s.2.1 }) 56)::X) (fun s=>r.Out.length - s.1) (0,x.Glyph,dcs) rfl ⟨rfl,rfl,trivial⟩ ⟨Nat.zero_le _,hd1,by simpa [wn] using hd2⟩ (fun _ _ h=>h) ?_
 rintro ⟨k,g,cs⟩ ⟨hk,hcl,hct⟩
 dsimp only at hk hcl hct ⊢
 try dsimp only [Mt,Ms,Mr,Mn]
 repeat' (first|refine ae ?_|refine a6 ?_|refine a8 ?_|refine aa ?_|refine LR a7 LL ?_)
 refine aB rfl (fun h=>?_) (fun h=>?_)
 ·have hk2:k < r.Out.length:=by have:=Mz h;omega
  obtain ⟨y,hy⟩:∃z,r.Out[k]?=some z:=⟨_,Ia hk2⟩
  have hyg:=bH hy
  clear h
  repeat' (first|refine ae ?_|refine a6 ?_|refine ar ?_|refine aq ?_|refine a8 ?_|refine aa ?_|refine LR a7 LL ?_|(apply aL;first|refine aK a7 ?_|refine aH a7 ?_)|(apply aU;first|refine LU a7 0 LP ?_|refine LU a7 1 LP ?_|refine LU a7 2 LP ?_|refine LU a7 3 LP ?_|fail))
  refine LW a7 3 LO ?_
  repeat' (first|refine cA a7 ?_|fail)
  refine iH a7 1 rfl rfl rfl rfl (f9 rfl rfl) rfl hcl (by omega) (by unfold maxLen;omega) (by simp;unfold maxLen;omega) (by simp;omega) rfl fun b' cs' cap' e1 e2 e3 e4 e5=>?_
  obtain ⟨e6,e7,e8⟩:=e5 (by simp;omega)
  subst e6;subst e7
  refine bq (b8 HE) ?_
  repeat' (first|refine a6 ?_|refine a8 ?_|refine aP ?_|refine aa ?_|refine LR a7 LL ?_|(apply aY;refine aX ?_)|fail)
  refine aE (k+1,y,cs') rfl ⟨by rw [Mw];rfl,rfl,trivial⟩ ⟨hk2,e1,?_⟩ (by dsimp only;omega) (fun _ _ h=>h)
  rw [←Nat.add_assoc]
  refine e2.trans ?_
  rw [hct,show r.Out.take (k+1)=r.Out.take k++[y] by rw [List.take_add_one,hy];rfl]
  unfold wn
  rw [List.map_append,←List.append_assoc]
  refine Eq.trans ?_ (g8 _ _).symm
  rfl
 ·have hke:k=r.Out.length:=by have:=My h;omega
  subst hke
  rw [List.take_length] at hct
  have hsrc:∀fr y B,bc fr y=some (.sc (.slice (some ⟨m.rb,if m.cap=i+1 then 0 else (i+1) * 6,none⟩) (run.length - (i+1)) (m.cap - (i+1))))→rY fr B ((wb,.box [.iptr (dZ E),cG (some m) run] 328)::(db,.box cs 56)::cX::(ib,.box (cg { x with Glyph:=g }) 56)::X) y 6 (run.length - (i+1)) (bO (run.drop (i+1))):=by
   intro fr y B hy
   by_cases hz:run.length - (i+1)=0
   ·rw [hz] at hy ⊢
    rw [List.drop_eq_nil_of_le (by omega)]
    exact rL hy
   ·rcases hX with hX | hX
    ·omega
    ·subst hX
     have hs:=uL (B:=B) (sz:=6) (L:=(wb,.box [.iptr (dZ E),cG (some m) run] 328)::(db,.box cs 56)::cX::(ib,.box (cg { x with Glyph:=g }) 56)::[(m.rb,.box (bO run++m.junk) 56)]) 4 hy rfl (by split <;> omega)
     rw [if_neg (by omega),rf run m.junk hil] at hs
     exact hs
  repeat' (first|refine a6 ?_|refine aO ?_|refine a8 ?_|refine av ?_|refine aC ?_|refine aA ?_|refine LR a7 LL ?_)
  refine iH a7 1 rfl rfl rfl rfl (hsrc _ _ _ rfl) rfl hcl (by omega) (by unfold maxLen;omega) (by unfold maxLen;omega) (by omega) rfl fun b' cs' cap' e1 e2 e3 e4 e5=>?_
  obtain ⟨e6,e7,e8⟩:=e5 (by omega)
  subst e6;subst e7
  refine bq (b8 HE) ?_
  repeat' (first|refine aa ?_|refine LR a7 LL ?_|(apply aU;first|refine LU a7 0 LP ?_|refine LU a7 1 LP ?_|refine LU a7 2 LP ?_|refine LU a7 3 LP ?_|fail))
  have hrun:gX r i run=run.take i++wn x r.Out++run.drop (i+1):=hmv
  have hlen:(gX r i run).length=i+r.Out.length+(run.length - (i+1)):=by
   rw [hrun,List.length_append,List.length_append,List.length_take,List.length_drop,Cy]
   omega
  have hfl2:=cJ (gX r i run)
  have hcs:cs'=bO (gX r i run)++cs'.drop ((i+r.Out.length+(run.length - (i+1))) * 6):=by
   conv=>lhs;rw [←List.take_append_drop ((i+r.Out.length+(run.length - (i+1))) * 6) cs',e2,hct]
   rw [hrun,g8 _ (run.drop (i+1))]
  refine cL (L':=[(wb,.box [.iptr (dZ E),.sc (.slice (some ⟨b',0,none⟩) (i+r.Out.length+(run.length - (i+1)):Nat) cap')] 328),(b',.box cs' 56),cX]) (.cons_cons _ (.cons_cons _ (.cons_cons _ (List.nil_sublist _)))) ?_
  refine bT rfl ⟨some ⟨b',cap',cs'.drop ((i+r.Out.length+(run.length - (i+1))) * 6)⟩,⟨fun h=>(by cases h),fun m' hm'=>?_⟩,?_⟩
  ·cases hm'
   refine ⟨by rw [hlen];dsimp only;omega,by dsimp only;unfold maxLen;omega,?_⟩
   dsimp only
   rw [←hcs]
   exact e1
  ·unfold cG dw
   dsimp only
   rw [hlen,←hcs]
   rfl
set_option maxRecDepth 8000
theorem vI {run:List aM} {i:Nat} (hi:i < run.length):bO (run.eraseIdx i)=bO (run.take i)++bO (run.drop (i+1)):=by
 rw [List.eraseIdx_eq_take_drop_succ,g8]
set_option maxHeartbeats 2000000 in
theorem yx (b cap:Nat) (run:List aM) (junk:List AV) (i:Nat) (hi:i < run.length) (hc:run.length≤cap) (hm:cap≤maxLen) (hf:cap * 6≤(bO run++junk).length) (hr:run.length≤1000000):AC Tryz.prog 337 [.sc (.slice (some ⟨b,0,none⟩) run.length cap),aF i,aF ((i:Int)+1)] [(b,.box (bO run++junk) 56)] fun c L=>
  c= .sc (.slice (some ⟨b,0,none⟩) (run.eraseIdx i).length cap)∧∃junk',cap * 6≤(bO (run.eraseIdx i)++junk').length∧L=[(b,.box (bO (run.eraseIdx i)++junk') 56)]:=by
 refine aI Tryz.func337 rfl Tryz.ntmps337 rfl fun B=>?_
 have hfl:=cJ run
 have hel:=List.length_eraseIdx_of_lt hi
 unfold maxLen at hm
 have hsrc:∀fr y B,bc fr y=some (.sc (.slice (some ⟨b,if cap=i+1 then 0 else (i+1) * 6,none⟩) (run.length - (i+1)) (cap - (i+1))))→rY fr B [(b,.box (bO run++junk) 56)] y 6 (run.length - (i+1)) (bO (run.drop (i+1))):=by
  intro fr y B hy
  by_cases hz:run.length - (i+1)=0
  ·rw [hz] at hy ⊢
   rw [List.drop_eq_nil_of_le (by omega)]
   exact rL hy
  ·have hs:=uL (B:=B) (sz:=6) (L:=[(b,.box (bO run++junk) 56)]) 0 hy rfl (by split <;> omega)
   rw [if_neg (by omega),rf run junk hi] at hs
   exact hs
 repeat' (first|refine ae ?_|refine a6 ?_|refine a8 ?_|refine aa ?_|refine LR a7 LL ?_)
 refine Hs a7 i (i+1) run.length rfl rfl rfl rfl rfl (by omega) rfl rfl (by omega) hi hc rfl ?_
 repeat' (first|refine ae ?_|refine a6 ?_|refine a8 ?_|refine aa ?_|refine LR a7 LL ?_)
 refine aB rfl (fun h=>?_) (fun _=>?_)
 ·have:=Mz h
  omega
 repeat' (first|refine ae ?_|refine a6 ?_|refine aq ?_|refine a8 ?_|refine aa ?_|refine LR a7 LL ?_)
 refine bB 6 [(0,.v),(1,.v),(2,.v),(3,.v),(4,.v),(5,.v)] none ?_ trivial rfl (by kernel_rfl) (by kernel_rfl) (by kernel_rfl) mixed (by kernel_rfl) rfl
 repeat' (first|refine aJ ?_|refine bw a7 ?_|fail)
 refine E6 a7 i rfl rfl rfl rfl (by omega) trivial ?_
 repeat' (first|refine aJ ?_|refine bw a7 ?_|fail)
 refine xb a7 (i+1) rfl rfl rfl (by omega) hi hc trivial ?_
 repeat' (first|fail)
 refine MG [7,22,25] LL ?_
 repeat' (first|fail)
 refine iH a7 0 rfl rfl rfl rfl (hsrc _ _ _ rfl) rfl hf (by omega) (by unfold maxLen;omega) (by unfold maxLen;omega) (by omega) rfl fun b' cs' cap' e1 e2 e3 e4 e5=>?_
 obtain ⟨e6,e7,e8⟩:=e5 (by omega)
 subst e6;subst e7
 repeat' (first|refine ae ?_|refine a6 ?_|refine a8 ?_|refine aa ?_|refine LR a7 LL ?_)
 have hn1:i+(run.length - (i+1))=(run.eraseIdx i).length:=by omega
 rw [hn1] at e2 ⊢
 refine Hr a7 (run.eraseIdx i).length run.length rfl rfl rfl rfl rfl rfl (by omega) hc rfl ?_
 repeat' (first|fail)
 have hcl:cap' * 6≤cs'.length:=e1
 have hce:cs'.take ((run.eraseIdx i).length * 6)=bO (run.eraseIdx i):=by
  rw [e2,na run junk (by omega),vI hi]
 refine C6 a7 0 (m:=(run.eraseIdx i).length) rfl rfl rfl rfl (.inl rfl) rfl ?_ fun cs2 g1 g2=>?_
 ·have h1:(run.eraseIdx i).length * 6+(run.length - (run.eraseIdx i).length) * 6=run.length * 6:=by omega
  rw [h1]
  omega
 repeat' (first|refine ae ?_|refine a6 ?_|refine am ?_|refine a8 ?_|refine aa ?_|refine LR a7 LL ?_)
 refine MA LL ⟨rfl,cs2.drop ((run.eraseIdx i).length * 6),?_⟩
 have hj:bO (run.eraseIdx i)++cs2.drop ((run.eraseIdx i).length * 6)=cs2:=by
  rw [←hce,←g2,List.take_append_drop]
 rw [hj]
 exact ⟨by omega,rfl⟩
end Go.Proofs.YtamjlkdanllgjaaGreatDoor
