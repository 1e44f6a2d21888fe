/-
  An engine's match.
-/
import Derived.Test.YtpmdfoaadejmkaaGreatDoorM13
import Derived.Test.YtpmdfoaadejmkaaGreatDoorM17
import Derived.Test.YtpmdfoaadejmkaaGreatDoorM12
import Derived.Test.YtpmdfoaadejmkaaGreatDoorM05
import Derived.Test.YtpmdfoaadejmkaaGreatDoorM14
import Derived.Test.YtpmdfoaadejmkaaGreatDoorM06
namespace Go.Proofs.YtpmdfoaadejmkaaGreatDoor
open Go.RowKit
attribute [local irreducible] AT br AX AO Av Kt b7 dm DA cA
theorem xw (l:List Int) (z:Int):c5 Tryz.prog 190 [.imm 1 (aQ l),aI z] (aI (if z∈l then (l.idxOf z:Nat) else -1)):=by
 refine aS Tryz.func190 rfl Tryz.ntmps190 rfl fun B=>?_
 refine cW 0 rfl rfl fun hlen=>?_
 have hll:=aX l
 rw [hll] at hlen
 refine W04 ?_
 refine aN [0,1,7] (α:=Nat) (fun i=>[(8,aI i)]) (fun i=>i≤l.length∧z∉l.take i) (fun _=>[]) (fun i=>l.length - i) 0 rfl ⟨rfl,trivial⟩ ⟨Nat.zero_le _,by simp⟩ (fun _ _ h=>h) fun i hi=>?_
 try dsimp only [Lr,Lq,Lp,Li]
 refine W01 ?_
 refine ar rfl (fun h=>?_) (fun h=>?_)
 ·have hil:i < l.length:=by have:=Lz h;omega
  obtain ⟨y,hy⟩:∃z,l[i]?=some z:=⟨_,Iy hil⟩
  have hzg:=bW hy
  have htk:l.take (i+1)=l.take i++[y]:=by rw [List.take_add_one,hy];rfl
  clear h
  refine W08 ?_
  refine ar rfl (fun h2=>?_) (fun h2=>?_)
  ·have h2':=Lz h2
   subst h2'
   refine W09 ?_
   refine LM KZ ?_
   have hm:=Lw hy
   have:l.idxOf z=i:=by
    have e:l=l.take i++z::l.drop (i+1):=by
     conv=>lhs;rw [←List.take_append_drop i l,List.drop_eq_getElem_cons hil,(Ln hy).2]
    rw [e,List.idxOf_append,if_neg hi.2,List.idxOf_cons_self,List.length_take]
    omega
   rw [if_pos hm,this]
  ·have h2':=Ly h2
   refine W06 ?_
   exact aC (i+1) rfl ⟨by rw [Lv];rfl,trivial⟩ ⟨by omega,by rw [htk];simp [hi.2];exact h2'⟩ (by omega) (fun _ _ h=>h)
 ·have hil:i=l.length:=by have:=Ly h;omega
  subst hil
  rw [List.take_length] at hi
  refine W02 ?_
  refine LM KZ ?_
  rw [if_neg hi.2]
instance (l:List Int) (z:Int):AD Tryz.prog 190 [.imm 1 (aQ l),aI z] (aI (if z∈l then (l.idxOf z:Nat) else -1)):=⟨xw l z⟩
theorem se (l:List Int) (z:Int):c5 Tryz.prog 187 [.imm 1 (aQ l),aI z] (eo (l.contains z)):=by
 refine aS Tryz.func187 rfl Tryz.ntmps187 rfl fun B=>?_
 refine W0l ?_
 refine LM KZ ?_
 congr 2
 by_cases h:z∈l
 ·rw [if_pos h,decide_eq_true (by omega)];simp [h]
 ·rw [if_neg h,decide_eq_false (by omega)];simp [h]
instance (l:List Int) (z:Int):AD Tryz.prog 187 [.imm 1 (aQ l),aI z] (eo (l.contains z)):=⟨se l z⟩
structure ku (e:om):Prop where
 few:e.l.Rules.length≤6
 ends:tC e
 fore:∀gl,gp e.cls e.fore e.foreE gl=cn (fi (e.l.Rules.map dT) (sR e.l.Rules) gl) (e.l.Rules.map dT).length
 back:∀gl,gp e.cls e.back e.backE gl=cn (fi (e.l.Rules.map b8.Back) (fun _=>true) gl) (e.l.Rules.map b8.Back).length
 long:f9 e.l.Rules≤1000000∧gj e.l.Rules≤1000000
section
variable {e:om} (h:ku e)
include h
theorem ku.lt (bg fg:List Int):gp e.cls e.back e.backE bg &&& gp e.cls e.fore e.foreE fg < 64:=by
 have h1:=Nat.and_le_right (n:=gp e.cls e.back e.backE bg) (m:=gp e.cls e.fore e.foreE fg)
 have h2:=nh (fi (e.l.Rules.map dT) (sR e.l.Rules) fg) (e.l.Rules.map dT).length
 rw [←h.fore fg,Lu] at h2
 have h3:2 ^ e.l.Rules.length≤2 ^ 6:=Nat.pow_le_pow_right (by omega) h.few
 have:(2:Nat) ^ 6=64:=rfl
 omega
theorem ku.first (ms:List Bool) (run:List aR) (i:Nat):tP (gp e.cls e.back e.backE (((ng ms e.l.Ignore run i).take (gj e.l.Rules)).map (eP run)) &&& gp e.cls e.fore e.foreE (((eM ms e.l.Ignore run i).take (f9 e.l.Rules)).map (eP run)))=match e.l.Rules.findIdx? (fb ms e.l.Ignore run i) with
  | some n=>(n:Int)
  | none=> -1:=by
 have hlt:=h.lt (((ng ms e.l.Ignore run i).take (gj e.l.Rules)).map (eP run)) (((eM ms e.l.Ignore run i).take (f9 e.l.Rules)).map (eP run))
 rw [h.fore,h.back] at hlt ⊢
 have ht:=xi (ms:=ms) (ig:=e.l.Ignore) (run:=run) (i:=i) (rs:=e.l.Rules) fun n=>zW (rs:=e.l.Rules) (n:=n)
 generalize (cn (fi (e.l.Rules.map b8.Back) _ _) _ &&& _)=b at ht hlt ⊢
 obtain ⟨k1,k2⟩:=xz (q:=fb ms e.l.Ignore run i) (l:=e.l.Rules) ht
 unfold tP
 cases hf:e.l.Rules.findIdx? (fb ms e.l.Ignore run i) with
 | none=>rw [k2 hf];rfl
 | some n=>
  obtain ⟨k3,k4⟩:=k1 n hf
  have hn:=(List.findIdx?_eq_some_iff_getElem.1 hf).1
  have hf:=h.few
  rw [if_neg (fun e=>by rw [e,Nat.zero_testBit] at k3;cases k3)]
  exact EM b hlt n (by omega) k3 k4
end
theorem vD:∀{ss:List (List Int)} {gl:List Int},f8 ss gl=true→ss.length≤gl.length
 | [],_,_=>Nat.zero_le _
 | _::_,[],h=>by cases h
 | _::ss,_::gl,h=>by
  rw [f8,Bool.and_eq_true] at h
  have:=vD h.2
  simp;omega
theorem pC {ms:List Bool} {ig:Bool} {run:List aR} {i:Nat} {r:b8} (h:fb ms ig run i r=true):0 < r.In.length∧r.In.length≤(eM ms ig run i).length:=by
 unfold fb at h
 rw [Bool.and_eq_true,Bool.and_eq_true] at h
 have h1:=vD h.2.1
 rw [List.length_append,Lu] at h1
 constructor
 ·have:=h.1
  cases hr:r.In with
  | nil=>rw [hr] at this;cases this
  | cons a b=>simp
 ·omega
theorem Dr {rs:List b8} {r:b8} (h:r∈rs):r.In.length≤f9 rs:=by
 have:=(nr (g:=fun r:b8=>r.In.length+r.Ahead.length) (m:=0)).2 r h
 unfold f9
 omega
theorem Et {ms:List Bool} {ig:Bool} {run:List aR} {i:Nat}:fK ms ig run true (i:Int)=eM ms ig run i:=by
 unfold fK
 rw [if_pos rfl,Int.toNat_natCast]
theorem y6 {ms:List Bool} {ig:Bool} {run:List aR} {i:Nat}:fK ms ig run false ((i:Int) - 1)=ng ms ig run i:=by
 unfold fK
 simp only [Bool.false_eq_true,if_false]
 rw [show ((i:Int) - 1+1).toNat=i by omega]
def lQ (E:n8) (l:aO) (run:List aR) (i:Nat) (forms:List Int):AV:=match fm E.ms l run i forms with
 | none=> .tup [K3,.sc (.slice none 0 0)]
 | some r=> .tup [.iptr (bV (eY r)),.imm 1 (dt (dV E.ms l run i r))]
abbrev jo (wb:Nat) (E:n8) (q:Option gy) (run:List aR):AL:=wy wb (.iptr (eh E)) q run++[ct]
set_option maxHeartbeats 4000000 in
theorem rk (E:n8) (e:om) (he:ku e) (wb:Nat) (q:Option gy) (run:List aR) (hq:dN q run) (hr:run.length≤1000000) (i:Nat) (hi0:i≤1000000) (forms:List Int):AC Tryz.prog 102 [eO wb,.iptr (fw e),aI i,.imm 1 (aQ forms)] (jo wb E q run) fun c L=>c=lQ E e.l run i forms∧L=jo wb E q run:=by
 refine aS Tryz.func102 rfl Tryz.ntmps102 rfl fun B=>?_
 have hfl:=aX forms
 refine cW 3 rfl rfl fun hlen=>?_
 by_cases hi:i < run.length
 ·obtain ⟨m,rfl⟩:=hq.lt hi
  obtain ⟨x,hx⟩:∃x,run[i]?=some x:=⟨_,Iy hi⟩
  have hse:=uu E e wb m run i x hx
  refine W15 ?_
  refine ce [0,1,2,3] (pD E.ms e.l.Ignore x=false) rfl (fun Q' K=>?_) (fun hC=>?_) (fun hC=>?_)
  ·repeat' (first|refine a7 ?_|refine LG a5 KZ ?_|refine LO KZ ?_|refine LP LB ?_|refine LR LA (fun _=>?_) (fun _=>?_))
   ·refine b9 (wy wb (.iptr (eh E)) (some m) run) [ct] hse rfl rfl (Lm _) rfl fun c L1 ⟨hc,hL⟩=>?_
    subst hc;subst hL
    refine W2f ?_
    exact K _ _ rfl rfl (by simp)
   ·rename_i hx2
    have:=Lz hx2
    omega
  ·have hm:fm E.ms e.l run i forms=none:=by
    unfold fm
    rw [if_neg]
    unfold lz
    rw [hx]
    dsimp only
    rw [hC]
    simp
   unfold lQ
   rw [hm]
   refine W07 ?_
   exact LT LA ⟨rfl,rfl⟩
  have hC:pD E.ms e.l.Ignore x=true:=by simpa using hC
  have h2:=pi (j:=2) m.junk hx rfl
  refine W0e ?_
  refine ce [0,1,2] (forms≠[]∧forms.contains x.Form=false) rfl (fun Q' K=>?_) (fun hC2=>?_) (fun hC2=>?_)
  ·repeat' (first|refine a7 ?_|refine LG a5 KZ ?_|refine LO KZ ?_|refine LP LB ?_|(apply bq;first|refine LJ a5 0 LC ?_|refine LJ a5 1 LC ?_|refine LJ a5 2 LC ?_|refine LJ a5 3 LC ?_|refine LK a5 0 LC ?_|refine LK a5 1 LC ?_|refine LK a5 2 LC ?_|refine LL a5 1 LA (by assumption) rfl ?_|refine LL a5 0 LA (by assumption) rfl ?_|fail)|(apply aL;first|refine aJ a5 ?_|refine aF a5 ?_)|(apply bw;refine bn ?_)|refine LR LA (fun _=>?_) (fun _=>?_))
   all_goals exact K _ _ rfl rfl (by cases forms <;> simp_all)
  ·have hm:fm E.ms e.l run i forms=none:=by
    unfold fm
    rw [if_neg]
    unfold lz
    rw [hx]
    dsimp only
    rw [hC2.2]
    cases forms with
    | nil=>exact absurd rfl hC2.1
    | cons a b=>simp
   unfold lQ
   rw [hm]
   refine W07 ?_
   exact LT LA ⟨rfl,rfl⟩
  have hbe:lz E.ms e.l.Ignore run i forms=true:=by
   unfold lz
   rw [hx]
   dsimp only
   rw [hC]
   cases forms with
   | nil=>rfl
   | cons a b=>cases hcc:(a::b).contains x.Form with
    | true=>rfl
    | false=>exact absurd ⟨by simp,hcc⟩ hC2
  have hmv:fm E.ms e.l run i forms=e.l.Rules.find? (fb E.ms e.l.Ignore run i):=by
   unfold fm
   rw [if_pos hbe]
  have s1:=zo E e wb (some m) run hq hr true i ⟨by omega,fun _=>by omega,fun h=>by cases h⟩ (by omega) (f9 e.l.Rules)
  have s2:=zo E e wb (some m) run hq hr false ((i:Int) - 1) ⟨by omega,fun h=>(by cases h),fun _=>by omega⟩ (by omega) (gj e.l.Rules)
  rw [Et] at s1
  rw [y6] at s2
  have hfirst:=he.first E.ms run i
  refine W0e ?_
  refine b9 (wy wb (.iptr (eh E)) (some m) run) [ct] s1 rfl rfl (Lm _) rfl fun c L1 ⟨hc,hL⟩=>?_
  subst hc;subst hL
  refine W0L ?_
  refine b9 (wy wb (.iptr (eh E)) (some m) run) [ct] s2 rfl rfl (Lm _) rfl fun c L1 ⟨hc,hL⟩=>?_
  subst hc;subst hL
  refine W01 ?_
  refine b9 [ct] (wy wb (.iptr (eh E)) (some m) run) (zK e he.ends _ _ (he.lt _ _)) rfl rfl List.perm_append_comm rfl fun c L1 ⟨hc,hL⟩=>?_
  subst hc;subst hL
  refine aE (aH (L':=jo wb E (some m) run) List.perm_append_comm) ?_
  rw [hfirst]
  unfold lQ
  rw [hmv,D6]
  cases hfi:e.l.Rules.findIdx? (fb E.ms e.l.Ignore run i) with
  | none=>
   dsimp only [Option.bind_none]
   refine W0P ?_
   exact LT LA ⟨rfl,rfl⟩
  | some n=>
   obtain ⟨hn,hn1,hn2⟩:=List.findIdx?_eq_some_iff_getElem.1 hfi
   obtain ⟨r,hrr⟩:∃r,e.l.Rules[n]?=some r:=⟨_,Iy hn⟩
   rw [(Ln hrr).2] at hn1
   obtain ⟨hin0,hin⟩:=pC hn1
   have hfm:=Dr (Lw hrr)
   have hrg:((iA e.l).Rules.map bV)[n]?=some (bV (eY r)):=by simp [iA,hrr]
   have hpl:((eM E.ms e.l.Ignore run i).take (f9 e.l.Rules)).take r.In.length=dV E.ms e.l run i r:=by
    unfold dV
    rw [List.take_take,Nat.min_eq_left hfm]
   have hnl:=mo ((eM E.ms e.l.Ignore run i).take (f9 e.l.Rules))
   rw [List.length_take] at hnl
   have hril:=bZ r.In
   dsimp only [Option.bind_some]
   rw [hrr]
   dsimp only
   repeat' (first|refine a9 ?_|refine a4 ?_|refine aj ?_|refine a6 ?_|refine a7 ?_|refine LG a5 KZ ?_|(apply aL;first|refine aJ a5 ?_|refine aF a5 ?_)|refine bB rfl ?_)
   refine bz 6 [(0,.v),(1,.v),(2,.v),(3,.v),(4,.v),(5,.v)] none ?_ trivial rfl (by kernel_rfl) (by kernel_rfl) (by kernel_rfl) bX (by kernel_rfl) rfl
   refine W0a ?_
   refine Fs a5 r.In.length rfl rfl rfl rfl rfl rfl (by rw [show (eY r).In=r.In from rfl,hril]) (by rw [show (eY r).In=r.In from rfl,hril]) (by omega) trivial ?_
   rw [show (dt ((eM E.ms e.l.Ignore run i).take (f9 e.l.Rules))).take r.In.length=dt (dV E.ms e.l run i r) by rw [←hpl];unfold dt aQ;rw [←List.map_take,←List.map_take]]
   refine W0a ?_
   refine LQ [8,99] KZ ?_
   refine W0c ?_
   exact LT LA ⟨rfl,rfl⟩
 ·have hm:fm E.ms e.l run i forms=none:=by
   unfold fm
   rw [if_neg]
   unfold lz
   rw [List.getElem?_eq_none (by omega)]
   exact fun h=>by cases h
  unfold lQ
  rw [hm]
  refine W15 ?_
  refine ce [0,1,2,3] True rfl (fun Q' K=>?_) (fun hC=>?_) (fun hC=>absurd trivial hC)
  ·repeat' (first|fail)
   refine mV a5 rfl hq rfl rfl ?_
   repeat' (first|refine a7 ?_|refine LG a5 KZ ?_|refine LO KZ ?_|refine LP LB ?_|refine LR LA (fun _=>?_) (fun _=>?_))
   ·rename_i h
    have:=Ly h
    omega
   ·exact K _ _ rfl rfl (by simp)
  ·refine W07 ?_
   exact LT LA ⟨rfl,rfl⟩
end Go.Proofs.YtpmdfoaadejmkaaGreatDoor
namespace Go.Proofs.YtpmdfoaadejmkaaGreatDoor
open Go.RowKit
section
variable {P:Program} {tt:TT} {l:List Oper} {fr:bT} {fin:iR} {sk:m6} {acc:bT} {L:AL} {k:Nat} {dd:Option Tmp} {ty t:TypeId} {pos:String} {af:Array Edge} {g:Option (Nat×Bool)}
theorem CR (ok:eu P tt) {zs:List Value} (hz:zI tt t=some zs) (h1:zs.all (·.oneCell')=true) (hg:it ⟨dd,.alloc t,ty,pos,af,g⟩ acc) (h:∀b,DA P l fr fin sk ((k,.sc (.pointer (some ⟨b,0,none⟩)))::acc) ((b,.box (zs.map .sc) t)::L)):
  cA P l fr fin k .a ⟨dd,.alloc t,ty,pos,af,g⟩ sk acc L:=
 HT (fun c L' ⟨b,_,h2⟩=>⟨[(b,_)],h2⟩) hg (fun _=>nd (f5 ok hz) h1) fun c L' ⟨b,h1,h2⟩=>by subst h1;subst h2;exact h b
end
end Go.Proofs.YtpmdfoaadejmkaaGreatDoor
namespace Go.Proofs.YtpmdfoaadejmkaaGreatDoor
open Go.RowKit
attribute [local irreducible] AT br AX AO Av Kt b7 dm DA cA
theorem jO {run:List aR} {i j:Nat} {x:aR} (y:aR) (v:AV) (junk:List AV) (h:run[i]?=some x) (hj:j < 6) (hy:bS y=(bS x).set j v):fx (c7 run++junk) (0+((i:Nat):Int).toNat * 6+j) [v]=c7 (run.set i y)++junk:=by
 rw [jh,Int.toNat_natCast,Nat.zero_add]
 have hi:=(Ln h).1
 have hl:=d9 run
 rw [List.set_append,if_pos (by omega)]
 congr 1
 unfold c7
 have hm:(run.map bS)[i]?=some (bS x):=by simp [h]
 rw [vF (sz:=6) (run.map bS) i j (bS x) v (fun e he=>by obtain ⟨z,_,rfl⟩:=List.mem_map.1 he;rfl) hm hj,←hy,List.map_set]
theorem mh (run:List aR) (junk:List AV) {k:Nat} (h:k≤run.length):(c7 run++junk).take (k * 6)=c7 (run.take k):=by
 have e:c7 run=c7 (run.take k)++c7 (run.drop k):=by rw [←iP,List.take_append_drop]
 have hl:=d9 (run.take k)
 rw [List.length_take,Nat.min_eq_left h] at hl
 rw [e,List.append_assoc,←hl,List.take_left]
theorem sO (run:List aR) (junk:List AV) {k:Nat} (h:k≤run.length):((c7 run++junk).drop (k * 6)).take ((run.length - k) * 6)=c7 (run.drop k):=by
 have e:c7 run=c7 (run.take k)++c7 (run.drop k):=by rw [←iP,List.take_append_drop]
 have hl:=d9 (run.take k)
 rw [List.length_take,Nat.min_eq_left h] at hl
 have hl2:=d9 (run.drop k)
 rw [List.length_drop] at hl2
 rw [e,List.append_assoc,←hl,List.drop_left,←hl2,List.take_left]
theorem Ar (run:List aR) (junk:List AV) {i:Nat} {x:aR} (h:run[i]?=some x):((c7 run++junk).drop (i * 6)).take 6=bS x:=by
 have hi:=(Ln h).1
 have e:c7 run=c7 (run.take i)++(bS x++c7 (run.drop (i+1))):=by
  rw [←mQ,←iP]
  congr 1
  rw [←(Ln h).2,List.getElem_cons_drop,List.take_append_drop]
 have hl:=d9 (run.take i)
 rw [List.length_take,Nat.min_eq_left (by omega)] at hl
 rw [e,List.append_assoc,←hl,List.drop_left,List.append_assoc]
 exact List.take_left (l₁:=bS x)
theorem Dm (b k n:Nat) (cs:List AV) (hk:k * 6≤cs.length) (hk1:k≤1000000) (hn1:n≤2000000):AC Tryz.prog 259 [.sc (.slice (some ⟨b,0,none⟩) k k),aI n] [(b,.box cs 67)] fun c L=>
  (n=0∧c= .sc (.slice (some ⟨b,0,none⟩) k k)∧L=[(b,.box cs 67)])∨
  (0 < n∧∃b' cs' cap',c= .sc (.slice (some ⟨b',0,none⟩) k cap')∧cap' * 6≤cs'.length∧cs'.take (k * 6)=cs.take (k * 6)∧k+n≤cap'∧cap'≤maxLen∧L=[(b',.box cs' 67),(b,.box cs 67)]):=by
 refine aS Tryz.func259 rfl Tryz.ntmps259 rfl fun B=>?_
 refine W0G ?_
 refine ue a5 rfl rfl rfl ?_
 refine W0L ?_
 refine ar rfl (fun h=>?_) fun h=>?_
 ·have hn0:0 < n:=by have:=Lz h;omega
  refine W1f ?_
  refine ue a5 rfl rfl rfl ?_
  repeat' (first|fail)
  refine z7 a5 k rfl rfl rfl rfl (Nat.le_refl _) rfl ?_
  repeat' (first|refine LG a5 KZ ?_)
  refine xJ a5 0 n rfl rfl rfl Tryz.underlying3 rfl rfl (by omega) hn0 rfl hk (Nat.le_refl _) (by omega) (by unfold maxLen;omega) (by omega) rfl fun b' cs' cap' h1 h2 h3 h4=>?_
  repeat' (first|refine LG a5 KZ ?_)
  refine z7 a5 k rfl rfl rfl rfl (by omega) rfl ?_
  refine W0u ?_
  exact LM KZ (.inr ⟨hn0,b',cs',cap',rfl,h1,h2,h3,h4,rfl⟩)
 ·have hn0:n=0:=by have:=Ly h;omega
  refine W1m ?_
  exact LM KZ (.inl ⟨hn0,rfl,rfl⟩)
theorem th {fr:bT} {B:Bs} {L:AL} {y:Operand} {sz c:Nat} {A:Option Addr} (hy:bh fr y=some (.sc (.slice A 0 c))):uO fr B L y sz 0 []:=fun σ ρ w hρ _=>⟨A,c,[],(hρ y _ hy).sc_inv,cS.nil,by simp,by simp,fun h=>by omega⟩
theorem xk {run:List aR} (junk:List AV) {i:Nat} {x:aR} (h:run[i]?=some x):((c7 run++junk).drop (0+((i:Nat):Int).toNat * 6)).take 6=bS x:=by
 rw [Int.toNat_natCast,Nat.zero_add]
 exact Ar run junk h
def xW (x:aR) (l:List Int):List aR:=l.map fun g=>{ x with Glyph:=g }
theorem Ee (x:aR) (l:List Int):(xW x l).length=l.length:=by simp [xW]
theorem Ik {a b:Nat×AB} {X:AL}:(a::b::X).Perm (b::a::X):=List.Perm.swap ..
theorem K6 {a b c d:Nat×AB}:[a,b,c,d].Perm [c,b,d,a]:=(List.Perm.cons a (List.Perm.swap c b _)).trans ((List.Perm.swap c a _).trans ((((List.Perm.swap b a _).trans ((List.Perm.swap d a _).cons b))).cons c))
theorem K7 {a b c d:Nat×AB} {X:AL}:((a::X)++[b,c,d]).Perm (b::a::c::d::X):=(List.perm_append_comm (l₁:=a::X) (l₂:=[b,c,d])).trans (((List.Perm.swap a d _).cons c |>.trans (List.Perm.swap a c _)).cons b)
set_option maxHeartbeats 4000000 in
theorem DR (E:n8) (wb:Nat) (m:gy) (run:List aR) (hq:dN (some m) run) (hr:run.length≤1000000) (i:Nat) (x:aR) (hx:run[i]?=some x) (r:b8) (ho:r.Out.length≤1000000):AC Tryz.prog 191 [eO wb,aI i,.imm 1 (aQ r.Out)] (jo wb E (some m) run) fun _ L=>∃q',dN q' (ja r i run)∧L=jo wb E q' (ja r i run):=by
 refine aS Tryz.func191 rfl Tryz.ntmps191 rfl fun B=>?_
 have hil:=(Ln hx).1
 have hol:=aX r.Out
 obtain ⟨h1,h2,h3⟩:=hq.fit m rfl
 have hfl:=d9 run
 have hmv:ja r i run=if run.length - 1+r.Out.length > 500∧1 < r.Out.length then run else run.take i++xW x r.Out++run.drop (i+1):=by
  unfold ja
  rw [hx]
  rfl
 have hit:=xk m.junk hx
 unfold maxLen at h2
 repeat' (first|refine a9 ?_|refine a4 ?_|refine a6 ?_|refine a7 ?_|refine LG a5 KZ ?_|(apply bq;first|refine LJ a5 0 LC ?_|refine LJ a5 1 LC ?_|refine LJ a5 2 LC ?_|refine LJ a5 3 LC ?_|refine LK a5 0 LC ?_|refine LK a5 1 LC ?_|refine LK a5 2 LC ?_|refine LL a5 1 LA (by assumption) rfl ?_|refine LL a5 0 LA (by assumption) rfl ?_|fail)|(apply aU;refine aT ?_)|fail)
 refine ce [0,1,2] (run.length - 1+r.Out.length > 500∧1 < r.Out.length) rfl (fun Q' K=>?_) (fun hC=>?_) (fun hC=>?_)
 ·repeat' (first|refine a7 ?_|refine LG a5 KZ ?_|refine LO KZ ?_|refine LP LB ?_|refine LR LA (fun _=>?_) (fun _=>?_))
  all_goals exact K _ _ rfl rfl (by simp_all <;> omega)
 ·rw [if_pos hC] at hmv
  refine W2m ?_
  exact pW rfl ⟨some m,by rw [hmv];exact hq,by rw [hmv]⟩
 rw [if_neg hC] at hmv
 refine W27 ?_
 refine dx [.cell (wb,1,ew (some m) run)] 17 [(0,.v),(1,.v),(2,.v),(3,.l),(4,.v),(5,.v),(6,.l),(7,.v),(8,.v),(9,.v),(10,.k),(11,.v),(12,.v),(13,.v),(14,.a),(15,.f),(16,.v)] none ?_ trivial rfl (by kernel_rfl) (by kernel_rfl) (by kernel_rfl) bX (by kernel_rfl) rfl
 refine W0t ?_
 refine d8 a5 rfl rfl rfl ⟨by omega,by omega⟩ trivial ?_
 repeat' (first|refine aD ?_|fail)
 refine nl a5 1 rfl rfl rfl (Nat.ble_eq_true_of_le (by rw [Int.toNat_natCast];simp;omega)) trivial ?_
 rw [hit]
 refine W0a ?_
 refine dP a5 0 rfl rfl rfl (nG 0 rfl rfl) trivial ?_
 refine W1i ?_
 refine yI a5 (i+1) rfl rfl rfl (by omega) (by omega) h1 trivial ?_
 repeat' (first|refine aD ?_|fail)
 refine CR a5 rfl rfl trivial fun ib=>?_
 repeat' (first|refine aD ?_|fail)
 refine CV a5 0 rfl rfl rfl rfl rfl rfl rfl (nG 1 rfl rfl) trivial fun _=>?_
 refine W0a ?_
 refine LQ [0,1,2,7,8] KZ ?_
 refine W0d ?_
 refine Ia a5 i rfl rfl rfl rfl rfl rfl (by omega) rfl ?_
 repeat' (first|refine LG a5 KZ ?_|(apply aU;refine aT ?_)|fail)
 have hfll:(c7 run++m.junk).length=run.length * 6+m.junk.length:=by rw [List.length_append,hfl]
 have hti:=mh run m.junk (Nat.le_of_lt hil)
 have hgr:=Dm m.rb i (r.Out.length+(run.length - (i+1))) (c7 run++m.junk) (by omega) (by omega) (by omega)
 refine aE (aH (L':=(m.rb,.box (c7 run++m.junk) 67)::[(wb,.box [.iptr (eh E),ew (some m) run] 102),ct,(ib,.box (bS x) 67)]) ?_) ?_
 ·exact K6
 refine b9 [(m.rb,.box (c7 run++m.junk) 67)] [(wb,.box [.iptr (eh E),ew (some m) run] 102),ct,(ib,.box (bS x) 67)] hgr rfl (by rw [hol];rfl) (Lm _) rfl fun c L1 hp=>?_
 obtain ⟨db,dcs,dcap,X,hc,hL,hd1,hd2,hd3,jQ,hX⟩:∃db dcs dcap X,c= .sc (.slice (some ⟨db,0,none⟩) i dcap)∧L1=(db,.box dcs 67)::X∧dcap * 6≤dcs.length∧dcs.take (i * 6)=c7 (run.take i)∧i+(r.Out.length+(run.length - (i+1)))≤dcap∧dcap≤maxLen∧(r.Out.length+(run.length - (i+1))=0∨X=[(m.rb,.box (c7 run++m.junk) 67)]):=by
  rcases hp with ⟨h0,hc,hL⟩ | ⟨h0,b',cs',cap',hc,h4,h5,h6,h7,hL⟩
  ·exact ⟨m.rb,_,i,[],hc,hL,by omega,hti,by omega,by unfold maxLen;omega,.inl h0⟩
  ·exact ⟨b',cs',cap',_,hc,hL,h4,by rw [h5,hti],h6,h7,.inr rfl⟩
 subst hc;subst hL
 unfold maxLen at jQ
 refine aE (aH (L':=(wb,.box [.iptr (eh E),ew (some m) run] 102)::(db,.box dcs 67)::ct::(ib,.box (bS x) 67)::X) ?_) ?_
 ·exact K7
 refine W04 ?_
 refine aN [0,7,8,59,60] (α:=Nat×Int×List AV) (fun s=>[(61,aI s.1),(9,.sc (.slice (some ⟨db,0,none⟩) (i+s.1:Nat) dcap))]) (fun s=>s.1≤r.Out.length∧dcap * 6≤s.2.2.length∧s.2.2.take ((i+s.1) * 6)=c7 (run.take i++xW x (r.Out.take s.1))) (fun s=>(wb,.box [.iptr (eh E),ew (some m) run] 102)::(db,.box s.2.2 67)::ct::(ib,.box (bS { x with Glyph:=s.2.1 }) 67)::X) (fun s=>r.Out.length - s.1) (0,x.Glyph,dcs) rfl ⟨rfl,rfl,trivial⟩ ⟨Nat.zero_le _,hd1,by simpa [xW] using hd2⟩ (fun _ _ h=>h) ?_
 rintro ⟨k,g,cs⟩ ⟨hk,hcl,hct⟩
 dsimp only at hk hcl hct ⊢
 try dsimp only [Lr,Lq,Lp,Li]
 refine W01 ?_
 refine ar rfl (fun h=>?_) (fun h=>?_)
 ·have hk2:k < r.Out.length:=by have:=Lz h;omega
  obtain ⟨y,hy⟩:∃z,r.Out[k]?=some z:=⟨_,Iy hk2⟩
  have hyg:=bW hy
  clear h
  repeat' (first|refine a9 ?_|refine a4 ?_|refine ai ?_|refine aj ?_|refine a6 ?_|refine a7 ?_|refine LG a5 KZ ?_|(apply aL;first|refine aJ a5 ?_|refine aF a5 ?_)|(apply aM;first|refine LH a5 0 LE ?_|refine LH a5 1 LE ?_|refine LH a5 2 LE ?_|refine LH a5 3 LE ?_|fail))
  refine LK a5 3 LC ?_
  repeat' (first|refine bQ a5 ?_|fail)
  refine jU a5 1 rfl rfl rfl rfl (rP rfl rfl) rfl hcl (by omega) (by unfold maxLen;omega) (by simp;unfold maxLen;omega) (by simp;omega) rfl fun b' cs' cap' e1 e2 e3 e4 e5=>?_
  obtain ⟨e6,e7,e8⟩:=e5 (by simp;omega)
  subst e6;subst e7
  refine aE (aH Ik) ?_
  refine W05 ?_
  refine aC (k+1,y,cs') rfl ⟨by rw [Lv];rfl,rfl,trivial⟩ ⟨hk2,e1,?_⟩ (by dsimp only;omega) (fun _ _ h=>h)
  rw [←Nat.add_assoc]
  refine e2.trans ?_
  rw [hct,show r.Out.take (k+1)=r.Out.take k++[y] by rw [List.take_add_one,hy];rfl]
  unfold xW
  rw [List.map_append,←List.append_assoc]
  refine Eq.trans ?_ (iP _ _).symm
  rfl
 ·have hke:k=r.Out.length:=by have:=Ly h;omega
  subst hke
  rw [List.take_length] at hct
  have hsrc:∀fr y B,bh fr y=some (.sc (.slice (some ⟨m.rb,if m.cap=i+1 then 0 else (i+1) * 6,none⟩) (run.length - (i+1)) (m.cap - (i+1))))→uO fr B ((wb,.box [.iptr (eh E),ew (some m) run] 102)::(db,.box cs 67)::ct::(ib,.box (bS { x with Glyph:=g }) 67)::X) y 6 (run.length - (i+1)) (c7 (run.drop (i+1))):=by
   intro fr y B hy
   by_cases hz:run.length - (i+1)=0
   ·rw [hz] at hy ⊢
    rw [List.drop_eq_nil_of_le (by omega)]
    exact th hy
   ·rcases hX with hX | hX
    ·omega
    ·subst hX
     have hs:=rQ (B:=B) (sz:=6) (L:=(wb,.box [.iptr (eh E),ew (some m) run] 102)::(db,.box cs 67)::ct::(ib,.box (bS { x with Glyph:=g }) 67)::[(m.rb,.box (c7 run++m.junk) 67)]) 4 hy rfl (by split <;> omega)
     rw [if_neg (by omega),sO run m.junk hil] at hs
     exact hs
  repeat' (first|refine a4 ?_|refine aP ?_|refine a6 ?_|refine aq ?_|refine ay ?_|refine au ?_|refine LG a5 KZ ?_)
  refine jU a5 1 rfl rfl rfl rfl (hsrc _ _ _ rfl) rfl hcl (by omega) (by unfold maxLen;omega) (by unfold maxLen;omega) (by omega) rfl fun b' cs' cap' e1 e2 e3 e4 e5=>?_
  obtain ⟨e6,e7,e8⟩:=e5 (by omega)
  subst e6;subst e7
  refine aE (aH Ik) ?_
  refine W0M ?_
  have hrun:ja r i run=run.take i++xW x r.Out++run.drop (i+1):=hmv
  have hlen:(ja r i run).length=i+r.Out.length+(run.length - (i+1)):=by
   rw [hrun,List.length_append,List.length_append,List.length_take,List.length_drop,Ee]
   omega
  have hfl2:=d9 (ja r i run)
  have hcs:cs'=c7 (ja r i run)++cs'.drop ((i+r.Out.length+(run.length - (i+1))) * 6):=by
   conv=>lhs;rw [←List.take_append_drop ((i+r.Out.length+(run.length - (i+1))) * 6) cs',e2,hct]
   rw [hrun,iP _ (run.drop (i+1))]
  refine dc (L':=[(wb,.box [.iptr (eh E),.sc (.slice (some ⟨b',0,none⟩) (i+r.Out.length+(run.length - (i+1)):Nat) cap')] 102),(b',.box cs' 67),ct]) (.cons_cons _ (.cons_cons _ (.cons_cons _ (List.nil_sublist _)))) ?_
  refine cJ rfl ⟨some ⟨b',cap',cs'.drop ((i+r.Out.length+(run.length - (i+1))) * 6)⟩,⟨fun h=>(by cases h),fun m' hm'=>?_⟩,?_⟩
  ·cases hm'
   refine ⟨by rw [hlen];dsimp only;omega,by dsimp only;unfold maxLen;omega,?_⟩
   dsimp only
   rw [←hcs]
   exact e1
  ·unfold ew jF
   dsimp only
   rw [hlen,←hcs]
   rfl
theorem xj {run:List aR} {i:Nat} (hi:i < run.length):c7 (run.eraseIdx i)=c7 (run.take i)++c7 (run.drop (i+1)):=by
 rw [List.eraseIdx_eq_take_drop_succ,iP]
set_option maxHeartbeats 2000000 in
theorem Al (b cap:Nat) (run:List aR) (junk:List AV) (i:Nat) (hi:i < run.length) (hc:run.length≤cap) (hm:cap≤maxLen) (hf:cap * 6≤(c7 run++junk).length) (hr:run.length≤1000000):AC Tryz.prog 260 [.sc (.slice (some ⟨b,0,none⟩) run.length cap),aI i,aI ((i:Int)+1)] [(b,.box (c7 run++junk) 67)] fun c L=>
  c= .sc (.slice (some ⟨b,0,none⟩) (run.eraseIdx i).length cap)∧∃junk',cap * 6≤(c7 (run.eraseIdx i)++junk').length∧L=[(b,.box (c7 (run.eraseIdx i)++junk') 67)]:=by
 refine aS Tryz.func260 rfl Tryz.ntmps260 rfl fun B=>?_
 have hfl:=d9 run
 have hel:=List.length_eraseIdx_of_lt hi
 unfold maxLen at hm
 have hsrc:∀fr y B,bh fr y=some (.sc (.slice (some ⟨b,if cap=i+1 then 0 else (i+1) * 6,none⟩) (run.length - (i+1)) (cap - (i+1))))→uO fr B [(b,.box (c7 run++junk) 67)] y 6 (run.length - (i+1)) (c7 (run.drop (i+1))):=by
  intro fr y B hy
  by_cases hz:run.length - (i+1)=0
  ·rw [hz] at hy ⊢
   rw [List.drop_eq_nil_of_le (by omega)]
   exact th hy
  ·have hs:=rQ (B:=B) (sz:=6) (L:=[(b,.box (c7 run++junk) 67)]) 0 hy rfl (by split <;> omega)
   rw [if_neg (by omega),sO run junk hi] at hs
   exact hs
 refine W01 ?_
 refine I9 a5 i (i+1) run.length rfl rfl rfl rfl rfl (by omega) rfl rfl (by omega) hi hc rfl ?_
 refine W01 ?_
 refine ar rfl (fun h=>?_) (fun _=>?_)
 ·have:=Lz h
  omega
 refine W1P ?_
 refine bz 6 [(0,.v),(1,.v),(2,.v),(3,.v),(4,.v),(5,.v)] none ?_ trivial rfl (by kernel_rfl) (by kernel_rfl) (by kernel_rfl) bX (by kernel_rfl) rfl
 refine W0a ?_
 refine Fq a5 i rfl rfl rfl rfl (by omega) trivial ?_
 refine W0a ?_
 refine yI a5 (i+1) rfl rfl rfl (by omega) hi hc trivial ?_
 repeat' (first|fail)
 refine LQ [7,22,25] KZ ?_
 repeat' (first|fail)
 refine jU a5 0 rfl rfl rfl rfl (hsrc _ _ _ rfl) rfl hf (by omega) (by unfold maxLen;omega) (by unfold maxLen;omega) (by omega) rfl fun b' cs' cap' e1 e2 e3 e4 e5=>?_
 obtain ⟨e6,e7,e8⟩:=e5 (by omega)
 subst e6;subst e7
 refine W01 ?_
 have hn1:i+(run.length - (i+1))=(run.eraseIdx i).length:=by omega
 rw [hn1] at e2 ⊢
 refine I8 a5 (run.eraseIdx i).length run.length rfl rfl rfl rfl rfl rfl (by omega) hc rfl ?_
 repeat' (first|fail)
 have hcl:cap' * 6≤cs'.length:=e1
 have hce:cs'.take ((run.eraseIdx i).length * 6)=c7 (run.eraseIdx i):=by
  rw [e2,mh run junk (by omega),xj hi]
 refine DU a5 0 (m:=(run.eraseIdx i).length) rfl rfl rfl rfl (.inl rfl) rfl ?_ fun cs2 g1 g2=>?_
 ·have h1:(run.eraseIdx i).length * 6+(run.length - (run.eraseIdx i).length) * 6=run.length * 6:=by omega
  rw [h1]
  omega
 refine W0u ?_
 refine LM KZ ⟨rfl,cs2.drop ((run.eraseIdx i).length * 6),?_⟩
 have hj:c7 (run.eraseIdx i)++cs2.drop ((run.eraseIdx i).length * 6)=cs2:=by
  rw [←hce,←g2,List.take_append_drop]
 rw [hj]
 exact ⟨by omega,rfl⟩
structure KC (run:List aR):Prop where
 len:run.length≤500
 mono:run.Pairwise fun a b=>a.Cluster≤b.Cluster
theorem ma:∀{q:List Nat} {run:List aR},(fR q run).Sublist run
 | [],_=>List.Sublist.refl _
 | p::q,run=>by rw [fR];exact (List.eraseIdx_sublist ..).trans ma
theorem vx {R:List aR}:∀{l:List Nat} {j:Nat},l.Pairwise (· < ·)→(∀z∈l,j < z∧z < R.length)→j < R.length→j < (fR l R).length
  | [],_,_,_,hj=>hj
  | z::l,j,hs,hl,hj=>by
    obtain ⟨h1,h2⟩:=List.pairwise_cons.1 hs
    have hz:=hl z (by simp)
    have:=vx (j:=z) h2 (fun y hy=>⟨h1 y hy,(hl y (by simp [hy])).2⟩) hz.2
    rw [fR,List.length_eraseIdx_of_lt this]
    omega
theorem sZ:∀{l:List Nat} {run:List aR} {c:Int},iy run l c≤c
 | [],_,_=>Int.le_refl _
 | p::l,run,c=>by
  have:=sZ (l:=l) (run:=run) (c:=oM run c p)
  have h2:oM run c p≤c:=by unfold oM;split <;> omega
  unfold iy at this ⊢
  rw [List.foldl_cons]
  omega
theorem qi {wb:Nat} {E:n8} {m:gy} {run:List aR} {p:Nat} {y:aR}:eF (jo wb E (some m) run) 1 (.box (c7 (run.set p y)++m.junk) 67)=jo wb E (some m) (run.set p y):=by
 show [(wb,AB.box [.iptr (eh E),.sc (.slice (some ⟨m.rb,0,none⟩) run.length m.cap)] 102),(m.rb,.box (c7 (run.set p y)++m.junk) 67),ct]=[(wb,AB.box [.iptr (eh E),.sc (.slice (some ⟨m.rb,0,none⟩) (run.set p y).length m.cap)] 102),(m.rb,.box (c7 (run.set p y)++m.junk) 67),ct]
 rw [List.length_set]
theorem yz {B:Bs} {σ:Mem} {w:World} {wb:Nat} {E:n8} {m:gy} {run:List aR} {p:Nat} {y:aR} (h:cL B σ (eF (jo wb E (some m) run) 1 (.box (c7 (run.set p y)++m.junk) 67)) w):cL B σ (jo wb E (some m) (run.set p y)) w:=qi▸h
theorem dN.set {m:gy} {run:List aR} (h:dN (some m) run) (p:Nat) (y:aR):dN (some m) (run.set p y):=⟨fun e=>(by cases e),fun m' e=>by
 cases e
 obtain ⟨h1,h2,h3⟩:=h.fit m rfl
 rw [List.length_append,d9] at h3 ⊢
 rw [List.length_set]
 exact ⟨h1,h2,h3⟩⟩
theorem K5 {a b c:Nat×AB}:[a,b,c].Perm ([b]++[a,c]):=List.Perm.swap ..
set_option maxHeartbeats 4000000 in
theorem FV (E:n8) (wb:Nat) (m:gy) (run:List aR) (hq:dN (some m) run) (hr:run.length≤1000000) (p:Nat) (q:List Nat) (hp:∀j∈p::q,j < run.length) (hs:(p::q).Pairwise (· < ·)) (x:aR) (hx:run[p]?=some x) (r:b8) (g:Int) (gs:List Int) (hg:r.Out=g::gs):AC Tryz.prog 192 [eO wb,.imm 1 (dt (p::q)),aI g] (jo wb E (some m) run) fun _ L=>∃q',dN q' (nJ r (p::q) run)∧L=jo wb E q' (nJ r (p::q) run):=by
  refine aS Tryz.func192 rfl Tryz.ntmps192 rfl fun B=>?_
  refine cW 1 rfl rfl fun hlen=>?_
  have hil:=(Ln hx).1
  have hnl:=mo (p::q)
  rw [hnl] at hlen
  have hql:q.length+1≤9223372036854775807:=hlen
  obtain ⟨h1,h2,h3⟩:=hq.fit m rfl
  have hfl:=d9 run
  have hlv:nJ r (p::q) run=fR q (run.set p { x with Glyph:=g,Cluster:=iy run (p::q) x.Cluster }):=by
    unfold nJ
    rw [hg]
    dsimp only
    rw [hx]
  rw [hlv]
  have hflj:∀y:aR,(c7 (run.set p y)++m.junk).length=(c7 run++m.junk).length:=fun y=>by rw [List.length_append,d9,List.length_set,List.length_append,hfl]
  have hp0:(dt (p::q))[(0:Int).toNat]?=some [aI p]:=rfl
  have hst:=jO (j:=0) { x with Glyph:=g } (aI g) m.junk hx (by omega) rfl
  repeat' (first|refine a9 ?_)
  refine bz 7 [(0,.v),(1,.v),(2,.v),(3,.l),(4,.v),(5,.v),(6,.v)] none ?_ trivial rfl (by kernel_rfl) (by kernel_rfl) (by kernel_rfl) bX (by kernel_rfl) rfl
  refine W0Z ?_
  refine LQ [0,1,2,13,16] KZ ?_
  refine W1q ?_
  refine LU a5 1 LD (Nat.ble_eq_true_of_le (by rw [Int.toNat_natCast];simp;omega)) ?_
  rw [hst]
  refine W04 ?_
  refine aN [0,1,6,22,23] (α:=Nat) (fun k=>[(24,aI k)]) (fun k=>k≤(p::q).length) (fun k=>jo wb E (some m) (run.set p { x with Glyph:=g,Cluster:=iy run ((p::q).take k) x.Cluster })) (fun k=>(p::q).length - k) 0 rfl ⟨rfl,trivial⟩ (Nat.zero_le _) (fun _ _ h=>yz h) fun k hk=>?_
  · try dsimp only [Lr,Lq,Lp,Li]
    refine W01 ?_
    refine ar rfl (fun h=>?_) (fun h=>?_)
    · have hk2:k < (p::q).length:=by have:=Lz h;omega
      obtain ⟨j,hj⟩:∃z,(p::q)[k]?=some z:=⟨_,Iy hk2⟩
      have hjg:(dt (p::q))[k]?=some [aI j]:=by unfold dt;exact bW (by rw [List.getElem?_map,hj];rfl)
      have hjl:=hp j (Lw hj)
      obtain ⟨y,hy⟩:∃z,run[j]?=some z:=⟨_,Iy hjl⟩
      have htk:(p::q).take (k+1)=(p::q).take k++[j]:=by rw [List.take_add_one,hj];rfl
      have hle:=sZ (l:=(p::q).take k) (run:=run) (c:=x.Cluster)
      have hnew:iy run ((p::q).take (k+1)) x.Cluster=min (iy run ((p::q).take k) x.Cluster) y.Cluster:=by
        unfold iy
        rw [htk,List.foldl_append]
        show oM run _ j=_
        unfold oM
        rw [hy]
      generalize iy run ((p::q).take k) x.Cluster=c at *
      have hxp:(run.set p { x with Glyph:=g,Cluster:=c })[p]?=some { x with Glyph:=g,Cluster:=c }:=List.getElem?_set_self hil
      obtain ⟨y2,hy2,hyc⟩:∃y2,(run.set p { x with Glyph:=g,Cluster:=c })[j]?=some y2∧min c y2.Cluster=min c y.Cluster:=by
        by_cases hjp:j=p
        · subst hjp
          rw [hx] at hy
          cases hy
          exact ⟨_,hxp,by dsimp only;omega⟩
        · exact ⟨y,by rw [List.getElem?_set_ne (fun e=>hjp e.symm)];exact hy,rfl⟩
      have hf1:=pi (j:=1) m.junk hxp rfl
      have hf2:=pi (j:=1) m.junk hy2 rfl
      have hst2:=jO (j:=1) { x with Glyph:=g,Cluster:=min c y2.Cluster } (aI (min c y2.Cluster)) m.junk hxp (by omega) rfl
      have hsl:(run.set p { x with Glyph:=g,Cluster:=c }).length=run.length:=List.length_set ..
      have hfl2:=hflj { x with Glyph:=g,Cluster:=c }
      clear h
      refine W08 ?_
      refine bz 14 [(0,.v),(1,.v),(2,.v),(3,.v),(4,.l),(5,.v),(6,.v),(7,.v),(8,.l),(9,.v),(10,.v),(11,.v),(12,.l),(13,.v)] none ?_ trivial rfl (by kernel_rfl) (by kernel_rfl) (by kernel_rfl) bX (by kernel_rfl) rfl
      refine W0a ?_
      refine cf a5 1 rfl rfl rfl hf1 trivial ?_
      refine W0t ?_
      refine d8 a5 rfl rfl rfl ⟨by omega,by omega⟩ trivial ?_
      refine W0a ?_
      refine cf a5 1 rfl rfl rfl hf2 trivial ?_
      refine W0a ?_
      refine LQ [0,1,6,22,23,24,28,41] KZ ?_
      repeat' (first|refine LG a5 KZ ?_)
      refine LU a5 1 LD (Nat.ble_eq_true_of_le (by rw [Int.toNat_natCast];simp only [hfl2];simp;omega)) ?_
      rw [hst2]
      refine W05 ?_
      refine aC (k+1) rfl ⟨by rw [Lv];rfl,trivial⟩ (by omega) (by omega) (fun _ _ h=>?_)
      have h4:=yz h
      rw [List.set_set] at h4
      rw [hnew,←hyc]
      exact h4
    · have hke:k=(p::q).length:=by have:=Ly h;omega
      subst hke
      rw [List.take_length]
      clear h
      have hR:(run.set p { x with Glyph:=g,Cluster:=iy run (p::q) x.Cluster }).length=run.length:=List.length_set ..
      have hqR:=hq.set p { x with Glyph:=g,Cluster:=iy run (p::q) x.Cluster }
      generalize run.set p { x with Glyph:=g,Cluster:=iy run (p::q) x.Cluster }=R at *
      obtain ⟨g1,g2,g3⟩:=hqR.fit m rfl
      repeat' (first|refine a9 ?_|refine a4 ?_|refine ai ?_|refine aP ?_|refine a6 ?_|refine aq ?_|refine ay ?_|refine au ?_|refine a7 ?_|refine LG a5 KZ ?_|(apply aU;refine aT ?_)|fail)
      refine aN [0,1] (α:=Nat×List AV) (fun s=>[(9,aI s.1)]) (fun s=>s.1≤q.length∧m.cap * 6≤(c7 (fR (q.drop s.1) R)++s.2).length) (fun s=>jo wb E (some ⟨m.rb,m.cap,s.2⟩) (fR (q.drop s.1) R)) (fun s=>s.1) (q.length,m.junk) rfl ⟨by rw [hnl];simp;rfl,trivial⟩ ⟨Nat.le_refl _,by rw [List.drop_length];exact g3⟩ (fun _ _ h=>by rw [List.drop_length];exact h) ?_
      rintro ⟨n,junk⟩ ⟨hn,hj⟩
      dsimp only at hn hj ⊢
      try dsimp only [Lr,Lq,Lp,Li]
      refine W01 ?_
      refine ar rfl (fun h=>?_) (fun h=>?_)
      · have hn0:0 < n:=by have:=Lz h;omega
        obtain ⟨k,rfl⟩:∃k,n=k+1:=⟨n - 1,by omega⟩
        obtain ⟨z,hz⟩:∃z,q[k]?=some z:=⟨_,Iy (by omega)⟩
        have hzg:(dt (p::q))[((k+1:Nat):Int).toNat]?=some [aI z]:=by rw [Int.toNat_natCast];unfold dt;exact bW (by rw [Lp,List.getElem?_cons_succ,List.getElem?_map,hz];rfl)
        have hqd:q.drop k=z::q.drop (k+1):=by rw [List.drop_eq_getElem_cons (by omega),(Ln hz).2]
        have hqp:=(List.pairwise_cons.1 hs).2
        have hdp:(z::q.drop (k+1)).Pairwise (· < ·):=by rw [←hqd];exact hqp.sublist (List.drop_sublist ..)
        obtain ⟨d1,d2⟩:=List.pairwise_cons.1 hdp
        have hqm:∀y∈q,y < R.length:=fun y hy=>by rw [hR];exact hp y (by simp [hy])
        have hzl:=vx (R:=R) d2 (fun y hy=>⟨d1 y hy,hqm y (List.mem_of_mem_drop hy)⟩) (hqm z (Lw hz))
        have hdl:(fR (q.drop (k+1)) R).length≤R.length:=ma.length_le
        have hdel:=Al m.rb m.cap (fR (q.drop (k+1)) R) junk z hzl (by omega) h2 hj (by omega)
        have her:(fR (q.drop (k+1)) R).eraseIdx z=fR (q.drop k) R:=by rw [hqd];rfl
        rw [her] at hdel
        clear h
        refine W0K ?_
        refine bz 15 [(0,.v),(1,.v),(2,.v),(3,.v),(4,.l),(5,.v),(6,.v),(7,.v),(8,.v),(9,.v),(10,.v),(11,.v),(12,.v),(13,.v),(14,.e)] none ?_ trivial rfl (by kernel_rfl) (by kernel_rfl) (by kernel_rfl) bX (by kernel_rfl) rfl
        repeat' (first|refine aD ?_|refine b6 a5 ?_|(apply eU;refine gk ?_)|(apply cK;refine df a5 ?_)|refine cf a5 0 rfl rfl rfl rfl (by first|trivial|rfl) ?_)
        refine kG [(m.rb,.box (c7 (fR (q.drop (k+1)) R)++junk) 67)] [(wb,.box [.iptr (eh E),ew (some ⟨m.rb,m.cap,junk⟩) (fR (q.drop (k+1)) R)] 102),ct] hdel rfl rfl K5 trivial fun c L1 ⟨hc,junk',hj',hL⟩=>?_
        subst hc;subst hL
        repeat' (first|fail)
        refine LQ [0,1,9,52,66] KZ ?_
        refine aE (aH Ik) ?_
        refine W0g ?_
        refine aC (k,junk') rfl ⟨?_,trivial⟩ ⟨by omega,hj'⟩ (by dsimp only;omega) (fun _ _ h=>h)
        show some (aI (((k+1:Nat):Int) - 1))=some (aI (k:Int))
        rw [show ((k+1:Nat):Int) - 1=(k:Int) by omega]
      · have hn0:n=0:=by have:=Ly h;omega
        subst hn0
        rw [List.drop_zero] at hj ⊢
        clear h
        refine W19 ?_
        have hdl:=(ma (q:=q) (run:=R)).length_le
        have hok:dN (some ⟨m.rb,m.cap,junk⟩) (fR q R):=⟨fun e=>(by cases e),fun m' e=>by
          cases e
          exact ⟨by dsimp only;omega,h2,hj⟩⟩
        exact cJ rfl ⟨some ⟨m.rb,m.cap,junk⟩,hok,rfl⟩
end Go.Proofs.YtpmdfoaadejmkaaGreatDoor
