/-
  An engine's match.
-/
import Derived.Test.YtpmdfoaadejmkaaGreatDoorM13
import Derived.Test.YtpmdfoaadejmkaaGreatDoorM17
import Derived.Test.YtpmdfoaadejmkaaGreatDoorM12
import Derived.Test.YtpmdfoaadejmkaaGreatDoorM05
import Derived.Test.YtpmdfoaadejmkaaGreatDoorM14
namespace Go.Proofs.YtpmdfoaadejmkaaGreatDoor
open Go.RowKit
attribute [local irreducible] AT bv AX AO Av Kt b9 dh DA cE
theorem vO (l:List Int) (z:Int):bN Tryz.prog 190 [.imm 1 (aT l),aF z] (aF (if z∈l then (l.idxOf z:Nat) else -1)):=by
 refine aL Tryz.func190 rfl Tryz.ntmps190 rfl fun B=>?_
 refine cJ 0 rfl rfl fun hlen=>?_
 have hll:=b6 l
 rw [hll] at hlen
 repeat' (first|refine IT ?_|refine am ?_|refine IF a5 G9 ?_)
 refine aO [0,1,7] (α:=Nat) (fun i=>[(8,aF i)]) (fun i=>i≤l.length∧z∉l.take i) (fun _=>[]) (fun i=>l.length - i) 0 rfl ⟨rfl,trivial⟩ ⟨Nat.zero_le _,by simp⟩ (fun _ _ h=>h) fun i hi=>?_
 try dsimp only [Jx,Jw,Jv,Jq]
 repeat' (first|refine IT ?_|refine IF a5 G9 ?_)
 refine ar rfl (fun h=>?_) (fun h=>?_)
 ·have hil:i < l.length:=by have:=Iy h;omega
  obtain ⟨y,hy⟩:∃z,l[i]?=some z:=⟨_,Iz hil⟩
  have hzg:=bR hy
  have htk:l.take (i+1)=l.take i++[y]:=by rw [List.take_add_one,hy];rfl
  clear h
  repeat' (first|refine IT ?_|refine am ?_|refine IF a5 G9 ?_|(apply aS;first|refine aQ a5 ?_|refine aG a5 ?_)|fail)
  refine ar rfl (fun h2=>?_) (fun h2=>?_)
  ·have h2':=Iy h2
   subst h2'
   repeat' (first|refine IT ?_|refine IF a5 G9 ?_)
   refine IL G9 ?_
   have hm:=Iw hy
   have:l.idxOf z=i:=by
    have e:l=l.take i++z::l.drop (i+1):=by
     conv=>lhs;rw [←List.take_append_drop i l,List.drop_eq_getElem_cons hil,(Ju hy).2]
    rw [e,List.idxOf_append,if_neg hi.2,List.idxOf_cons_self,List.length_take]
    omega
   rw [if_pos hm,this]
  ·have h2':=Ix h2
   repeat' (first|refine IT ?_|refine IF a5 G9 ?_|(apply aV;refine aU ?_)|fail)
   exact aC (i+1) rfl ⟨by rw [Iv];rfl,trivial⟩ ⟨by omega,by rw [htk];simp [hi.2];exact h2'⟩ (by omega) (fun _ _ h=>h)
 ·have hil:i=l.length:=by have:=Ix h;omega
  subst hil
  rw [List.take_length] at hi
  repeat' (first|refine IT ?_|refine IF a5 G9 ?_)
  refine IL G9 ?_
  rw [if_neg hi.2]
instance (l:List Int) (z:Int):AD Tryz.prog 190 [.imm 1 (aT l),aF z] (aF (if z∈l then (l.idxOf z:Nat) else -1)):=⟨vO l z⟩
theorem qM (l:List Int) (z:Int):bN Tryz.prog 187 [.imm 1 (aT l),aF z] (ec (l.contains z)):=by
 refine aL Tryz.func187 rfl Tryz.ntmps187 rfl fun B=>?_
 repeat' (first|refine IT ?_|refine IF a5 G9 ?_|(apply bk;refine bf ?_)|fail)
 refine IL G9 ?_
 congr 2
 by_cases h:z∈l
 ·rw [if_pos h,decide_eq_true (by omega)];simp [h]
 ·rw [if_neg h,decide_eq_false (by omega)];simp [h]
instance (l:List Int) (z:Int):AD Tryz.prog 187 [.imm 1 (aT l),aF z] (ec (l.contains z)):=⟨qM l z⟩
structure kf (e:oH):Prop where
 few:e.l.Rules.length≤6
 ends:s6 e
 fore:∀gl,fL e.cls e.fore e.foreE gl=ce (eJ (e.l.Rules.map dz) (rq e.l.Rules) gl) (e.l.Rules.map dz).length
 back:∀gl,fL e.cls e.back e.backE gl=ce (eJ (e.l.Rules.map bb.Back) (fun _=>true) gl) (e.l.Rules.map bb.Back).length
 long:fJ e.l.Rules≤1000000∧i6 e.l.Rules≤1000000
section
variable {e:oH} (h:kf e)
include h
theorem kf.lt (bg fg:List Int):fL e.cls e.back e.backE bg &&& fL e.cls e.fore e.foreE fg < 64:=by
 have h1:=Nat.and_le_right (n:=fL e.cls e.back e.backE bg) (m:=fL e.cls e.fore e.foreE fg)
 have h2:=m6 (eJ (e.l.Rules.map dz) (rq e.l.Rules) fg) (e.l.Rules.map dz).length
 rw [←h.fore fg,Jz] at h2
 have h3:2 ^ e.l.Rules.length≤2 ^ 6:=Nat.pow_le_pow_right (by omega) h.few
 have:(2:Nat) ^ 6=64:=rfl
 omega
theorem kf.first (ms:List Bool) (run:List aM) (i:Nat):sl (fL e.cls e.back e.backE (((m5 ms e.l.Ignore run i).take (i6 e.l.Rules)).map (ee run)) &&& fL e.cls e.fore e.foreE (((dZ ms e.l.Ignore run i).take (fJ e.l.Rules)).map (ee run)))=match e.l.Rules.findIdx? (eF ms e.l.Ignore run i) with
  | some n=>(n:Int)
  | none=> -1:=by
 have hlt:=h.lt (((m5 ms e.l.Ignore run i).take (i6 e.l.Rules)).map (ee run)) (((dZ ms e.l.Ignore run i).take (fJ e.l.Rules)).map (ee run))
 rw [h.fore,h.back] at hlt ⊢
 have ht:=vA (ms:=ms) (ig:=e.l.Ignore) (run:=run) (i:=i) (rs:=e.l.Rules) fun n=>xU (rs:=e.l.Rules) (n:=n)
 generalize (ce (eJ (e.l.Rules.map bb.Back) _ _) _ &&& _)=b at ht hlt ⊢
 obtain ⟨k1,k2⟩:=vR (q:=eF ms e.l.Ignore run i) (l:=e.l.Rules) ht
 unfold sl
 cases hf:e.l.Rules.findIdx? (eF ms e.l.Ignore run i) with
 | none=>rw [k2 hf];rfl
 | some n=>
  obtain ⟨k3,k4⟩:=k1 n hf
  have hn:=(List.findIdx?_eq_some_iff_getElem.1 hf).1
  have hf:=h.few
  rw [if_neg (fun e=>by rw [e,Nat.zero_testBit] at k3;cases k3)]
  exact Cz b hlt n (by omega) k3 k4
end
theorem tV:∀{ss:List (List Int)} {gl:List Int},eC ss gl=true→ss.length≤gl.length
 | [],_,_=>Nat.zero_le _
 | _::_,[],h=>by cases h
 | _::ss,_::gl,h=>by
  rw [eC,Bool.and_eq_true] at h
  have:=tV h.2
  simp;omega
theorem oq {ms:List Bool} {ig:Bool} {run:List aM} {i:Nat} {r:bb} (h:eF ms ig run i r=true):0 < r.In.length∧r.In.length≤(dZ ms ig run i).length:=by
 unfold eF at h
 rw [Bool.and_eq_true,Bool.and_eq_true] at h
 have h1:=tV h.2.1
 rw [List.length_append,Jz] at h1
 constructor
 ·have:=h.1
  cases hr:r.In with
  | nil=>rw [hr] at this;cases this
  | cons a b=>simp
 ·omega
theorem Bg {rs:List bb} {r:bb} (h:r∈rs):r.In.length≤fJ rs:=by
 have:=(mf (g:=fun r:bb=>r.In.length+r.Ahead.length) (m:=0)).2 r h
 unfold fJ
 omega
theorem Cf {ms:List Bool} {ig:Bool} {run:List aM} {i:Nat}:f8 ms ig run true (i:Int)=dZ ms ig run i:=by
 unfold f8
 rw [if_pos rfl,Int.toNat_natCast]
theorem wk {ms:List Bool} {ig:Bool} {run:List aM} {i:Nat}:f8 ms ig run false ((i:Int) - 1)=m5 ms ig run i:=by
 unfold f8
 simp only [Bool.false_eq_true,if_false]
 rw [show ((i:Int) - 1+1).toNat=i by omega]
def kI (E:oz) (l:aN) (run:List aM) (i:Nat) (forms:List Int):AV:=match dM E.ms l run i forms with
 | none=> .tup [qa,.sc (.slice none 0 0)]
 | some r=> .tup [.iptr (bB (eN r)),.imm 1 (d3 (dA E.ms l run i r))]
abbrev iU (wb:Nat) (E:oz) (q:Option fT) (run:List aM):AL:=uR wb (.iptr (dp E)) q run++[cM]
set_option maxHeartbeats 4000000 in
theorem pT (E:oz) (e:oH) (he:kf e) (wb:Nat) (q:Option fT) (run:List aM) (hq:dJ q run) (hr:run.length≤1000000) (i:Nat) (hi0:i≤1000000) (forms:List Int):AC Tryz.prog 102 [fQ wb,.iptr (fk e),aF i,.imm 1 (aT forms)] (iU wb E q run) fun c L=>c=kI E e.l run i forms∧L=iU wb E q run:=by
 refine aL Tryz.func102 rfl Tryz.ntmps102 rfl fun B=>?_
 have hfl:=b6 forms
 refine cJ 3 rfl rfl fun hlen=>?_
 by_cases hi:i < run.length
 ·obtain ⟨m,rfl⟩:=hq.lt hi
  obtain ⟨x,hx⟩:∃x,run[i]?=some x:=⟨_,Iz hi⟩
  have hse:=sX E e wb m run i x hx
  repeat' (first|refine IT ?_|refine IF a5 G9 ?_|refine IM G9 ?_|(apply bw;first|refine II a5 0 IC ?_|refine II a5 1 IC ?_|refine II a5 2 IC ?_|refine II a5 3 IC ?_|refine IJ a5 0 IC ?_|refine IJ a5 1 IC ?_|refine IJ a5 2 IC ?_|refine IK a5 1 IA (by assumption) rfl ?_|refine IK a5 0 IA (by assumption) rfl ?_|fail)|fail)
  refine c7 [0,1,2,3] (ot E.ms e.l.Ignore x=false) rfl (fun Q' K=>?_) (fun hC=>?_) (fun hC=>?_)
  ·repeat' (first|refine IT ?_|refine IF a5 G9 ?_|refine IM G9 ?_|refine IP IB ?_|refine IR IA (fun _=>?_) (fun _=>?_))
   ·refine aX (uR wb (.iptr (dp E)) (some m) run) [cM] hse rfl rfl (Jt _) rfl fun c L1 ⟨hc,hL⟩=>?_
    subst hc;subst hL
    repeat' (first|refine IT ?_|refine IF a5 G9 ?_|refine IM G9 ?_)
    exact K _ _ rfl rfl (by simp)
   ·rename_i hx2
    have:=Iy hx2
    omega
  ·have hm:dM E.ms e.l run i forms=none:=by
    unfold dM
    rw [if_neg]
    unfold jv
    rw [hx]
    dsimp only
    rw [hC]
    simp
   unfold kI
   rw [hm]
   repeat' (first|refine IT ?_|refine IF a5 G9 ?_)
   exact IS IA ⟨rfl,rfl⟩
  have hC:ot E.ms e.l.Ignore x=true:=by simpa using hC
  have h2:=o0 (j:=2) m.junk hx rfl
  repeat' (first|refine IT ?_|refine IF a5 G9 ?_)
  refine c7 [0,1,2] (forms≠[]∧forms.contains x.Form=false) rfl (fun Q' K=>?_) (fun hC2=>?_) (fun hC2=>?_)
  ·repeat' (first|refine IT ?_|refine IF a5 G9 ?_|refine IM G9 ?_|refine IP IB ?_|(apply bw;first|refine II a5 0 IC ?_|refine II a5 1 IC ?_|refine II a5 2 IC ?_|refine II a5 3 IC ?_|refine IJ a5 0 IC ?_|refine IJ a5 1 IC ?_|refine IJ a5 2 IC ?_|refine IK a5 1 IA (by assumption) rfl ?_|refine IK a5 0 IA (by assumption) rfl ?_|fail)|(apply aS;first|refine aQ a5 ?_|refine aG a5 ?_)|(apply bk;refine bf ?_)|refine IR IA (fun _=>?_) (fun _=>?_))
   all_goals exact K _ _ rfl rfl (by cases forms <;> simp_all)
  ·have hm:dM E.ms e.l run i forms=none:=by
    unfold dM
    rw [if_neg]
    unfold jv
    rw [hx]
    dsimp only
    rw [hC2.2]
    cases forms with
    | nil=>exact absurd rfl hC2.1
    | cons a b=>simp
   unfold kI
   rw [hm]
   repeat' (first|refine IT ?_|refine IF a5 G9 ?_)
   exact IS IA ⟨rfl,rfl⟩
  have hbe:jv E.ms e.l.Ignore run i forms=true:=by
   unfold jv
   rw [hx]
   dsimp only
   rw [hC]
   cases forms with
   | nil=>rfl
   | cons a b=>cases hcc:(a::b).contains x.Form with
    | true=>rfl
    | false=>exact absurd ⟨by simp,hcc⟩ hC2
  have hmv:dM E.ms e.l run i forms=e.l.Rules.find? (eF E.ms e.l.Ignore run i):=by
   unfold dM
   rw [if_pos hbe]
  have s1:=xm E e wb (some m) run hq hr true i ⟨by omega,fun _=>by omega,fun h=>by cases h⟩ (by omega) (fJ e.l.Rules)
  have s2:=xm E e wb (some m) run hq hr false ((i:Int) - 1) ⟨by omega,fun h=>(by cases h),fun _=>by omega⟩ (by omega) (i6 e.l.Rules)
  rw [Cf] at s1
  rw [wk] at s2
  have hfirst:=he.first E.ms run i
  repeat' (first|refine IT ?_|refine IF a5 G9 ?_)
  refine aX (uR wb (.iptr (dp E)) (some m) run) [cM] s1 rfl rfl (Jt _) rfl fun c L1 ⟨hc,hL⟩=>?_
  subst hc;subst hL
  repeat' (first|refine IT ?_|refine IF a5 G9 ?_|(apply aV;refine aU ?_)|fail)
  refine aX (uR wb (.iptr (dp E)) (some m) run) [cM] s2 rfl rfl (Jt _) rfl fun c L1 ⟨hc,hL⟩=>?_
  subst hc;subst hL
  repeat' (first|refine IT ?_|refine IF a5 G9 ?_)
  refine aX [cM] (uR wb (.iptr (dp E)) (some m) run) (xC e he.ends _ _ (he.lt _ _)) rfl rfl List.perm_append_comm rfl fun c L1 ⟨hc,hL⟩=>?_
  subst hc;subst hL
  refine aJ (aI (L':=iU wb E (some m) run) List.perm_append_comm) ?_
  rw [hfirst]
  unfold kI
  rw [hmv,AM]
  cases hfi:e.l.Rules.findIdx? (eF E.ms e.l.Ignore run i) with
  | none=>
   dsimp only [Option.bind_none]
   repeat' (first|refine IT ?_|refine IF a5 G9 ?_|refine bQ rfl ?_)
   exact IS IA ⟨rfl,rfl⟩
  | some n=>
   obtain ⟨hn,hn1,hn2⟩:=List.findIdx?_eq_some_iff_getElem.1 hfi
   obtain ⟨r,hrr⟩:∃r,e.l.Rules[n]?=some r:=⟨_,Iz hn⟩
   rw [(Ju hrr).2] at hn1
   obtain ⟨hin0,hin⟩:=oq hn1
   have hfm:=Bg (Iw hrr)
   have hrg:((iT e.l).Rules.map bB)[n]?=some (bB (eN r)):=by simp [iT,hrr]
   have hpl:((dZ E.ms e.l.Ignore run i).take (fJ e.l.Rules)).take r.In.length=dA E.ms e.l run i r:=by
    unfold dA
    rw [List.take_take,Nat.min_eq_left hfm]
   have hnl:=lb ((dZ E.ms e.l.Ignore run i).take (fJ e.l.Rules))
   rw [List.length_take] at hnl
   have hril:=cn r.In
   dsimp only [Option.bind_some]
   rw [hrr]
   dsimp only
   repeat' (first|refine IT ?_|refine IF a5 G9 ?_|(apply aS;first|refine aQ a5 ?_|refine aG a5 ?_)|refine bK rfl ?_)
   refine bA 6 [(0,.v),(1,.v),(2,.v),(3,.v),(4,.v),(5,.v)] none ?_ trivial rfl (by kernel_rfl) (by kernel_rfl) (by kernel_rfl) bU (by kernel_rfl) rfl
   repeat' (first|refine aD ?_|refine b8 a5 ?_|fail)
   refine Db a5 r.In.length rfl rfl rfl rfl rfl rfl (by rw [show (eN r).In=r.In from rfl,hril]) (by rw [show (eN r).In=r.In from rfl,hril]) (by omega) trivial ?_
   rw [show (d3 ((dZ E.ms e.l.Ignore run i).take (fJ e.l.Rules))).take r.In.length=d3 (dA E.ms e.l run i r) by rw [←hpl];unfold d3 aT;rw [←List.map_take,←List.map_take]]
   repeat' (first|refine aD ?_|refine b8 a5 ?_|fail)
   refine IQ [8,99] G9 ?_
   repeat' (first|refine IT ?_|refine a7 ?_|refine IF a5 G9 ?_)
   exact IS IA ⟨rfl,rfl⟩
 ·have hm:dM E.ms e.l run i forms=none:=by
   unfold dM
   rw [if_neg]
   unfold jv
   rw [List.getElem?_eq_none (by omega)]
   exact fun h=>by cases h
  unfold kI
  rw [hm]
  repeat' (first|refine IT ?_|refine IF a5 G9 ?_|refine IM G9 ?_|(apply bw;first|refine II a5 0 IC ?_|refine II a5 1 IC ?_|refine II a5 2 IC ?_|refine II a5 3 IC ?_|refine IJ a5 0 IC ?_|refine IJ a5 1 IC ?_|refine IJ a5 2 IC ?_|refine IK a5 1 IA (by assumption) rfl ?_|refine IK a5 0 IA (by assumption) rfl ?_|fail)|fail)
  refine c7 [0,1,2,3] True rfl (fun Q' K=>?_) (fun hC=>?_) (fun hC=>absurd trivial hC)
  ·repeat' (first|fail)
   refine lM a5 rfl hq rfl rfl ?_
   repeat' (first|refine IT ?_|refine IF a5 G9 ?_|refine IM G9 ?_|refine IP IB ?_|refine IR IA (fun _=>?_) (fun _=>?_))
   ·rename_i h
    have:=Ix h
    omega
   ·exact K _ _ rfl rfl (by simp)
  ·repeat' (first|refine IT ?_|refine IF a5 G9 ?_)
   exact IS IA ⟨rfl,rfl⟩
end Go.Proofs.YtpmdfoaadejmkaaGreatDoor
namespace Go.Proofs.YtpmdfoaadejmkaaGreatDoor
open Go.RowKit
section
variable {P:Program} {tt:TT} {l:List Oper} {fr:bW} {fin:jo} {sk:lU} {acc:bW} {L:AL} {k:Nat} {dd:Option Tmp} {ty t:TypeId} {pos:String} {af:Array Edge} {g:Option (Nat×Bool)}
theorem Au (ok:dX P tt) {zs:List Value} (hz:zI tt t=some zs) (h1:zs.all (·.oneCell')=true) (hg:iD ⟨dd,.alloc t,ty,pos,af,g⟩ acc) (h:∀b,DA P l fr fin sk ((k,.sc (.pointer (some ⟨b,0,none⟩)))::acc) ((b,.box (zs.map .sc) t)::L)):
  cE P l fr fin k .a ⟨dd,.alloc t,ty,pos,af,g⟩ sk acc L:=
 Fy (fun c L' ⟨b,_,h2⟩=>⟨[(b,_)],h2⟩) hg (fun _=>lZ (ez ok hz) h1) fun c L' ⟨b,h1,h2⟩=>by subst h1;subst h2;exact h b
end
end Go.Proofs.YtpmdfoaadejmkaaGreatDoor
namespace Go.Proofs.YtpmdfoaadejmkaaGreatDoor
open Go.RowKit
attribute [local irreducible] AT bv AX AO Av Kt b9 dh DA cE
theorem kz {run:List aM} {i j:Nat} {x:aM} (y:aM) (v:AV) (junk:List AV) (h:run[i]?=some x) (hj:j < 6) (hy:bz y=(bz x).set j v):f4 (bY run++junk) (0+((i:Nat):Int).toNat * 6+j) [v]=bY (run.set i y)++junk:=by
 rw [iy,Int.toNat_natCast,Nat.zero_add]
 have hi:=(Ju h).1
 have hl:=dc run
 rw [List.set_append,if_pos (by omega)]
 congr 1
 unfold bY
 have hm:(run.map bz)[i]?=some (bz x):=by simp [h]
 rw [tX (sz:=6) (run.map bz) i j (bz x) v (fun e he=>by obtain ⟨z,_,rfl⟩:=List.mem_map.1 he;rfl) hm hj,←hy,List.map_set]
theorem nq (run:List aM) (junk:List AV) {k:Nat} (h:k≤run.length):(bY run++junk).take (k * 6)=bY (run.take k):=by
 have e:bY run=bY (run.take k)++bY (run.drop k):=by rw [←hY,List.take_append_drop]
 have hl:=dc (run.take k)
 rw [List.length_take,Nat.min_eq_left h] at hl
 rw [e,List.append_assoc,←hl,List.take_left]
theorem ro (run:List aM) (junk:List AV) {k:Nat} (h:k≤run.length):((bY run++junk).drop (k * 6)).take ((run.length - k) * 6)=bY (run.drop k):=by
 have e:bY run=bY (run.take k)++bY (run.drop k):=by rw [←hY,List.take_append_drop]
 have hl:=dc (run.take k)
 rw [List.length_take,Nat.min_eq_left h] at hl
 have hl2:=dc (run.drop k)
 rw [List.length_drop] at hl2
 rw [e,List.append_assoc,←hl,List.drop_left,←hl2,List.take_left]
theorem yi (run:List aM) (junk:List AV) {i:Nat} {x:aM} (h:run[i]?=some x):((bY run++junk).drop (i * 6)).take 6=bz x:=by
 have hi:=(Ju h).1
 have e:bY run=bY (run.take i)++(bz x++bY (run.drop (i+1))):=by
  rw [←lH,←hY]
  congr 1
  rw [←(Ju h).2,List.getElem_cons_drop,List.take_append_drop]
 have hl:=dc (run.take i)
 rw [List.length_take,Nat.min_eq_left (by omega)] at hl
 rw [e,List.append_assoc,←hl,List.drop_left,List.append_assoc]
 exact List.take_left (l₁:=bz x)
theorem Ba (b k n:Nat) (cs:List AV) (hk:k * 6≤cs.length) (hk1:k≤1000000) (hn1:n≤2000000):AC Tryz.prog 259 [.sc (.slice (some ⟨b,0,none⟩) k k),aF n] [(b,.box cs 67)] fun c L=>
  (n=0∧c= .sc (.slice (some ⟨b,0,none⟩) k k)∧L=[(b,.box cs 67)])∨
  (0 < n∧∃b' cs' cap',c= .sc (.slice (some ⟨b',0,none⟩) k cap')∧cap' * 6≤cs'.length∧cs'.take (k * 6)=cs.take (k * 6)∧k+n≤cap'∧cap'≤maxLen∧L=[(b',.box cs' 67),(b,.box cs 67)]):=by
 refine aL Tryz.func259 rfl Tryz.ntmps259 rfl fun B=>?_
 repeat' (first|refine IT ?_|refine IF a5 G9 ?_|refine bK rfl ?_)
 refine sG a5 rfl rfl rfl ?_
 repeat' (first|refine IT ?_|refine IF a5 G9 ?_|(apply aV;refine aU ?_)|fail)
 refine ar rfl (fun h=>?_) fun h=>?_
 ·have hn0:0 < n:=by have:=Iy h;omega
  repeat' (first|refine IT ?_|refine IF a5 G9 ?_)
  refine sG a5 rfl rfl rfl ?_
  repeat' (first|fail)
  refine x9 a5 k rfl rfl rfl rfl (Nat.le_refl _) rfl ?_
  repeat' (first|refine IF a5 G9 ?_)
  refine w1 a5 0 n rfl rfl rfl Tryz.underlying3 rfl rfl (by omega) hn0 rfl hk (Nat.le_refl _) (by omega) (by unfold maxLen;omega) (by omega) rfl fun b' cs' cap' h1 h2 h3 h4=>?_
  repeat' (first|refine IF a5 G9 ?_)
  refine x9 a5 k rfl rfl rfl rfl (by omega) rfl ?_
  repeat' (first|refine IT ?_|refine IF a5 G9 ?_)
  exact IL G9 (.inr ⟨hn0,b',cs',cap',rfl,h1,h2,h3,h4,rfl⟩)
 ·have hn0:n=0:=by have:=Ix h;omega
  repeat' (first|refine IT ?_|refine IF a5 G9 ?_)
  exact IL G9 (.inl ⟨hn0,rfl,rfl⟩)
theorem rT {fr:bW} {B:Bs} {L:AL} {y:Operand} {sz c:Nat} {A:Option Addr} (hy:bc fr y=some (.sc (.slice A 0 c))):uY fr B L y sz 0 []:=fun σ ρ w hρ _=>⟨A,c,[],(hρ y _ hy).sc_inv,d7.nil,by simp,by simp,fun h=>by omega⟩
theorem vC {run:List aM} (junk:List AV) {i:Nat} {x:aM} (h:run[i]?=some x):((bY run++junk).drop (0+((i:Nat):Int).toNat * 6)).take 6=bz x:=by
 rw [Int.toNat_natCast,Nat.zero_add]
 exact yi run junk h
def wd (x:aM) (l:List Int):List aM:=l.map fun g=>{ x with Glyph:=g }
theorem C0 (x:aM) (l:List Int):(wd x l).length=l.length:=by simp [wd]
theorem FX {a b:Nat×AB} {X:AL}:(a::b::X).Perm (b::a::X):=List.Perm.swap ..
theorem HJ {a b c d:Nat×AB}:[a,b,c,d].Perm [c,b,d,a]:=(List.Perm.cons a (List.Perm.swap c b _)).trans ((List.Perm.swap c a _).trans ((((List.Perm.swap b a _).trans ((List.Perm.swap d a _).cons b))).cons c))
theorem HK {a b c d:Nat×AB} {X:AL}:((a::X)++[b,c,d]).Perm (b::a::c::d::X):=(List.perm_append_comm (l₁:=a::X) (l₂:=[b,c,d])).trans (((List.Perm.swap a d _).cons c |>.trans (List.Perm.swap a c _)).cons b)
set_option maxHeartbeats 4000000 in
theorem BF (E:oz) (wb:Nat) (m:fT) (run:List aM) (hq:dJ (some m) run) (hr:run.length≤1000000) (i:Nat) (x:aM) (hx:run[i]?=some x) (r:bb) (ho:r.Out.length≤1000000):AC Tryz.prog 191 [fQ wb,aF i,.imm 1 (aT r.Out)] (iU wb E (some m) run) fun _ L=>∃q',dJ q' (iu r i run)∧L=iU wb E q' (iu r i run):=by
 refine aL Tryz.func191 rfl Tryz.ntmps191 rfl fun B=>?_
 have hil:=(Ju hx).1
 have hol:=b6 r.Out
 obtain ⟨h1,h2,h3⟩:=hq.fit m rfl
 have hfl:=dc run
 have hmv:iu r i run=if run.length - 1+r.Out.length > 500∧1 < r.Out.length then run else run.take i++wd x r.Out++run.drop (i+1):=by
  unfold iu
  rw [hx]
  rfl
 have hit:=vC m.junk hx
 unfold maxLen at h2
 repeat' (first|refine IT ?_|refine IF a5 G9 ?_|(apply bw;first|refine II a5 0 IC ?_|refine II a5 1 IC ?_|refine II a5 2 IC ?_|refine II a5 3 IC ?_|refine IJ a5 0 IC ?_|refine IJ a5 1 IC ?_|refine IJ a5 2 IC ?_|refine IK a5 1 IA (by assumption) rfl ?_|refine IK a5 0 IA (by assumption) rfl ?_|fail)|(apply aV;refine aU ?_)|fail)
 refine c7 [0,1,2] (run.length - 1+r.Out.length > 500∧1 < r.Out.length) rfl (fun Q' K=>?_) (fun hC=>?_) (fun hC=>?_)
 ·repeat' (first|refine IT ?_|refine IF a5 G9 ?_|refine IM G9 ?_|refine IP IB ?_|refine IR IA (fun _=>?_) (fun _=>?_))
  all_goals exact K _ _ rfl rfl (by simp_all <;> omega)
 ·rw [if_pos hC] at hmv
  repeat' (first|refine IT ?_|fail)
  exact oM rfl ⟨some m,by rw [hmv];exact hq,by rw [hmv]⟩
 rw [if_neg hC] at hmv
 repeat' (first|refine IT ?_|fail)
 refine d8 [.cell (wb,1,ey (some m) run)] 17 [(0,.v),(1,.v),(2,.v),(3,.l),(4,.v),(5,.v),(6,.l),(7,.v),(8,.v),(9,.v),(10,.k),(11,.v),(12,.v),(13,.v),(14,.a),(15,.f),(16,.v)] none ?_ trivial rfl (by kernel_rfl) (by kernel_rfl) (by kernel_rfl) bU (by kernel_rfl) rfl
 repeat' (first|refine aD ?_|refine b8 a5 ?_|refine bZ a5 0 rfl rfl rfl rfl (by first|trivial|rfl) ?_)
 refine d9 a5 rfl rfl rfl ⟨by omega,by omega⟩ trivial ?_
 repeat' (first|refine aD ?_|fail)
 refine oO a5 1 rfl rfl rfl (Nat.ble_eq_true_of_le (by rw [Int.toNat_natCast];simp;omega)) trivial ?_
 rw [hit]
 repeat' (first|refine aD ?_|refine b8 a5 ?_|fail)
 refine dx a5 0 rfl rfl rfl (mr 0 rfl rfl) trivial ?_
 repeat' (first|refine aD ?_|refine b8 a5 ?_|(apply ek;refine fH ?_)|fail)
 refine wP a5 (i+1) rfl rfl rfl (by omega) (by omega) h1 trivial ?_
 repeat' (first|refine aD ?_|fail)
 refine Au a5 rfl rfl trivial fun ib=>?_
 repeat' (first|refine aD ?_|fail)
 refine Ay a5 0 rfl rfl rfl rfl rfl rfl rfl (mr 1 rfl rfl) trivial fun _=>?_
 repeat' (first|refine aD ?_|refine b8 a5 ?_|fail)
 refine IQ [0,1,2,7,8] G9 ?_
 repeat' (first|refine IT ?_|refine a7 ?_|refine IF a5 G9 ?_|(apply bw;first|refine II a5 0 IC ?_|refine II a5 1 IC ?_|refine II a5 2 IC ?_|refine II a5 3 IC ?_|refine IJ a5 0 IC ?_|refine IJ a5 1 IC ?_|refine IJ a5 2 IC ?_|refine IK a5 1 IA (by assumption) rfl ?_|refine IK a5 0 IA (by assumption) rfl ?_|fail)|fail)
 refine FP a5 i rfl rfl rfl rfl rfl rfl (by omega) rfl ?_
 repeat' (first|refine IF a5 G9 ?_|(apply aV;refine aU ?_)|fail)
 have hfll:(bY run++m.junk).length=run.length * 6+m.junk.length:=by rw [List.length_append,hfl]
 have hti:=nq run m.junk (Nat.le_of_lt hil)
 have hgr:=Ba m.rb i (r.Out.length+(run.length - (i+1))) (bY run++m.junk) (by omega) (by omega) (by omega)
 refine aJ (aI (L':=(m.rb,.box (bY run++m.junk) 67)::[(wb,.box [.iptr (dp E),ey (some m) run] 102),cM,(ib,.box (bz x) 67)]) ?_) ?_
 ·exact HJ
 refine aX [(m.rb,.box (bY run++m.junk) 67)] [(wb,.box [.iptr (dp E),ey (some m) run] 102),cM,(ib,.box (bz x) 67)] hgr rfl (by rw [hol];rfl) (Jt _) rfl fun c L1 hp=>?_
 obtain ⟨db,dcs,dcap,X,hc,hL,hd1,hd2,hd3,nw,hX⟩:∃db dcs dcap X,c= .sc (.slice (some ⟨db,0,none⟩) i dcap)∧L1=(db,.box dcs 67)::X∧dcap * 6≤dcs.length∧dcs.take (i * 6)=bY (run.take i)∧i+(r.Out.length+(run.length - (i+1)))≤dcap∧dcap≤maxLen∧(r.Out.length+(run.length - (i+1))=0∨X=[(m.rb,.box (bY run++m.junk) 67)]):=by
  rcases hp with ⟨h0,hc,hL⟩ | ⟨h0,b',cs',cap',hc,h4,h5,h6,h7,hL⟩
  ·exact ⟨m.rb,_,i,[],hc,hL,by omega,hti,by omega,by unfold maxLen;omega,.inl h0⟩
  ·exact ⟨b',cs',cap',_,hc,hL,h4,by rw [h5,hti],h6,h7,.inr rfl⟩
 subst hc;subst hL
 unfold maxLen at nw
 refine aJ (aI (L':=(wb,.box [.iptr (dp E),ey (some m) run] 102)::(db,.box dcs 67)::cM::(ib,.box (bz x) 67)::X) ?_) ?_
 ·exact HK
 repeat' (first|refine IT ?_|refine am ?_|refine IF a5 G9 ?_)
 refine aO [0,7,8,59,60] (α:=Nat×Int×List AV) (fun s=>[(61,aF s.1),(9,.sc (.slice (some ⟨db,0,none⟩) (i+s.1:Nat) dcap))]) (fun s=>s.1≤r.Out.length∧dcap * 6≤s.2.2.length∧s.2.2.take ((i+s.1) * 6)=bY (run.take i++wd x (r.Out.take s.1))) (fun s=>(wb,.box [.iptr (dp E),ey (some m) run] 102)::(db,.box s.2.2 67)::cM::(ib,.box (bz { x with Glyph:=s.2.1 }) 67)::X) (fun s=>r.Out.length - s.1) (0,x.Glyph,dcs) rfl ⟨rfl,rfl,trivial⟩ ⟨Nat.zero_le _,hd1,by simpa [wd] using hd2⟩ (fun _ _ h=>h) ?_
 rintro ⟨k,g,cs⟩ ⟨hk,hcl,hct⟩
 dsimp only at hk hcl hct ⊢
 try dsimp only [Jx,Jw,Jv,Jq]
 repeat' (first|refine IT ?_|refine IF a5 G9 ?_)
 refine ar rfl (fun h=>?_) (fun h=>?_)
 ·have hk2:k < r.Out.length:=by have:=Iy h;omega
  obtain ⟨y,hy⟩:∃z,r.Out[k]?=some z:=⟨_,Iz hk2⟩
  have hyg:=bR hy
  clear h
  repeat' (first|refine IT ?_|refine am ?_|refine IF a5 G9 ?_|(apply aS;first|refine aQ a5 ?_|refine aG a5 ?_)|(apply aK;first|refine IG a5 0 ID ?_|refine IG a5 1 ID ?_|refine IG a5 2 ID ?_|refine IG a5 3 ID ?_|fail))
  refine IJ a5 3 IC ?_
  repeat' (first|refine bH a5 ?_|fail)
  refine la a5 1 rfl rfl rfl rfl (uF rfl rfl) rfl hcl (by omega) (by unfold maxLen;omega) (by simp;unfold maxLen;omega) (by simp;omega) rfl fun b' cs' cap' e1 e2 e3 e4 e5=>?_
  obtain ⟨e6,e7,e8⟩:=e5 (by simp;omega)
  subst e6;subst e7
  refine aJ (aI FX) ?_
  repeat' (first|refine IT ?_|refine IF a5 G9 ?_|(apply aV;refine aU ?_)|fail)
  refine aC (k+1,y,cs') rfl ⟨by rw [Iv];rfl,rfl,trivial⟩ ⟨hk2,e1,?_⟩ (by dsimp only;omega) (fun _ _ h=>h)
  rw [←Nat.add_assoc]
  refine e2.trans ?_
  rw [hct,show r.Out.take (k+1)=r.Out.take k++[y] by rw [List.take_add_one,hy];rfl]
  unfold wd
  rw [List.map_append,←List.append_assoc]
  refine Eq.trans ?_ (hY _ _).symm
  rfl
 ·have hke:k=r.Out.length:=by have:=Ix h;omega
  subst hke
  rw [List.take_length] at hct
  have hsrc:∀fr y B,bc fr y=some (.sc (.slice (some ⟨m.rb,if m.cap=i+1 then 0 else (i+1) * 6,none⟩) (run.length - (i+1)) (m.cap - (i+1))))→uY fr B ((wb,.box [.iptr (dp E),ey (some m) run] 102)::(db,.box cs 67)::cM::(ib,.box (bz { x with Glyph:=g }) 67)::X) y 6 (run.length - (i+1)) (bY (run.drop (i+1))):=by
   intro fr y B hy
   by_cases hz:run.length - (i+1)=0
   ·rw [hz] at hy ⊢
    rw [List.drop_eq_nil_of_le (by omega)]
    exact rT hy
   ·rcases hX with hX | hX
    ·omega
    ·subst hX
     have hs:=uG (B:=B) (sz:=6) (L:=(wb,.box [.iptr (dp E),ey (some m) run] 102)::(db,.box cs 67)::cM::(ib,.box (bz { x with Glyph:=g }) 67)::[(m.rb,.box (bY run++m.junk) 67)]) 4 hy rfl (by split <;> omega)
     rw [if_neg (by omega),ro run m.junk hil] at hs
     exact hs
  repeat' (first|refine IT ?_|refine IF a5 G9 ?_)
  refine la a5 1 rfl rfl rfl rfl (hsrc _ _ _ rfl) rfl hcl (by omega) (by unfold maxLen;omega) (by unfold maxLen;omega) (by omega) rfl fun b' cs' cap' e1 e2 e3 e4 e5=>?_
  obtain ⟨e6,e7,e8⟩:=e5 (by omega)
  subst e6;subst e7
  refine aJ (aI FX) ?_
  repeat' (first|refine IT ?_|refine IF a5 G9 ?_|(apply aK;first|refine IG a5 0 ID ?_|refine IG a5 1 ID ?_|refine IG a5 2 ID ?_|refine IG a5 3 ID ?_|fail))
  have hrun:iu r i run=run.take i++wd x r.Out++run.drop (i+1):=hmv
  have hlen:(iu r i run).length=i+r.Out.length+(run.length - (i+1)):=by
   rw [hrun,List.length_append,List.length_append,List.length_take,List.length_drop,C0]
   omega
  have hfl2:=dc (iu r i run)
  have hcs:cs'=bY (iu r i run)++cs'.drop ((i+r.Out.length+(run.length - (i+1))) * 6):=by
   conv=>lhs;rw [←List.take_append_drop ((i+r.Out.length+(run.length - (i+1))) * 6) cs',e2,hct]
   rw [hrun,hY _ (run.drop (i+1))]
  refine eP (L':=[(wb,.box [.iptr (dp E),.sc (.slice (some ⟨b',0,none⟩) (i+r.Out.length+(run.length - (i+1)):Nat) cap')] 102),(b',.box cs' 67),cM]) (.cons_cons _ (.cons_cons _ (.cons_cons _ (List.nil_sublist _)))) ?_
  refine cA rfl ⟨some ⟨b',cap',cs'.drop ((i+r.Out.length+(run.length - (i+1))) * 6)⟩,⟨fun h=>(by cases h),fun m' hm'=>?_⟩,?_⟩
  ·cases hm'
   refine ⟨by rw [hlen];dsimp only;omega,by dsimp only;unfold maxLen;omega,?_⟩
   dsimp only
   rw [←hcs]
   exact e1
  ·unfold ey nI
   dsimp only
   rw [hlen,←hcs]
   rfl
theorem vB {run:List aM} {i:Nat} (hi:i < run.length):bY (run.eraseIdx i)=bY (run.take i)++bY (run.drop (i+1)):=by
 rw [List.eraseIdx_eq_take_drop_succ,hY]
set_option maxHeartbeats 2000000 in
theorem yc (b cap:Nat) (run:List aM) (junk:List AV) (i:Nat) (hi:i < run.length) (hc:run.length≤cap) (hm:cap≤maxLen) (hf:cap * 6≤(bY run++junk).length) (hr:run.length≤1000000):AC Tryz.prog 260 [.sc (.slice (some ⟨b,0,none⟩) run.length cap),aF i,aF ((i:Int)+1)] [(b,.box (bY run++junk) 67)] fun c L=>
  c= .sc (.slice (some ⟨b,0,none⟩) (run.eraseIdx i).length cap)∧∃junk',cap * 6≤(bY (run.eraseIdx i)++junk').length∧L=[(b,.box (bY (run.eraseIdx i)++junk') 67)]:=by
 refine aL Tryz.func260 rfl Tryz.ntmps260 rfl fun B=>?_
 have hfl:=dc run
 have hel:=List.length_eraseIdx_of_lt hi
 unfold maxLen at hm
 have hsrc:∀fr y B,bc fr y=some (.sc (.slice (some ⟨b,if cap=i+1 then 0 else (i+1) * 6,none⟩) (run.length - (i+1)) (cap - (i+1))))→uY fr B [(b,.box (bY run++junk) 67)] y 6 (run.length - (i+1)) (bY (run.drop (i+1))):=by
  intro fr y B hy
  by_cases hz:run.length - (i+1)=0
  ·rw [hz] at hy ⊢
   rw [List.drop_eq_nil_of_le (by omega)]
   exact rT hy
  ·have hs:=uG (B:=B) (sz:=6) (L:=[(b,.box (bY run++junk) 67)]) 0 hy rfl (by split <;> omega)
   rw [if_neg (by omega),ro run junk hi] at hs
   exact hs
 repeat' (first|refine IT ?_|refine IF a5 G9 ?_)
 refine FO a5 i (i+1) run.length rfl rfl rfl rfl rfl (by omega) rfl rfl (by omega) hi hc rfl ?_
 repeat' (first|refine IT ?_|refine IF a5 G9 ?_)
 refine ar rfl (fun h=>?_) (fun _=>?_)
 ·have:=Iy h
  omega
 repeat' (first|refine IT ?_|refine IF a5 G9 ?_)
 refine bA 6 [(0,.v),(1,.v),(2,.v),(3,.v),(4,.v),(5,.v)] none ?_ trivial rfl (by kernel_rfl) (by kernel_rfl) (by kernel_rfl) bU (by kernel_rfl) rfl
 repeat' (first|refine aD ?_|refine b8 a5 ?_|fail)
 refine Da a5 i rfl rfl rfl rfl (by omega) trivial ?_
 repeat' (first|refine aD ?_|refine b8 a5 ?_|fail)
 refine wP a5 (i+1) rfl rfl rfl (by omega) hi hc trivial ?_
 repeat' (first|fail)
 refine IQ [7,22,25] G9 ?_
 repeat' (first|fail)
 refine la a5 0 rfl rfl rfl rfl (hsrc _ _ _ rfl) rfl hf (by omega) (by unfold maxLen;omega) (by unfold maxLen;omega) (by omega) rfl fun b' cs' cap' e1 e2 e3 e4 e5=>?_
 obtain ⟨e6,e7,e8⟩:=e5 (by omega)
 subst e6;subst e7
 repeat' (first|refine IT ?_|refine IF a5 G9 ?_)
 have hn1:i+(run.length - (i+1))=(run.eraseIdx i).length:=by omega
 rw [hn1] at e2 ⊢
 refine FN a5 (run.eraseIdx i).length run.length rfl rfl rfl rfl rfl rfl (by omega) hc rfl ?_
 repeat' (first|fail)
 have hcl:cap' * 6≤cs'.length:=e1
 have hce:cs'.take ((run.eraseIdx i).length * 6)=bY (run.eraseIdx i):=by
  rw [e2,nq run junk (by omega),vB hi]
 refine BI a5 0 (m:=(run.eraseIdx i).length) rfl rfl rfl rfl (.inl rfl) rfl ?_ fun cs2 g1 g2=>?_
 ·have h1:(run.eraseIdx i).length * 6+(run.length - (run.eraseIdx i).length) * 6=run.length * 6:=by omega
  rw [h1]
  omega
 repeat' (first|refine IT ?_|refine IF a5 G9 ?_)
 refine IL G9 ⟨rfl,cs2.drop ((run.eraseIdx i).length * 6),?_⟩
 have hj:bY (run.eraseIdx i)++cs2.drop ((run.eraseIdx i).length * 6)=cs2:=by
  rw [←hce,←g2,List.take_append_drop]
 rw [hj]
 exact ⟨by omega,rfl⟩
section
variable {ms:List Bool} {ls:List aN} {l:aN} {run:List aM} {forms:List Int}
theorem rF (h0:forms≠[]) (h:∀x∈run,forms.contains x.Form=false) (i:Nat):dM ms l run i forms=none:=by
 unfold dM
 rw [if_neg]
 unfold jv
 cases hi:run[i]? with
 | none=>exact fun e=>by cases e
 | some x=>
  dsimp only
  rw [h x (Iw hi)]
  cases forms with
  | nil=>exact absurd rfl h0
  | cons a b=>simp
theorem BR (h:∀i,dM ms l run i forms=none):∀k i,un ms ls l forms k i run=run
 | 0,_=>rfl
 | k+1,i=>by
  rw [un,h i]
  dsimp only
  rw [BR h k]
  split <;> rfl
theorem tP (h:∀i,dM ms l run i forms=none):∀k,ia ms ls l forms k run=run
 | 0=>rfl
 | k+1=>by rw [ia,h k];exact tP h k
theorem xN (h0:forms≠[]) (h:∀x∈run,forms.contains x.Form=false) (n:Int):da ms ls n run forms=run:=by
 unfold da
 split
 ·rfl
 ·split
  ·rfl
  ·split
   ·rfl
   ·split
    ·exact tP (rF h0 h) _
    ·exact BR (rF h0 h) _ _
theorem pb {n:Int} (h:n < 0∨(ls.length:Int)≤n):da ms ls n run forms=run:=by
 unfold da
 by_cases h1:n < 0
 ·rw [if_pos h1]
 ·rw [if_neg h1,List.getElem?_eq_none (by omega)]
end
structure Ic (run:List aM):Prop where
 len:run.length≤500
 mono:run.Pairwise fun a b=>a.Cluster≤b.Cluster
theorem kY:∀{q:List Nat} {run:List aM},(fj q run).Sublist run
 | [],_=>List.Sublist.refl _
 | p::q,run=>by rw [fj];exact (List.eraseIdx_sublist ..).trans kY
end Go.Proofs.YtpmdfoaadejmkaaGreatDoor
namespace Go.Proofs.YtpmdfoaadejmkaaGreatDoor
open Go.RowKit
attribute [local irreducible] AT bv AX AO Av Kt b9 dh DA cE
theorem tQ {R:List aM}:∀{l:List Nat} {j:Nat},l.Pairwise (· < ·)→(∀z∈l,j < z∧z < R.length)→j < R.length→j < (fj l R).length
  | [],_,_,_,hj=>hj
  | z::l,j,hs,hl,hj=>by
    obtain ⟨h1,h2⟩:=List.pairwise_cons.1 hs
    have hz:=hl z (by simp)
    have:=tQ (j:=z) h2 (fun y hy=>⟨h1 y hy,(hl y (by simp [hy])).2⟩) hz.2
    rw [fj,List.length_eraseIdx_of_lt this]
    omega
theorem rB:∀{l:List Nat} {run:List aM} {c:Int},gM run l c≤c
 | [],_,_=>Int.le_refl _
 | p::l,run,c=>by
  have:=rB (l:=l) (run:=run) (c:=nz run c p)
  have h2:nz run c p≤c:=by unfold nz;split <;> omega
  unfold gM at this ⊢
  rw [List.foldl_cons]
  omega
theorem oV {wb:Nat} {E:oz} {m:fT} {run:List aM} {p:Nat} {y:aM}:fa (iU wb E (some m) run) 1 (.box (bY (run.set p y)++m.junk) 67)=iU wb E (some m) (run.set p y):=by
 show [(wb,AB.box [.iptr (dp E),.sc (.slice (some ⟨m.rb,0,none⟩) run.length m.cap)] 102),(m.rb,.box (bY (run.set p y)++m.junk) 67),cM]=[(wb,AB.box [.iptr (dp E),.sc (.slice (some ⟨m.rb,0,none⟩) (run.set p y).length m.cap)] 102),(m.rb,.box (bY (run.set p y)++m.junk) 67),cM]
 rw [List.length_set]
theorem wJ {B:Bs} {σ:ci} {w:World} {wb:Nat} {E:oz} {m:fT} {run:List aM} {p:Nat} {y:aM} (h:cX B σ (fa (iU wb E (some m) run) 1 (.box (bY (run.set p y)++m.junk) 67)) w):cX B σ (iU wb E (some m) (run.set p y)) w:=oV▸h
theorem dJ.set {m:fT} {run:List aM} (h:dJ (some m) run) (p:Nat) (y:aM):dJ (some m) (run.set p y):=⟨fun e=>(by cases e),fun m' e=>by
 cases e
 obtain ⟨h1,h2,h3⟩:=h.fit m rfl
 rw [List.length_append,dc] at h3 ⊢
 rw [List.length_set]
 exact ⟨h1,h2,h3⟩⟩
theorem HG {a b c:Nat×AB}:[a,b,c].Perm ([b]++[a,c]):=List.Perm.swap ..
set_option maxHeartbeats 4000000 in
theorem DI (E:oz) (wb:Nat) (m:fT) (run:List aM) (hq:dJ (some m) run) (hr:run.length≤1000000) (p:Nat) (q:List Nat) (hp:∀j∈p::q,j < run.length) (hs:(p::q).Pairwise (· < ·)) (x:aM) (hx:run[p]?=some x) (r:bb) (g:Int) (gs:List Int) (hg:r.Out=g::gs):AC Tryz.prog 192 [fQ wb,.imm 1 (d3 (p::q)),aF g] (iU wb E (some m) run) fun _ L=>∃q',dJ q' (mw r (p::q) run)∧L=iU wb E q' (mw r (p::q) run):=by
  refine aL Tryz.func192 rfl Tryz.ntmps192 rfl fun B=>?_
  refine cJ 1 rfl rfl fun hlen=>?_
  have hil:=(Ju hx).1
  have hnl:=lb (p::q)
  rw [hnl] at hlen
  have hql:q.length+1≤9223372036854775807:=hlen
  obtain ⟨h1,h2,h3⟩:=hq.fit m rfl
  have hfl:=dc run
  have hlv:mw r (p::q) run=fj q (run.set p { x with Glyph:=g,Cluster:=gM run (p::q) x.Cluster }):=by
    unfold mw
    rw [hg]
    dsimp only
    rw [hx]
  rw [hlv]
  have hflj:∀y:aM,(bY (run.set p y)++m.junk).length=(bY run++m.junk).length:=fun y=>by rw [List.length_append,dc,List.length_set,List.length_append,hfl]
  have hp0:(d3 (p::q))[(0:Int).toNat]?=some [aF p]:=rfl
  have hst:=kz (j:=0) { x with Glyph:=g } (aF g) m.junk hx (by omega) rfl
  repeat' (first|refine IT ?_|fail)
  refine bA 7 [(0,.v),(1,.v),(2,.v),(3,.l),(4,.v),(5,.v),(6,.v)] none ?_ trivial rfl (by kernel_rfl) (by kernel_rfl) (by kernel_rfl) bU (by kernel_rfl) rfl
  repeat' (first|refine aD ?_|refine b8 a5 ?_|(apply cB;refine cT a5 ?_)|refine bZ a5 0 rfl rfl rfl rfl (by first|trivial|rfl) ?_)
  refine IQ [0,1,2,13,16] G9 ?_
  repeat' (first|refine IT ?_|refine a7 ?_|refine IF a5 G9 ?_|(apply aS;first|refine aQ a5 ?_|refine aG a5 ?_)|fail)
  refine aa a5 1 rfl rfl rfl rfl rfl rfl (Nat.ble_eq_true_of_le (by rw [Int.toNat_natCast];simp;omega)) ?_
  rw [hst]
  repeat' (first|refine IT ?_|refine am ?_|refine IF a5 G9 ?_)
  refine aO [0,1,6,22,23] (α:=Nat) (fun k=>[(24,aF k)]) (fun k=>k≤(p::q).length) (fun k=>iU wb E (some m) (run.set p { x with Glyph:=g,Cluster:=gM run ((p::q).take k) x.Cluster })) (fun k=>(p::q).length - k) 0 rfl ⟨rfl,trivial⟩ (Nat.zero_le _) (fun _ _ h=>wJ h) fun k hk=>?_
  · try dsimp only [Jx,Jw,Jv,Jq]
    repeat' (first|refine IT ?_|refine IF a5 G9 ?_)
    refine ar rfl (fun h=>?_) (fun h=>?_)
    · have hk2:k < (p::q).length:=by have:=Iy h;omega
      obtain ⟨j,hj⟩:∃z,(p::q)[k]?=some z:=⟨_,Iz hk2⟩
      have hjg:(d3 (p::q))[k]?=some [aF j]:=by unfold d3;exact bR (by rw [List.getElem?_map,hj];rfl)
      have hjl:=hp j (Iw hj)
      obtain ⟨y,hy⟩:∃z,run[j]?=some z:=⟨_,Iz hjl⟩
      have htk:(p::q).take (k+1)=(p::q).take k++[j]:=by rw [List.take_add_one,hj];rfl
      have hle:=rB (l:=(p::q).take k) (run:=run) (c:=x.Cluster)
      have hnew:gM run ((p::q).take (k+1)) x.Cluster=min (gM run ((p::q).take k) x.Cluster) y.Cluster:=by
        unfold gM
        rw [htk,List.foldl_append]
        show nz run _ j=_
        unfold nz
        rw [hy]
      generalize gM run ((p::q).take k) x.Cluster=c at *
      have hxp:(run.set p { x with Glyph:=g,Cluster:=c })[p]?=some { x with Glyph:=g,Cluster:=c }:=List.getElem?_set_self hil
      obtain ⟨y2,hy2,hyc⟩:∃y2,(run.set p { x with Glyph:=g,Cluster:=c })[j]?=some y2∧min c y2.Cluster=min c y.Cluster:=by
        by_cases hjp:j=p
        · subst hjp
          rw [hx] at hy
          cases hy
          exact ⟨_,hxp,by dsimp only;omega⟩
        · exact ⟨y,by rw [List.getElem?_set_ne (fun e=>hjp e.symm)];exact hy,rfl⟩
      have hf1:=o0 (j:=1) m.junk hxp rfl
      have hf2:=o0 (j:=1) m.junk hy2 rfl
      have hst2:=kz (j:=1) { x with Glyph:=g,Cluster:=min c y2.Cluster } (aF (min c y2.Cluster)) m.junk hxp (by omega) rfl
      have hsl:(run.set p { x with Glyph:=g,Cluster:=c }).length=run.length:=List.length_set ..
      have hfl2:=hflj { x with Glyph:=g,Cluster:=c }
      clear h
      repeat' (first|refine IT ?_|refine am ?_|refine IF a5 G9 ?_|(apply aS;first|refine aQ a5 ?_|refine aG a5 ?_)|fail)
      refine bA 14 [(0,.v),(1,.v),(2,.v),(3,.v),(4,.l),(5,.v),(6,.v),(7,.v),(8,.l),(9,.v),(10,.v),(11,.v),(12,.l),(13,.v)] none ?_ trivial rfl (by kernel_rfl) (by kernel_rfl) (by kernel_rfl) bU (by kernel_rfl) rfl
      repeat' (first|refine aD ?_|refine b8 a5 ?_|fail)
      refine bZ a5 1 rfl rfl rfl hf1 trivial ?_
      repeat' (first|refine aD ?_|refine b8 a5 ?_|refine bZ a5 0 rfl rfl rfl rfl (by first|trivial|rfl) ?_)
      refine d9 a5 rfl rfl rfl ⟨by omega,by omega⟩ trivial ?_
      repeat' (first|refine aD ?_|refine b8 a5 ?_|fail)
      refine bZ a5 1 rfl rfl rfl hf2 trivial ?_
      repeat' (first|refine aD ?_|refine b8 a5 ?_|fail)
      refine IQ [0,1,6,22,23,24,28,41] G9 ?_
      repeat' (first|refine IF a5 G9 ?_)
      refine aa a5 1 rfl rfl rfl rfl rfl rfl (Nat.ble_eq_true_of_le (by rw [Int.toNat_natCast];simp only [hfl2];simp;omega)) ?_
      rw [hst2]
      repeat' (first|refine IT ?_|refine IF a5 G9 ?_|(apply aV;refine aU ?_)|fail)
      refine aC (k+1) rfl ⟨by rw [Iv];rfl,trivial⟩ (by omega) (by omega) (fun _ _ h=>?_)
      have h4:=wJ h
      rw [List.set_set] at h4
      rw [hnew,←hyc]
      exact h4
    · have hke:k=(p::q).length:=by have:=Ix h;omega
      subst hke
      rw [List.take_length]
      clear h
      have hR:(run.set p { x with Glyph:=g,Cluster:=gM run (p::q) x.Cluster }).length=run.length:=List.length_set ..
      have hqR:=hq.set p { x with Glyph:=g,Cluster:=gM run (p::q) x.Cluster }
      generalize run.set p { x with Glyph:=g,Cluster:=gM run (p::q) x.Cluster }=R at *
      obtain ⟨g1,g2,g3⟩:=hqR.fit m rfl
      repeat' (first|refine IT ?_|refine am ?_|refine IF a5 G9 ?_|(apply aV;refine aU ?_)|fail)
      refine aO [0,1] (α:=Nat×List AV) (fun s=>[(9,aF s.1)]) (fun s=>s.1≤q.length∧m.cap * 6≤(bY (fj (q.drop s.1) R)++s.2).length) (fun s=>iU wb E (some ⟨m.rb,m.cap,s.2⟩) (fj (q.drop s.1) R)) (fun s=>s.1) (q.length,m.junk) rfl ⟨by rw [hnl];simp;rfl,trivial⟩ ⟨Nat.le_refl _,by rw [List.drop_length];exact g3⟩ (fun _ _ h=>by rw [List.drop_length];exact h) ?_
      rintro ⟨n,junk⟩ ⟨hn,hj⟩
      dsimp only at hn hj ⊢
      try dsimp only [Jx,Jw,Jv,Jq]
      repeat' (first|refine IT ?_|refine IF a5 G9 ?_)
      refine ar rfl (fun h=>?_) (fun h=>?_)
      · have hn0:0 < n:=by have:=Iy h;omega
        obtain ⟨k,rfl⟩:∃k,n=k+1:=⟨n - 1,by omega⟩
        obtain ⟨z,hz⟩:∃z,q[k]?=some z:=⟨_,Iz (by omega)⟩
        have hzg:(d3 (p::q))[((k+1:Nat):Int).toNat]?=some [aF z]:=by rw [Int.toNat_natCast];unfold d3;exact bR (by rw [Jv,List.getElem?_cons_succ,List.getElem?_map,hz];rfl)
        have hqd:q.drop k=z::q.drop (k+1):=by rw [List.drop_eq_getElem_cons (by omega),(Ju hz).2]
        have hqp:=(List.pairwise_cons.1 hs).2
        have hdp:(z::q.drop (k+1)).Pairwise (· < ·):=by rw [←hqd];exact hqp.sublist (List.drop_sublist ..)
        obtain ⟨d1,d2⟩:=List.pairwise_cons.1 hdp
        have hqm:∀y∈q,y < R.length:=fun y hy=>by rw [hR];exact hp y (by simp [hy])
        have hzl:=tQ (R:=R) d2 (fun y hy=>⟨d1 y hy,hqm y (List.mem_of_mem_drop hy)⟩) (hqm z (Iw hz))
        have hdl:(fj (q.drop (k+1)) R).length≤R.length:=kY.length_le
        have hdel:=yc m.rb m.cap (fj (q.drop (k+1)) R) junk z hzl (by omega) h2 hj (by omega)
        have her:(fj (q.drop (k+1)) R).eraseIdx z=fj (q.drop k) R:=by rw [hqd];rfl
        rw [her] at hdel
        clear h
        repeat' (first|refine IT ?_|refine am ?_)
        refine bA 15 [(0,.v),(1,.v),(2,.v),(3,.v),(4,.l),(5,.v),(6,.v),(7,.v),(8,.v),(9,.v),(10,.v),(11,.v),(12,.v),(13,.v),(14,.e)] none ?_ trivial rfl (by kernel_rfl) (by kernel_rfl) (by kernel_rfl) bU (by kernel_rfl) rfl
        repeat' (first|refine aD ?_|refine b8 a5 ?_|(apply ek;refine fH ?_)|(apply cB;refine cT a5 ?_)|refine bZ a5 0 rfl rfl rfl rfl (by first|trivial|rfl) ?_)
        refine jy [(m.rb,.box (bY (fj (q.drop (k+1)) R)++junk) 67)] [(wb,.box [.iptr (dp E),ey (some ⟨m.rb,m.cap,junk⟩) (fj (q.drop (k+1)) R)] 102),cM] hdel rfl rfl HG trivial fun c L1 ⟨hc,junk',hj',hL⟩=>?_
        subst hc;subst hL
        repeat' (first|fail)
        refine IQ [0,1,9,52,66] G9 ?_
        refine aJ (aI FX) ?_
        repeat' (first|refine IT ?_|refine IF a5 G9 ?_|(apply aV;refine aU ?_)|(apply aK;first|refine IG a5 0 ID ?_|refine IG a5 1 ID ?_|refine IG a5 2 ID ?_|refine IG a5 3 ID ?_|fail))
        refine aC (k,junk') rfl ⟨?_,trivial⟩ ⟨by omega,hj'⟩ (by dsimp only;omega) (fun _ _ h=>h)
        show some (aF (((k+1:Nat):Int) - 1))=some (aF (k:Int))
        rw [show ((k+1:Nat):Int) - 1=(k:Int) by omega]
      · have hn0:n=0:=by have:=Ix h;omega
        subst hn0
        rw [List.drop_zero] at hj ⊢
        clear h
        repeat' (first|refine IT ?_|fail)
        have hdl:=(kY (q:=q) (run:=R)).length_le
        have hok:dJ (some ⟨m.rb,m.cap,junk⟩) (fj q R):=⟨fun e=>(by cases e),fun m' e=>by
          cases e
          exact ⟨by dsimp only;omega,h2,hj⟩⟩
        exact cA rfl ⟨some ⟨m.rb,m.cap,junk⟩,hok,rfl⟩
end Go.Proofs.YtpmdfoaadejmkaaGreatDoor
