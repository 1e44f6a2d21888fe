/-
  An engine's match.
-/
import Derived.Test.YtpmdfoaadejmkaaGreatDoorM13
import Derived.Test.YtpmdfoaadejmkaaGreatDoorM17
import Derived.Test.YtpmdfoaadejmkaaGreatDoorM12
import Derived.Test.YtpmdfoaadejmkaaGreatDoorM05
import Derived.Test.YtpmdfoaadejmkaaGreatDoorM14
namespace Go.Proofs.YtpmdfoaadejmkaaGreatDoor
open Go.RowKit
attribute [local irreducible] AT bJ AX AO Av Kt bi dq DA cG
theorem xw (l:List Int) (z:Int):bU Tryz.prog 190 [.imm 1 (aW l),aF z] (aF (if z∈l then (l.idxOf z:Nat) else -1)):=by
 refine aN Tryz.func190 rfl Tryz.ntmps190 rfl fun B=>?_
 refine cW 0 rfl rfl fun hlen=>?_
 have hll:=bb l
 rw [hll] at hlen
 repeat' (first|refine L3 ?_|refine ak ?_|refine KG a4 HY ?_)
 refine aR [0,1,7] (α:=Nat) (fun i=>[(8,aF i)]) (fun i=>i≤l.length∧z∉l.take i) (fun _=>[]) (fun i=>l.length - i) 0 rfl ⟨rfl,trivial⟩ ⟨Nat.zero_le _,by simp⟩ (fun _ _ h=>h) fun i hi=>?_
 try dsimp only [Kr,Kq,Kp,Lv]
 repeat' (first|refine L3 ?_|refine KG a4 HY ?_)
 refine aw rfl (fun h=>?_) (fun h=>?_)
 ·have hil:i < l.length:=by have:=Ky h;omega
  obtain ⟨y,hy⟩:∃z,l[i]?=some z:=⟨_,Kz hil⟩
  have hzg:=bP hy
  have htk:l.take (i+1)=l.take i++[y]:=by rw [List.take_add_one,hy];rfl
  clear h
  repeat' (first|refine L3 ?_|refine ak ?_|refine KG a4 HY ?_|(apply aQ;first|refine aO a4 ?_|refine aG a4 ?_)|fail)
  refine aw rfl (fun h2=>?_) (fun h2=>?_)
  ·have h2':=Ky h2
   subst h2'
   repeat' (first|refine L3 ?_|refine KG a4 HY ?_)
   refine KP HY ?_
   have hm:=Kw hy
   have:l.idxOf z=i:=by
    have e:l=l.take i++z::l.drop (i+1):=by
     conv=>lhs;rw [←List.take_append_drop i l,List.drop_eq_getElem_cons hil,(Ko hy).2]
    rw [e,List.idxOf_append,if_neg hi.2,List.idxOf_cons_self,List.length_take]
    omega
   rw [if_pos hm,this]
  ·have h2':=Kx h2
   repeat' (first|refine L3 ?_|refine KG a4 HY ?_|(apply aU;refine aT ?_)|fail)
   exact aD (i+1) rfl ⟨by rw [Kv];rfl,trivial⟩ ⟨by omega,by rw [htk];simp [hi.2];exact h2'⟩ (by omega) (fun _ _ h=>h)
 ·have hil:i=l.length:=by have:=Kx h;omega
  subst hil
  rw [List.take_length] at hi
  repeat' (first|refine L3 ?_|refine KG a4 HY ?_)
  refine KP HY ?_
  rw [if_neg hi.2]
instance (l:List Int) (z:Int):AD Tryz.prog 190 [.imm 1 (aW l),aF z] (aF (if z∈l then (l.idxOf z:Nat) else -1)):=⟨xw l z⟩
theorem sv (l:List Int) (z:Int):bU Tryz.prog 187 [.imm 1 (aW l),aF z] (d6 (l.contains z)):=by
 refine aN Tryz.func187 rfl Tryz.ntmps187 rfl fun B=>?_
 repeat' (first|refine L3 ?_|refine KG a4 HY ?_|(apply bF;refine bv ?_)|fail)
 refine KP HY ?_
 congr 2
 by_cases h:z∈l
 ·rw [if_pos h,decide_eq_true (by omega)];simp [h]
 ·rw [if_neg h,decide_eq_false (by omega)];simp [h]
instance (l:List Int) (z:Int):AD Tryz.prog 187 [.imm 1 (aW l),aF z] (d6 (l.contains z)):=⟨sv l z⟩
structure lu (e:pY):Prop where
 few:e.l.Rules.length≤6
 ends:tJ e
 fore:∀gl,gk e.cls e.fore e.foreE gl=cx (fb (e.l.Rules.map dZ) (t1 e.l.Rules) gl) (e.l.Rules.map dZ).length
 back:∀gl,gk e.cls e.back e.backE gl=cx (fb (e.l.Rules.map bh.Back) (fun _=>true) gl) (e.l.Rules.map bh.Back).length
 long:dP e.l.Rules≤1000000∧eQ e.l.Rules≤1000000
section
variable {e:pY} (h:lu e)
include h
theorem lu.lt (bg fg:List Int):gk e.cls e.back e.backE bg &&& gk e.cls e.fore e.foreE fg < 64:=by
 have h1:=Nat.and_le_right (n:=gk e.cls e.back e.backE bg) (m:=gk e.cls e.fore e.foreE fg)
 have h2:=nr (fb (e.l.Rules.map dZ) (t1 e.l.Rules) fg) (e.l.Rules.map dZ).length
 rw [←h.fore fg,Ku] at h2
 have h3:2 ^ e.l.Rules.length≤2 ^ 6:=Nat.pow_le_pow_right (by omega) h.few
 have:(2:Nat) ^ 6=64:=rfl
 omega
theorem lu.first (ms:List Bool) (run:List aJ) (i:Nat):tW (gk e.cls e.back e.backE (((gN ms e.l.Ignore run i).take (eQ e.l.Rules)).map (cV run)) &&& gk e.cls e.fore e.foreE (((dk ms e.l.Ignore run i).take (dP e.l.Rules)).map (cV run)))=match e.l.Rules.findIdx? (dM ms e.l.Ignore run i) with
  | some n=>(n:Int)
  | none=> -1:=by
 have hlt:=h.lt (((gN ms e.l.Ignore run i).take (eQ e.l.Rules)).map (cV run)) (((dk ms e.l.Ignore run i).take (dP e.l.Rules)).map (cV run))
 rw [h.fore,h.back] at hlt ⊢
 have ht:=xj (ms:=ms) (ig:=e.l.Ignore) (run:=run) (i:=i) (rs:=e.l.Rules) fun n=>zO (rs:=e.l.Rules) (n:=n)
 generalize (cx (fb (e.l.Rules.map bh.Back) _ _) _ &&& _)=b at ht hlt ⊢
 obtain ⟨k1,k2⟩:=xB (q:=dM ms e.l.Ignore run i) (l:=e.l.Rules) ht
 unfold tW
 cases hf:e.l.Rules.findIdx? (dM ms e.l.Ignore run i) with
 | none=>rw [k2 hf];rfl
 | some n=>
  obtain ⟨k3,k4⟩:=k1 n hf
  have hn:=(List.findIdx?_eq_some_iff_getElem.1 hf).1
  have hf:=h.few
  rw [if_neg (fun e=>by rw [e,Nat.zero_testBit] at k3;cases k3)]
  exact Eo b hlt n (by omega) k3 k4
end
theorem vv:∀{ss:List (List Int)} {gl:List Int},dv ss gl=true→ss.length≤gl.length
 | [],_,_=>Nat.zero_le _
 | _::_,[],h=>by cases h
 | _::ss,_::gl,h=>by
  rw [dv,Bool.and_eq_true] at h
  have:=vv h.2
  simp;omega
theorem lZ {ms:List Bool} {ig:Bool} {run:List aJ} {i:Nat} {r:bh} (h:dM ms ig run i r=true):0 < r.In.length∧r.In.length≤(dk ms ig run i).length:=by
 unfold dM at h
 rw [Bool.and_eq_true,Bool.and_eq_true] at h
 have h1:=vv h.2.1
 rw [List.length_append,Ku] at h1
 constructor
 ·have:=h.1
  cases hr:r.In with
  | nil=>rw [hr] at this;cases this
  | cons a b=>simp
 ·omega
theorem vD {rs:List bh} {r:bh} (h:r∈rs):r.In.length≤dP rs:=by
 have:=(k5 (g:=fun r:bh=>r.In.length+r.Ahead.length) (m:=0)).2 r h
 unfold dP
 omega
theorem s5 {ms:List Bool} {ig:Bool} {run:List aJ} {i:Nat}:cg ms ig run true (i:Int)=dk ms ig run i:=by
 unfold cg
 rw [if_pos rfl,Int.toNat_natCast]
theorem s4 {ms:List Bool} {ig:Bool} {run:List aJ} {i:Nat}:cg ms ig run false ((i:Int) - 1)=gN ms ig run i:=by
 unfold cg
 simp only [Bool.false_eq_true,if_false]
 rw [show ((i:Int) - 1+1).toNat=i by omega]
def lS (E:pZ) (l:aL) (run:List aJ) (i:Nat) (forms:List Int):AV:=match ek E.ms l run i forms with
 | none=> .tup [JB,.sc (.slice none 0 0)]
 | some r=> .tup [.iptr (bC (fj r)),.imm 1 (bQ (d8 E.ms l run i r))]
abbrev jQ (wb:Nat) (E:pZ) (q:Option dD) (run:List aJ):AL:=wx wb (.iptr (eC E)) q run++[dN]
set_option maxHeartbeats 4000000 in
theorem rt (E:pZ) (e:pY) (he:lu e) (wb:Nat) (q:Option dD) (run:List aJ) (hq:cu q run) (hr:run.length≤1000000) (i:Nat) (hi0:i≤1000000) (forms:List Int):AC Tryz.prog 102 [dA wb,.iptr (fM e),aF i,.imm 1 (aW forms)] (jQ wb E q run) fun c L=>c=lS E e.l run i forms∧L=jQ wb E q run:=by
 refine aN Tryz.func102 rfl Tryz.ntmps102 rfl fun B=>?_
 have hfl:=bb forms
 refine cW 3 rfl rfl fun hlen=>?_
 by_cases hi:i < run.length
 ·obtain ⟨m,rfl⟩:=hq.lt hi
  obtain ⟨x,hx⟩:∃x,run[i]?=some x:=⟨_,Kz hi⟩
  have hse:=uy E e wb m run i x hx
  repeat' (first|refine L3 ?_|refine KG a4 HY ?_|refine KR HY ?_|(apply bo;first|refine KM a4 0 KC ?_|refine KM a4 1 KC ?_|refine KM a4 2 KC ?_|refine KM a4 3 KC ?_|refine KN a4 0 KC ?_|refine KN a4 1 KC ?_|refine KN a4 2 KC ?_|refine KO a4 1 KA (by assumption) rfl ?_|refine KO a4 0 KA (by assumption) rfl ?_|fail)|fail)
  refine ce [0,1,2,3] (iG E.ms e.l.Ignore x=false) rfl (fun Q' K=>?_) (fun hC=>?_) (fun hC=>?_)
  ·repeat' (first|refine L3 ?_|refine KG a4 HY ?_|refine KR HY ?_|refine KV KB ?_|refine KW KA (fun _=>?_) (fun _=>?_))
   ·refine b6 (wx wb (.iptr (eC E)) (some m) run) [dN] hse rfl rfl (Lz _) rfl fun c L1 ⟨hc,hL⟩=>?_
    subst hc;subst hL
    repeat' (first|refine L3 ?_|refine KG a4 HY ?_|refine KR HY ?_)
    exact K _ _ rfl rfl (by simp)
   ·rename_i hx2
    have:=Ky hx2
    omega
  ·have hm:ek E.ms e.l run i forms=none:=by
    unfold ek
    rw [if_neg]
    unfold iq
    rw [hx]
    dsimp only
    rw [hC]
    simp
   unfold lS
   rw [hm]
   repeat' (first|refine L3 ?_|refine KG a4 HY ?_)
   exact KX KA ⟨rfl,rfl⟩
  have hC:iG E.ms e.l.Ignore x=true:=by simpa using hC
  have h2:=ic (j:=2) m.junk hx rfl
  repeat' (first|refine L3 ?_|refine KG a4 HY ?_)
  refine ce [0,1,2] (forms≠[]∧forms.contains x.Form=false) rfl (fun Q' K=>?_) (fun hC2=>?_) (fun hC2=>?_)
  ·repeat' (first|refine L3 ?_|refine KG a4 HY ?_|refine KR HY ?_|refine KV KB ?_|(apply bo;first|refine KM a4 0 KC ?_|refine KM a4 1 KC ?_|refine KM a4 2 KC ?_|refine KM a4 3 KC ?_|refine KN a4 0 KC ?_|refine KN a4 1 KC ?_|refine KN a4 2 KC ?_|refine KO a4 1 KA (by assumption) rfl ?_|refine KO a4 0 KA (by assumption) rfl ?_|fail)|(apply aQ;first|refine aO a4 ?_|refine aG a4 ?_)|(apply bF;refine bv ?_)|refine KW KA (fun _=>?_) (fun _=>?_))
   all_goals exact K _ _ rfl rfl (by cases forms <;> simp_all)
  ·have hm:ek E.ms e.l run i forms=none:=by
    unfold ek
    rw [if_neg]
    unfold iq
    rw [hx]
    dsimp only
    rw [hC2.2]
    cases forms with
    | nil=>exact absurd rfl hC2.1
    | cons a b=>simp
   unfold lS
   rw [hm]
   repeat' (first|refine L3 ?_|refine KG a4 HY ?_)
   exact KX KA ⟨rfl,rfl⟩
  have hbe:iq E.ms e.l.Ignore run i forms=true:=by
   unfold iq
   rw [hx]
   dsimp only
   rw [hC]
   cases forms with
   | nil=>rfl
   | cons a b=>cases hcc:(a::b).contains x.Form with
    | true=>rfl
    | false=>exact absurd ⟨by simp,hcc⟩ hC2
  have hmv:ek E.ms e.l run i forms=e.l.Rules.find? (dM E.ms e.l.Ignore run i):=by
   unfold ek
   rw [if_pos hbe]
  have s1:=zf E e wb (some m) run hq hr true i ⟨by omega,fun _=>by omega,fun h=>by cases h⟩ (by omega) (dP e.l.Rules)
  have s2:=zf E e wb (some m) run hq hr false ((i:Int) - 1) ⟨by omega,fun h=>(by cases h),fun _=>by omega⟩ (by omega) (eQ e.l.Rules)
  rw [s5] at s1
  rw [s4] at s2
  have hfirst:=he.first E.ms run i
  repeat' (first|refine L3 ?_|refine KG a4 HY ?_)
  refine b6 (wx wb (.iptr (eC E)) (some m) run) [dN] s1 rfl rfl (Lz _) rfl fun c L1 ⟨hc,hL⟩=>?_
  subst hc;subst hL
  repeat' (first|refine L3 ?_|refine KG a4 HY ?_|(apply aU;refine aT ?_)|fail)
  refine b6 (wx wb (.iptr (eC E)) (some m) run) [dN] s2 rfl rfl (Lz _) rfl fun c L1 ⟨hc,hL⟩=>?_
  subst hc;subst hL
  repeat' (first|refine L3 ?_|refine KG a4 HY ?_)
  refine b6 [dN] (wx wb (.iptr (eC E)) (some m) run) (zw e he.ends _ _ (he.lt _ _)) rfl rfl List.perm_append_comm rfl fun c L1 ⟨hc,hL⟩=>?_
  subst hc;subst hL
  refine aP (aI (L':=jQ wb E (some m) run) List.perm_append_comm) ?_
  rw [hfirst]
  unfold lS
  rw [hmv,r7]
  cases hfi:e.l.Rules.findIdx? (dM E.ms e.l.Ignore run i) with
  | none=>
   dsimp only [Option.bind_none]
   repeat' (first|refine L3 ?_|refine KG a4 HY ?_|refine bH rfl ?_)
   exact KX KA ⟨rfl,rfl⟩
  | some n=>
   obtain ⟨hn,hn1,hn2⟩:=List.findIdx?_eq_some_iff_getElem.1 hfi
   obtain ⟨r,hrr⟩:∃r,e.l.Rules[n]?=some r:=⟨_,Kz hn⟩
   rw [(Ko hrr).2] at hn1
   obtain ⟨hin0,hin⟩:=lZ hn1
   have hfm:=vD (Kw hrr)
   have hrg:((jO e.l).Rules.map bC)[n]?=some (bC (fj r)):=by simp [jO,hrr]
   have hpl:((dk E.ms e.l.Ignore run i).take (dP e.l.Rules)).take r.In.length=d8 E.ms e.l run i r:=by
    unfold d8
    rw [List.take_take,Nat.min_eq_left hfm]
   have hnl:=f8 ((dk E.ms e.l.Ignore run i).take (dP e.l.Rules))
   rw [List.length_take] at hnl
   have hril:=bY r.In
   dsimp only [Option.bind_some]
   rw [hrr]
   dsimp only
   repeat' (first|refine L3 ?_|refine KG a4 HY ?_|(apply aQ;first|refine aO a4 ?_|refine aG a4 ?_)|refine bE rfl ?_)
   refine bn 6 [(0,.v),(1,.v),(2,.v),(3,.v),(4,.v),(5,.v)] none ?_ trivial rfl (by kernel_rfl) (by kernel_rfl) (by kernel_rfl) bI (by kernel_rfl) rfl
   repeat' (first|refine aB ?_|refine aX a4 ?_|fail)
   refine yE a4 r.In.length rfl rfl rfl rfl rfl rfl (by rw [show (fj r).In=r.In from rfl,hril]) (by rw [show (fj r).In=r.In from rfl,hril]) (by omega) trivial ?_
   rw [show (bQ ((dk E.ms e.l.Ignore run i).take (dP e.l.Rules))).take r.In.length=bQ (d8 E.ms e.l run i r) by rw [←hpl];unfold bQ aW;rw [←List.map_take,←List.map_take]]
   repeat' (first|refine aB ?_|refine aX a4 ?_|fail)
   refine KU [8,99] HY ?_
   repeat' (first|refine L3 ?_|refine a7 ?_|refine KG a4 HY ?_)
   exact KX KA ⟨rfl,rfl⟩
 ·have hm:ek E.ms e.l run i forms=none:=by
   unfold ek
   rw [if_neg]
   unfold iq
   rw [List.getElem?_eq_none (by omega)]
   exact fun h=>by cases h
  unfold lS
  rw [hm]
  repeat' (first|refine L3 ?_|refine KG a4 HY ?_|refine KR HY ?_|(apply bo;first|refine KM a4 0 KC ?_|refine KM a4 1 KC ?_|refine KM a4 2 KC ?_|refine KM a4 3 KC ?_|refine KN a4 0 KC ?_|refine KN a4 1 KC ?_|refine KN a4 2 KC ?_|refine KO a4 1 KA (by assumption) rfl ?_|refine KO a4 0 KA (by assumption) rfl ?_|fail)|fail)
  refine ce [0,1,2,3] True rfl (fun Q' K=>?_) (fun hC=>?_) (fun hC=>absurd trivial hC)
  ·repeat' (first|fail)
   refine iw a4 rfl hq rfl rfl ?_
   repeat' (first|refine L3 ?_|refine KG a4 HY ?_|refine KR HY ?_|refine KV KB ?_|refine KW KA (fun _=>?_) (fun _=>?_))
   ·rename_i h
    have:=Kx h
    omega
   ·exact K _ _ rfl rfl (by simp)
  ·repeat' (first|refine L3 ?_|refine KG a4 HY ?_)
   exact KX KA ⟨rfl,rfl⟩
end Go.Proofs.YtpmdfoaadejmkaaGreatDoor
namespace Go.Proofs.YtpmdfoaadejmkaaGreatDoor
open Go.RowKit
section
variable {P:Program} {tt:TT} {l:List Oper} {fr:cf} {fin:iH} {sk:lp} {acc:cf} {L:AL} {k:Nat} {dd:Option Tmp} {ty t:TypeId} {pos:String} {af:Array Edge} {g:Option (Nat×Bool)}
theorem Cv (ok:ez P tt) {zs:List Value} (hz:zI tt t=some zs) (h1:zs.all (·.oneCell')=true) (hg:iO ⟨dd,.alloc t,ty,pos,af,g⟩ acc) (h:∀b,DA P l fr fin sk ((k,.sc (.pointer (some ⟨b,0,none⟩)))::acc) ((b,.box (zs.map .sc) t)::L)):
  cG P l fr fin k .a ⟨dd,.alloc t,ty,pos,af,g⟩ sk acc L:=
 Cz (fun c L' ⟨b,_,h2⟩=>⟨[(b,_)],h2⟩) hg (fun _=>nk (eX ok hz) h1) fun c L' ⟨b,h1,h2⟩=>by subst h1;subst h2;exact h b
end
end Go.Proofs.YtpmdfoaadejmkaaGreatDoor
namespace Go.Proofs.YtpmdfoaadejmkaaGreatDoor
open Go.RowKit
attribute [local irreducible] AT bJ AX AO Av Kt bi dq DA cG
theorem fQ {run:List aJ} {i j:Nat} {x:aJ} (y:aJ) (v:AV) (junk:List AV) (h:run[i]?=some x) (hj:j < 6) (hy:bO y=(bO x).set j v):f5 (bB run++junk) (0+((i:Nat):Int).toNat * 6+j) [v]=bB (run.set i y)++junk:=by
 rw [je,Int.toNat_natCast,Nat.zero_add]
 have hi:=(Ko h).1
 have hl:=co run
 rw [List.set_append,if_pos (by omega)]
 congr 1
 unfold bB
 have hm:(run.map bO)[i]?=some (bO x):=by simp [h]
 rw [vx (sz:=6) (run.map bO) i j (bO x) v (fun e he=>by obtain ⟨z,_,rfl⟩:=List.mem_map.1 he;rfl) hm hj,←hy,List.map_set]
theorem mi (run:List aJ) (junk:List AV) {k:Nat} (h:k≤run.length):(bB run++junk).take (k * 6)=bB (run.take k):=by
 have e:bB run=bB (run.take k)++bB (run.drop k):=by rw [←gi,List.take_append_drop]
 have hl:=co (run.take k)
 rw [List.length_take,Nat.min_eq_left h] at hl
 rw [e,List.append_assoc,←hl,List.take_left]
theorem oP (run:List aJ) (junk:List AV) {k:Nat} (h:k≤run.length):((bB run++junk).drop (k * 6)).take ((run.length - k) * 6)=bB (run.drop k):=by
 have e:bB run=bB (run.take k)++bB (run.drop k):=by rw [←gi,List.take_append_drop]
 have hl:=co (run.take k)
 rw [List.length_take,Nat.min_eq_left h] at hl
 have hl2:=co (run.drop k)
 rw [List.length_drop] at hl2
 rw [e,List.append_assoc,←hl,List.drop_left,←hl2,List.take_left]
theorem Ad (run:List aJ) (junk:List AV) {i:Nat} {x:aJ} (h:run[i]?=some x):((bB run++junk).drop (i * 6)).take 6=bO x:=by
 have hi:=(Ko h).1
 have e:bB run=bB (run.take i)++(bO x++bB (run.drop (i+1))):=by
  rw [←mY,←gi]
  congr 1
  rw [←(Ko h).2,List.getElem_cons_drop,List.take_append_drop]
 have hl:=co (run.take i)
 rw [List.length_take,Nat.min_eq_left (by omega)] at hl
 rw [e,List.append_assoc,←hl,List.drop_left,List.append_assoc]
 exact List.take_left (l₁:=bO x)
theorem D0 (b k n:Nat) (cs:List AV) (hk:k * 6≤cs.length) (hk1:k≤1000000) (hn1:n≤2000000):AC Tryz.prog 259 [.sc (.slice (some ⟨b,0,none⟩) k k),aF n] [(b,.box cs 67)] fun c L=>
  (n=0∧c= .sc (.slice (some ⟨b,0,none⟩) k k)∧L=[(b,.box cs 67)])∨
  (0 < n∧∃b' cs' cap',c= .sc (.slice (some ⟨b',0,none⟩) k cap')∧cap' * 6≤cs'.length∧cs'.take (k * 6)=cs.take (k * 6)∧k+n≤cap'∧cap'≤maxLen∧L=[(b',.box cs' 67),(b,.box cs 67)]):=by
 refine aN Tryz.func259 rfl Tryz.ntmps259 rfl fun B=>?_
 repeat' (first|refine L3 ?_|refine KG a4 HY ?_|refine bE rfl ?_)
 refine rB a4 rfl rfl rfl ?_
 repeat' (first|refine L3 ?_|refine KG a4 HY ?_|(apply aU;refine aT ?_)|fail)
 refine aw rfl (fun h=>?_) fun h=>?_
 ·have hn0:0 < n:=by have:=Ky h;omega
  repeat' (first|refine L3 ?_|refine KG a4 HY ?_)
  refine rB a4 rfl rfl rfl ?_
  repeat' (first|fail)
  refine nQ a4 k rfl rfl rfl rfl (Nat.le_refl _) rfl ?_
  repeat' (first|refine KG a4 HY ?_)
  refine rz a4 0 n rfl rfl rfl Tryz.underlying3 rfl rfl (by omega) hn0 rfl hk (Nat.le_refl _) (by omega) (by unfold maxLen;omega) (by omega) rfl fun b' cs' cap' h1 h2 h3 h4=>?_
  repeat' (first|refine KG a4 HY ?_)
  refine nQ a4 k rfl rfl rfl rfl (by omega) rfl ?_
  repeat' (first|refine L3 ?_|refine KG a4 HY ?_)
  exact KP HY (.inr ⟨hn0,b',cs',cap',rfl,h1,h2,h3,h4,rfl⟩)
 ·have hn0:n=0:=by have:=Kx h;omega
  repeat' (first|refine L3 ?_|refine KG a4 HY ?_)
  exact KP HY (.inl ⟨hn0,rfl,rfl⟩)
theorem tx {fr:cf} {B:Bs} {L:AL} {y:Operand} {sz c:Nat} {A:Option Addr} (hy:br fr y=some (.sc (.slice A 0 c))):qw fr B L y sz 0 []:=fun σ ρ w hρ _=>⟨A,c,[],(hρ y _ hy).sc_inv,dB.nil,by simp,by simp,fun h=>by omega⟩
theorem r9 {run:List aJ} (junk:List AV) {i:Nat} {x:aJ} (h:run[i]?=some x):((bB run++junk).drop (0+((i:Nat):Int).toNat * 6)).take 6=bO x:=by
 rw [Int.toNat_natCast,Nat.zero_add]
 exact Ad run junk h
def pU (x:aJ) (l:List Int):List aJ:=l.map fun g=>{ x with Glyph:=g }
theorem rP (x:aJ) (l:List Int):(pU x l).length=l.length:=by simp [pU]
theorem FO {a b:Nat×AB} {X:AL}:(a::b::X).Perm (b::a::X):=List.Perm.swap ..
theorem JF {a b c d:Nat×AB}:[a,b,c,d].Perm [c,b,d,a]:=(List.Perm.cons a (List.Perm.swap c b _)).trans ((List.Perm.swap c a _).trans ((((List.Perm.swap b a _).trans ((List.Perm.swap d a _).cons b))).cons c))
theorem JG {a b c d:Nat×AB} {X:AL}:((a::X)++[b,c,d]).Perm (b::a::c::d::X):=(List.perm_append_comm (l₁:=a::X) (l₂:=[b,c,d])).trans (((List.Perm.swap a d _).cons c |>.trans (List.Perm.swap a c _)).cons b)
set_option maxHeartbeats 4000000 in
theorem Du (E:pZ) (wb:Nat) (m:dD) (run:List aJ) (hq:cu (some m) run) (hr:run.length≤1000000) (i:Nat) (x:aJ) (hx:run[i]?=some x) (r:bh) (ho:r.Out.length≤1000000):AC Tryz.prog 191 [dA wb,aF i,.imm 1 (aW r.Out)] (jQ wb E (some m) run) fun _ L=>∃q',cu q' (fC r i run)∧L=jQ wb E q' (fC r i run):=by
 refine aN Tryz.func191 rfl Tryz.ntmps191 rfl fun B=>?_
 have hil:=(Ko hx).1
 have hol:=bb r.Out
 obtain ⟨h1,h2,h3⟩:=hq.fit m rfl
 have hfl:=co run
 have hmv:fC r i run=if run.length - 1+r.Out.length > 500∧1 < r.Out.length then run else run.take i++pU x r.Out++run.drop (i+1):=by
  unfold fC
  rw [hx]
  rfl
 have hit:=r9 m.junk hx
 unfold maxLen at h2
 repeat' (first|refine L3 ?_|refine KG a4 HY ?_|(apply bo;first|refine KM a4 0 KC ?_|refine KM a4 1 KC ?_|refine KM a4 2 KC ?_|refine KM a4 3 KC ?_|refine KN a4 0 KC ?_|refine KN a4 1 KC ?_|refine KN a4 2 KC ?_|refine KO a4 1 KA (by assumption) rfl ?_|refine KO a4 0 KA (by assumption) rfl ?_|fail)|(apply aU;refine aT ?_)|fail)
 refine ce [0,1,2] (run.length - 1+r.Out.length > 500∧1 < r.Out.length) rfl (fun Q' K=>?_) (fun hC=>?_) (fun hC=>?_)
 ·repeat' (first|refine L3 ?_|refine KG a4 HY ?_|refine KR HY ?_|refine KV KB ?_|refine KW KA (fun _=>?_) (fun _=>?_))
  all_goals exact K _ _ rfl rfl (by simp_all <;> omega)
 ·rw [if_pos hC] at hmv
  repeat' (first|refine L3 ?_|fail)
  exact jt rfl ⟨some m,by rw [hmv];exact hq,by rw [hmv]⟩
 rw [if_neg hC] at hmv
 repeat' (first|refine L3 ?_|fail)
 refine dC [.cell (wb,1,cM (some m) run)] 17 [(0,.v),(1,.v),(2,.v),(3,.l),(4,.v),(5,.v),(6,.l),(7,.v),(8,.v),(9,.v),(10,.k),(11,.v),(12,.v),(13,.v),(14,.a),(15,.f),(16,.v)] none ?_ trivial rfl (by kernel_rfl) (by kernel_rfl) (by kernel_rfl) bI (by kernel_rfl) rfl
 repeat' (first|refine aB ?_|refine aX a4 ?_|refine KY a4 0 KB (by first|trivial|rfl) ?_)
 refine cR a4 rfl rfl rfl ⟨by omega,by omega⟩ trivial ?_
 repeat' (first|refine aB ?_|fail)
 refine qc a4 1 rfl rfl rfl (Nat.ble_eq_true_of_le (by rw [Int.toNat_natCast];simp;omega)) trivial ?_
 rw [hit]
 repeat' (first|refine aB ?_|refine aX a4 ?_|fail)
 refine dY a4 0 rfl rfl rfl (nJ 0 rfl rfl) trivial ?_
 repeat' (first|refine aB ?_|refine aX a4 ?_|(apply dz;refine eL ?_)|fail)
 refine iJ a4 (i+1) rfl rfl rfl (by omega) (by omega) h1 trivial ?_
 repeat' (first|refine aB ?_|fail)
 refine Cv a4 rfl rfl trivial fun ib=>?_
 repeat' (first|refine aB ?_|fail)
 refine Cy a4 0 rfl rfl rfl rfl rfl rfl rfl (nJ 1 rfl rfl) trivial fun _=>?_
 repeat' (first|refine aB ?_|refine aX a4 ?_|fail)
 refine KU [0,1,2,7,8] HY ?_
 repeat' (first|refine L3 ?_|refine a7 ?_|refine KG a4 HY ?_|(apply bo;first|refine KM a4 0 KC ?_|refine KM a4 1 KC ?_|refine KM a4 2 KC ?_|refine KM a4 3 KC ?_|refine KN a4 0 KC ?_|refine KN a4 1 KC ?_|refine KN a4 2 KC ?_|refine KO a4 1 KA (by assumption) rfl ?_|refine KO a4 0 KA (by assumption) rfl ?_|fail)|fail)
 refine HC a4 i rfl rfl rfl rfl rfl rfl (by omega) rfl ?_
 repeat' (first|refine KG a4 HY ?_|(apply aU;refine aT ?_)|fail)
 have hfll:(bB run++m.junk).length=run.length * 6+m.junk.length:=by rw [List.length_append,hfl]
 have hti:=mi run m.junk (Nat.le_of_lt hil)
 have hgr:=D0 m.rb i (r.Out.length+(run.length - (i+1))) (bB run++m.junk) (by omega) (by omega) (by omega)
 refine aP (aI (L':=(m.rb,.box (bB run++m.junk) 67)::[(wb,.box [.iptr (eC E),cM (some m) run] 102),dN,(ib,.box (bO x) 67)]) ?_) ?_
 ·exact JF
 refine b6 [(m.rb,.box (bB run++m.junk) 67)] [(wb,.box [.iptr (eC E),cM (some m) run] 102),dN,(ib,.box (bO x) 67)] hgr rfl (by rw [hol];rfl) (Lz _) rfl fun c L1 hp=>?_
 obtain ⟨db,dcs,dcap,X,hc,hL,hd1,hd2,hd3,nE,hX⟩:∃db dcs dcap X,c= .sc (.slice (some ⟨db,0,none⟩) i dcap)∧L1=(db,.box dcs 67)::X∧dcap * 6≤dcs.length∧dcs.take (i * 6)=bB (run.take i)∧i+(r.Out.length+(run.length - (i+1)))≤dcap∧dcap≤maxLen∧(r.Out.length+(run.length - (i+1))=0∨X=[(m.rb,.box (bB run++m.junk) 67)]):=by
  rcases hp with ⟨h0,hc,hL⟩ | ⟨h0,b',cs',cap',hc,h4,h5,h6,h7,hL⟩
  ·exact ⟨m.rb,_,i,[],hc,hL,by omega,hti,by omega,by unfold maxLen;omega,.inl h0⟩
  ·exact ⟨b',cs',cap',_,hc,hL,h4,by rw [h5,hti],h6,h7,.inr rfl⟩
 subst hc;subst hL
 unfold maxLen at nE
 refine aP (aI (L':=(wb,.box [.iptr (eC E),cM (some m) run] 102)::(db,.box dcs 67)::dN::(ib,.box (bO x) 67)::X) ?_) ?_
 ·exact JG
 repeat' (first|refine L3 ?_|refine ak ?_|refine KG a4 HY ?_)
 refine aR [0,7,8,59,60] (α:=Nat×Int×List AV) (fun s=>[(61,aF s.1),(9,.sc (.slice (some ⟨db,0,none⟩) (i+s.1:Nat) dcap))]) (fun s=>s.1≤r.Out.length∧dcap * 6≤s.2.2.length∧s.2.2.take ((i+s.1) * 6)=bB (run.take i++pU x (r.Out.take s.1))) (fun s=>(wb,.box [.iptr (eC E),cM (some m) run] 102)::(db,.box s.2.2 67)::dN::(ib,.box (bO { x with Glyph:=s.2.1 }) 67)::X) (fun s=>r.Out.length - s.1) (0,x.Glyph,dcs) rfl ⟨rfl,rfl,trivial⟩ ⟨Nat.zero_le _,hd1,by simpa [pU] using hd2⟩ (fun _ _ h=>h) ?_
 rintro ⟨k,g,cs⟩ ⟨hk,hcl,hct⟩
 dsimp only at hk hcl hct ⊢
 try dsimp only [Kr,Kq,Kp,Lv]
 repeat' (first|refine L3 ?_|refine KG a4 HY ?_)
 refine aw rfl (fun h=>?_) (fun h=>?_)
 ·have hk2:k < r.Out.length:=by have:=Ky h;omega
  obtain ⟨y,hy⟩:∃z,r.Out[k]?=some z:=⟨_,Kz hk2⟩
  have hyg:=bP hy
  clear h
  repeat' (first|refine L3 ?_|refine ak ?_|refine KG a4 HY ?_|(apply aQ;first|refine aO a4 ?_|refine aG a4 ?_)|(apply aM;first|refine KH a4 0 KE ?_|refine KH a4 1 KE ?_|refine KH a4 2 KE ?_|refine KH a4 3 KE ?_|fail))
  refine KN a4 3 KC ?_
  repeat' (first|refine bW a4 ?_|fail)
  refine k9 a4 1 rfl rfl rfl rfl (wl rfl rfl) rfl hcl (by omega) (by unfold maxLen;omega) (by simp;unfold maxLen;omega) (by simp;omega) rfl fun b' cs' cap' e1 e2 e3 e4 e5=>?_
  obtain ⟨e6,e7,e8⟩:=e5 (by simp;omega)
  subst e6;subst e7
  refine aP (aI FO) ?_
  repeat' (first|refine L3 ?_|refine KG a4 HY ?_|(apply aU;refine aT ?_)|fail)
  refine aD (k+1,y,cs') rfl ⟨by rw [Kv];rfl,rfl,trivial⟩ ⟨hk2,e1,?_⟩ (by dsimp only;omega) (fun _ _ h=>h)
  rw [←Nat.add_assoc]
  refine e2.trans ?_
  rw [hct,show r.Out.take (k+1)=r.Out.take k++[y] by rw [List.take_add_one,hy];rfl]
  unfold pU
  rw [List.map_append,←List.append_assoc]
  refine Eq.trans ?_ (gi _ _).symm
  rfl
 ·have hke:k=r.Out.length:=by have:=Kx h;omega
  subst hke
  rw [List.take_length] at hct
  have hsrc:∀fr y B,br fr y=some (.sc (.slice (some ⟨m.rb,if m.cap=i+1 then 0 else (i+1) * 6,none⟩) (run.length - (i+1)) (m.cap - (i+1))))→qw fr B ((wb,.box [.iptr (eC E),cM (some m) run] 102)::(db,.box cs 67)::dN::(ib,.box (bO { x with Glyph:=g }) 67)::X) y 6 (run.length - (i+1)) (bB (run.drop (i+1))):=by
   intro fr y B hy
   by_cases hz:run.length - (i+1)=0
   ·rw [hz] at hy ⊢
    rw [List.drop_eq_nil_of_le (by omega)]
    exact tx hy
   ·rcases hX with hX | hX
    ·omega
    ·subst hX
     have hs:=od (B:=B) (sz:=6) (L:=(wb,.box [.iptr (eC E),cM (some m) run] 102)::(db,.box cs 67)::dN::(ib,.box (bO { x with Glyph:=g }) 67)::[(m.rb,.box (bB run++m.junk) 67)]) 4 hy rfl (by split <;> omega)
     rw [if_neg (by omega),oP run m.junk hil] at hs
     exact hs
  repeat' (first|refine L3 ?_|refine KG a4 HY ?_)
  refine k9 a4 1 rfl rfl rfl rfl (hsrc _ _ _ rfl) rfl hcl (by omega) (by unfold maxLen;omega) (by unfold maxLen;omega) (by omega) rfl fun b' cs' cap' e1 e2 e3 e4 e5=>?_
  obtain ⟨e6,e7,e8⟩:=e5 (by omega)
  subst e6;subst e7
  refine aP (aI FO) ?_
  repeat' (first|refine L3 ?_|refine KG a4 HY ?_|(apply aM;first|refine KH a4 0 KE ?_|refine KH a4 1 KE ?_|refine KH a4 2 KE ?_|refine KH a4 3 KE ?_|fail))
  have hrun:fC r i run=run.take i++pU x r.Out++run.drop (i+1):=hmv
  have hlen:(fC r i run).length=i+r.Out.length+(run.length - (i+1)):=by
   rw [hrun,List.length_append,List.length_append,List.length_take,List.length_drop,rP]
   omega
  have hfl2:=co (fC r i run)
  have hcs:cs'=bB (fC r i run)++cs'.drop ((i+r.Out.length+(run.length - (i+1))) * 6):=by
   conv=>lhs;rw [←List.take_append_drop ((i+r.Out.length+(run.length - (i+1))) * 6) cs',e2,hct]
   rw [hrun,gi _ (run.drop (i+1))]
  refine dH (L':=[(wb,.box [.iptr (eC E),.sc (.slice (some ⟨b',0,none⟩) (i+r.Out.length+(run.length - (i+1)):Nat) cap')] 102),(b',.box cs' 67),dN]) (.cons_cons _ (.cons_cons _ (.cons_cons _ (List.nil_sublist _)))) ?_
  refine ca rfl ⟨some ⟨b',cap',cs'.drop ((i+r.Out.length+(run.length - (i+1))) * 6)⟩,⟨fun h=>(by cases h),fun m' hm'=>?_⟩,?_⟩
  ·cases hm'
   refine ⟨by rw [hlen];dsimp only;omega,by dsimp only;unfold maxLen;omega,?_⟩
   dsimp only
   rw [←hcs]
   exact e1
  ·unfold cM fP
   dsimp only
   rw [hlen,←hcs]
   rfl
theorem xk {run:List aJ} {i:Nat} (hi:i < run.length):bB (run.eraseIdx i)=bB (run.take i)++bB (run.drop (i+1)):=by
 rw [List.eraseIdx_eq_take_drop_succ,gi]
set_option maxHeartbeats 2000000 in
theorem sS (b cap:Nat) (run:List aJ) (junk:List AV) (i:Nat) (hi:i < run.length) (hc:run.length≤cap) (hm:cap≤maxLen) (hf:cap * 6≤(bB run++junk).length) (hr:run.length≤1000000):AC Tryz.prog 260 [.sc (.slice (some ⟨b,0,none⟩) run.length cap),aF i,aF ((i:Int)+1)] [(b,.box (bB run++junk) 67)] fun c L=>
  c= .sc (.slice (some ⟨b,0,none⟩) (run.eraseIdx i).length cap)∧∃junk',cap * 6≤(bB (run.eraseIdx i)++junk').length∧L=[(b,.box (bB (run.eraseIdx i)++junk') 67)]:=by
 refine aN Tryz.func260 rfl Tryz.ntmps260 rfl fun B=>?_
 have hfl:=co run
 have hel:=List.length_eraseIdx_of_lt hi
 unfold maxLen at hm
 have hsrc:∀fr y B,br fr y=some (.sc (.slice (some ⟨b,if cap=i+1 then 0 else (i+1) * 6,none⟩) (run.length - (i+1)) (cap - (i+1))))→qw fr B [(b,.box (bB run++junk) 67)] y 6 (run.length - (i+1)) (bB (run.drop (i+1))):=by
  intro fr y B hy
  by_cases hz:run.length - (i+1)=0
  ·rw [hz] at hy ⊢
   rw [List.drop_eq_nil_of_le (by omega)]
   exact tx hy
  ·have hs:=od (B:=B) (sz:=6) (L:=[(b,.box (bB run++junk) 67)]) 0 hy rfl (by split <;> omega)
   rw [if_neg (by omega),oP run junk hi] at hs
   exact hs
 repeat' (first|refine L3 ?_|refine KG a4 HY ?_)
 refine HB a4 i (i+1) run.length rfl rfl rfl rfl rfl (by omega) rfl rfl (by omega) hi hc rfl ?_
 repeat' (first|refine L3 ?_|refine KG a4 HY ?_)
 refine aw rfl (fun h=>?_) (fun _=>?_)
 ·have:=Ky h
  omega
 repeat' (first|refine L3 ?_|refine KG a4 HY ?_)
 refine bn 6 [(0,.v),(1,.v),(2,.v),(3,.v),(4,.v),(5,.v)] none ?_ trivial rfl (by kernel_rfl) (by kernel_rfl) (by kernel_rfl) bI (by kernel_rfl) rfl
 repeat' (first|refine aB ?_|refine aX a4 ?_|fail)
 refine yD a4 i rfl rfl rfl rfl (by omega) trivial ?_
 repeat' (first|refine aB ?_|refine aX a4 ?_|fail)
 refine iJ a4 (i+1) rfl rfl rfl (by omega) hi hc trivial ?_
 repeat' (first|fail)
 refine KU [7,22,25] HY ?_
 repeat' (first|fail)
 refine k9 a4 0 rfl rfl rfl rfl (hsrc _ _ _ rfl) rfl hf (by omega) (by unfold maxLen;omega) (by unfold maxLen;omega) (by omega) rfl fun b' cs' cap' e1 e2 e3 e4 e5=>?_
 obtain ⟨e6,e7,e8⟩:=e5 (by omega)
 subst e6;subst e7
 repeat' (first|refine L3 ?_|refine KG a4 HY ?_)
 have hn1:i+(run.length - (i+1))=(run.eraseIdx i).length:=by omega
 rw [hn1] at e2 ⊢
 refine Dy a4 (run.eraseIdx i).length run.length rfl rfl rfl rfl rfl rfl (by omega) hc rfl ?_
 repeat' (first|fail)
 have hcl:cap' * 6≤cs'.length:=e1
 have hce:cs'.take ((run.eraseIdx i).length * 6)=bB (run.eraseIdx i):=by
  rw [e2,mi run junk (by omega),xk hi]
 refine rC a4 0 (m:=(run.eraseIdx i).length) rfl rfl rfl rfl (.inl rfl) rfl ?_ fun cs2 g1 g2=>?_
 ·have h1:(run.eraseIdx i).length * 6+(run.length - (run.eraseIdx i).length) * 6=run.length * 6:=by omega
  rw [h1]
  omega
 repeat' (first|refine L3 ?_|refine KG a4 HY ?_)
 refine KP HY ⟨rfl,cs2.drop ((run.eraseIdx i).length * 6),?_⟩
 have hj:bB (run.eraseIdx i)++cs2.drop ((run.eraseIdx i).length * 6)=cs2:=by
  rw [←hce,←g2,List.take_append_drop]
 rw [hj]
 exact ⟨by omega,rfl⟩
section
variable {ms:List Bool} {ls:List aL} {l:aL} {run:List aJ} {forms:List Int}
theorem wR {n:Int} (h:n < 0∨(ls.length:Int)≤n):cK ms ls n run forms=run:=by
 unfold cK
 by_cases h1:n < 0
 ·rw [if_pos h1]
 ·rw [if_neg h1,List.getElem?_eq_none (by omega)]
end
structure K7 (run:List aJ):Prop where
 len:run.length≤500
 mono:run.Pairwise fun a b=>a.Cluster≤b.Cluster
theorem iQ:∀{q:List Nat} {run:List aJ},(ee q run).Sublist run
 | [],_=>List.Sublist.refl _
 | p::q,run=>by rw [ee];exact (List.eraseIdx_sublist ..).trans iQ
end Go.Proofs.YtpmdfoaadejmkaaGreatDoor
namespace Go.Proofs.YtpmdfoaadejmkaaGreatDoor
open Go.RowKit
attribute [local irreducible] AT bJ AX AO Av Kt bi dq DA cG
theorem qW {R:List aJ}:∀{l:List Nat} {j:Nat},l.Pairwise (· < ·)→(∀z∈l,j < z∧z < R.length)→j < R.length→j < (ee l R).length
  | [],_,_,_,hj=>hj
  | z::l,j,hs,hl,hj=>by
    obtain ⟨h1,h2⟩:=List.pairwise_cons.1 hs
    have hz:=hl z (by simp)
    have:=qW (j:=z) h2 (fun y hy=>⟨h1 y hy,(hl y (by simp [hy])).2⟩) hz.2
    rw [ee,List.length_eraseIdx_of_lt this]
    omega
theorem oW:∀{l:List Nat} {run:List aJ} {c:Int},eI run l c≤c
 | [],_,_=>Int.le_refl _
 | p::l,run,c=>by
  have:=oW (l:=l) (run:=run) (c:=lQ run c p)
  have h2:lQ run c p≤c:=by unfold lQ;split <;> omega
  unfold eI at this ⊢
  rw [List.foldl_cons]
  omega
theorem qm {wb:Nat} {E:pZ} {m:dD} {run:List aJ} {p:Nat} {y:aJ}:eZ (jQ wb E (some m) run) 1 (.box (bB (run.set p y)++m.junk) 67)=jQ wb E (some m) (run.set p y):=by
 show [(wb,AB.box [.iptr (eC E),.sc (.slice (some ⟨m.rb,0,none⟩) run.length m.cap)] 102),(m.rb,.box (bB (run.set p y)++m.junk) 67),dN]=[(wb,AB.box [.iptr (eC E),.sc (.slice (some ⟨m.rb,0,none⟩) (run.set p y).length m.cap)] 102),(m.rb,.box (bB (run.set p y)++m.junk) 67),dN]
 rw [List.length_set]
theorem yu {B:Bs} {σ:cr} {w:World} {wb:Nat} {E:pZ} {m:dD} {run:List aJ} {p:Nat} {y:aJ} (h:di B σ (eZ (jQ wb E (some m) run) 1 (.box (bB (run.set p y)++m.junk) 67)) w):di B σ (jQ wb E (some m) (run.set p y)) w:=qm▸h
theorem cu.set {m:dD} {run:List aJ} (h:cu (some m) run) (p:Nat) (y:aJ):cu (some m) (run.set p y):=⟨fun e=>(by cases e),fun m' e=>by
 cases e
 obtain ⟨h1,h2,h3⟩:=h.fit m rfl
 rw [List.length_append,co] at h3 ⊢
 rw [List.length_set]
 exact ⟨h1,h2,h3⟩⟩
theorem JD {a b c:Nat×AB}:[a,b,c].Perm ([b]++[a,c]):=List.Perm.swap ..
set_option maxHeartbeats 4000000 in
theorem FA (E:pZ) (wb:Nat) (m:dD) (run:List aJ) (hq:cu (some m) run) (hr:run.length≤1000000) (p:Nat) (q:List Nat) (hp:∀j∈p::q,j < run.length) (hs:(p::q).Pairwise (· < ·)) (x:aJ) (hx:run[p]?=some x) (r:bh) (g:Int) (gs:List Int) (hg:r.Out=g::gs):AC Tryz.prog 192 [dA wb,.imm 1 (bQ (p::q)),aF g] (jQ wb E (some m) run) fun _ L=>∃q',cu q' (j5 r (p::q) run)∧L=jQ wb E q' (j5 r (p::q) run):=by
  refine aN Tryz.func192 rfl Tryz.ntmps192 rfl fun B=>?_
  refine cW 1 rfl rfl fun hlen=>?_
  have hil:=(Ko hx).1
  have hnl:=f8 (p::q)
  rw [hnl] at hlen
  have hql:q.length+1≤9223372036854775807:=hlen
  obtain ⟨h1,h2,h3⟩:=hq.fit m rfl
  have hfl:=co run
  have hlv:j5 r (p::q) run=ee q (run.set p { x with Glyph:=g,Cluster:=eI run (p::q) x.Cluster }):=by
    unfold j5
    rw [hg]
    dsimp only
    rw [hx]
  rw [hlv]
  have hflj:∀y:aJ,(bB (run.set p y)++m.junk).length=(bB run++m.junk).length:=fun y=>by rw [List.length_append,co,List.length_set,List.length_append,hfl]
  have hp0:(bQ (p::q))[(0:Int).toNat]?=some [aF p]:=rfl
  have hst:=fQ (j:=0) { x with Glyph:=g } (aF g) m.junk hx (by omega) rfl
  repeat' (first|refine L3 ?_|fail)
  refine bn 7 [(0,.v),(1,.v),(2,.v),(3,.l),(4,.v),(5,.v),(6,.v)] none ?_ trivial rfl (by kernel_rfl) (by kernel_rfl) (by kernel_rfl) bI (by kernel_rfl) rfl
  repeat' (first|refine aB ?_|refine aX a4 ?_|(apply cm;refine cA a4 ?_)|refine KY a4 0 KB (by first|trivial|rfl) ?_)
  refine KU [0,1,2,13,16] HY ?_
  repeat' (first|refine L3 ?_|refine a7 ?_|refine KG a4 HY ?_|(apply aQ;first|refine aO a4 ?_|refine aG a4 ?_)|fail)
  refine KZ a4 1 KD (Nat.ble_eq_true_of_le (by rw [Int.toNat_natCast];simp;omega)) ?_
  rw [hst]
  repeat' (first|refine L3 ?_|refine ak ?_|refine KG a4 HY ?_)
  refine aR [0,1,6,22,23] (α:=Nat) (fun k=>[(24,aF k)]) (fun k=>k≤(p::q).length) (fun k=>jQ wb E (some m) (run.set p { x with Glyph:=g,Cluster:=eI run ((p::q).take k) x.Cluster })) (fun k=>(p::q).length - k) 0 rfl ⟨rfl,trivial⟩ (Nat.zero_le _) (fun _ _ h=>yu h) fun k hk=>?_
  · try dsimp only [Kr,Kq,Kp,Lv]
    repeat' (first|refine L3 ?_|refine KG a4 HY ?_)
    refine aw rfl (fun h=>?_) (fun h=>?_)
    · have hk2:k < (p::q).length:=by have:=Ky h;omega
      obtain ⟨j,hj⟩:∃z,(p::q)[k]?=some z:=⟨_,Kz hk2⟩
      have hjg:(bQ (p::q))[k]?=some [aF j]:=by unfold bQ;exact bP (by rw [List.getElem?_map,hj];rfl)
      have hjl:=hp j (Kw hj)
      obtain ⟨y,hy⟩:∃z,run[j]?=some z:=⟨_,Kz hjl⟩
      have htk:(p::q).take (k+1)=(p::q).take k++[j]:=by rw [List.take_add_one,hj];rfl
      have hle:=oW (l:=(p::q).take k) (run:=run) (c:=x.Cluster)
      have hnew:eI run ((p::q).take (k+1)) x.Cluster=min (eI run ((p::q).take k) x.Cluster) y.Cluster:=by
        unfold eI
        rw [htk,List.foldl_append]
        show lQ run _ j=_
        unfold lQ
        rw [hy]
      generalize eI run ((p::q).take k) x.Cluster=c at *
      have hxp:(run.set p { x with Glyph:=g,Cluster:=c })[p]?=some { x with Glyph:=g,Cluster:=c }:=List.getElem?_set_self hil
      obtain ⟨y2,hy2,hyc⟩:∃y2,(run.set p { x with Glyph:=g,Cluster:=c })[j]?=some y2∧min c y2.Cluster=min c y.Cluster:=by
        by_cases hjp:j=p
        · subst hjp
          rw [hx] at hy
          cases hy
          exact ⟨_,hxp,by dsimp only;omega⟩
        · exact ⟨y,by rw [List.getElem?_set_ne (fun e=>hjp e.symm)];exact hy,rfl⟩
      have hf1:=ic (j:=1) m.junk hxp rfl
      have hf2:=ic (j:=1) m.junk hy2 rfl
      have hst2:=fQ (j:=1) { x with Glyph:=g,Cluster:=min c y2.Cluster } (aF (min c y2.Cluster)) m.junk hxp (by omega) rfl
      have hsl:(run.set p { x with Glyph:=g,Cluster:=c }).length=run.length:=List.length_set ..
      have hfl2:=hflj { x with Glyph:=g,Cluster:=c }
      clear h
      repeat' (first|refine L3 ?_|refine ak ?_|refine KG a4 HY ?_|(apply aQ;first|refine aO a4 ?_|refine aG a4 ?_)|fail)
      refine bn 14 [(0,.v),(1,.v),(2,.v),(3,.v),(4,.l),(5,.v),(6,.v),(7,.v),(8,.l),(9,.v),(10,.v),(11,.v),(12,.l),(13,.v)] none ?_ trivial rfl (by kernel_rfl) (by kernel_rfl) (by kernel_rfl) bI (by kernel_rfl) rfl
      repeat' (first|refine aB ?_|refine aX a4 ?_|fail)
      refine bN a4 1 rfl rfl rfl hf1 trivial ?_
      repeat' (first|refine aB ?_|refine aX a4 ?_|refine KY a4 0 KB (by first|trivial|rfl) ?_)
      refine cR a4 rfl rfl rfl ⟨by omega,by omega⟩ trivial ?_
      repeat' (first|refine aB ?_|refine aX a4 ?_|fail)
      refine bN a4 1 rfl rfl rfl hf2 trivial ?_
      repeat' (first|refine aB ?_|refine aX a4 ?_|fail)
      refine KU [0,1,6,22,23,24,28,41] HY ?_
      repeat' (first|refine KG a4 HY ?_)
      refine KZ a4 1 KD (Nat.ble_eq_true_of_le (by rw [Int.toNat_natCast];simp only [hfl2];simp;omega)) ?_
      rw [hst2]
      repeat' (first|refine L3 ?_|refine KG a4 HY ?_|(apply aU;refine aT ?_)|fail)
      refine aD (k+1) rfl ⟨by rw [Kv];rfl,trivial⟩ (by omega) (by omega) (fun _ _ h=>?_)
      have h4:=yu h
      rw [List.set_set] at h4
      rw [hnew,←hyc]
      exact h4
    · have hke:k=(p::q).length:=by have:=Kx h;omega
      subst hke
      rw [List.take_length]
      clear h
      have hR:(run.set p { x with Glyph:=g,Cluster:=eI run (p::q) x.Cluster }).length=run.length:=List.length_set ..
      have hqR:=hq.set p { x with Glyph:=g,Cluster:=eI run (p::q) x.Cluster }
      generalize run.set p { x with Glyph:=g,Cluster:=eI run (p::q) x.Cluster }=R at *
      obtain ⟨g1,g2,g3⟩:=hqR.fit m rfl
      repeat' (first|refine L3 ?_|refine ak ?_|refine KG a4 HY ?_|(apply aU;refine aT ?_)|fail)
      refine aR [0,1] (α:=Nat×List AV) (fun s=>[(9,aF s.1)]) (fun s=>s.1≤q.length∧m.cap * 6≤(bB (ee (q.drop s.1) R)++s.2).length) (fun s=>jQ wb E (some ⟨m.rb,m.cap,s.2⟩) (ee (q.drop s.1) R)) (fun s=>s.1) (q.length,m.junk) rfl ⟨by rw [hnl];simp;rfl,trivial⟩ ⟨Nat.le_refl _,by rw [List.drop_length];exact g3⟩ (fun _ _ h=>by rw [List.drop_length];exact h) ?_
      rintro ⟨n,junk⟩ ⟨hn,hj⟩
      dsimp only at hn hj ⊢
      try dsimp only [Kr,Kq,Kp,Lv]
      repeat' (first|refine L3 ?_|refine KG a4 HY ?_)
      refine aw rfl (fun h=>?_) (fun h=>?_)
      · have hn0:0 < n:=by have:=Ky h;omega
        obtain ⟨k,rfl⟩:∃k,n=k+1:=⟨n - 1,by omega⟩
        obtain ⟨z,hz⟩:∃z,q[k]?=some z:=⟨_,Kz (by omega)⟩
        have hzg:(bQ (p::q))[((k+1:Nat):Int).toNat]?=some [aF z]:=by rw [Int.toNat_natCast];unfold bQ;exact bP (by rw [Kp,List.getElem?_cons_succ,List.getElem?_map,hz];rfl)
        have hqd:q.drop k=z::q.drop (k+1):=by rw [List.drop_eq_getElem_cons (by omega),(Ko hz).2]
        have hqp:=(List.pairwise_cons.1 hs).2
        have hdp:(z::q.drop (k+1)).Pairwise (· < ·):=by rw [←hqd];exact hqp.sublist (List.drop_sublist ..)
        obtain ⟨d1,d2⟩:=List.pairwise_cons.1 hdp
        have hqm:∀y∈q,y < R.length:=fun y hy=>by rw [hR];exact hp y (by simp [hy])
        have hzl:=qW (R:=R) d2 (fun y hy=>⟨d1 y hy,hqm y (List.mem_of_mem_drop hy)⟩) (hqm z (Kw hz))
        have hdl:(ee (q.drop (k+1)) R).length≤R.length:=iQ.length_le
        have hdel:=sS m.rb m.cap (ee (q.drop (k+1)) R) junk z hzl (by omega) h2 hj (by omega)
        have her:(ee (q.drop (k+1)) R).eraseIdx z=ee (q.drop k) R:=by rw [hqd];rfl
        rw [her] at hdel
        clear h
        repeat' (first|refine L3 ?_|refine ak ?_)
        refine bn 15 [(0,.v),(1,.v),(2,.v),(3,.v),(4,.l),(5,.v),(6,.v),(7,.v),(8,.v),(9,.v),(10,.v),(11,.v),(12,.v),(13,.v),(14,.e)] none ?_ trivial rfl (by kernel_rfl) (by kernel_rfl) (by kernel_rfl) bI (by kernel_rfl) rfl
        repeat' (first|refine aB ?_|refine aX a4 ?_|(apply dz;refine eL ?_)|(apply cm;refine cA a4 ?_)|refine KY a4 0 KB (by first|trivial|rfl) ?_)
        refine fG [(m.rb,.box (bB (ee (q.drop (k+1)) R)++junk) 67)] [(wb,.box [.iptr (eC E),cM (some ⟨m.rb,m.cap,junk⟩) (ee (q.drop (k+1)) R)] 102),dN] hdel rfl rfl JD trivial fun c L1 ⟨hc,junk',hj',hL⟩=>?_
        subst hc;subst hL
        repeat' (first|fail)
        refine KU [0,1,9,52,66] HY ?_
        refine aP (aI FO) ?_
        repeat' (first|refine L3 ?_|refine KG a4 HY ?_|(apply aU;refine aT ?_)|(apply aM;first|refine KH a4 0 KE ?_|refine KH a4 1 KE ?_|refine KH a4 2 KE ?_|refine KH a4 3 KE ?_|fail))
        refine aD (k,junk') rfl ⟨?_,trivial⟩ ⟨by omega,hj'⟩ (by dsimp only;omega) (fun _ _ h=>h)
        show some (aF (((k+1:Nat):Int) - 1))=some (aF (k:Int))
        rw [show ((k+1:Nat):Int) - 1=(k:Int) by omega]
      · have hn0:n=0:=by have:=Kx h;omega
        subst hn0
        rw [List.drop_zero] at hj ⊢
        clear h
        repeat' (first|refine L3 ?_|fail)
        have hdl:=(iQ (q:=q) (run:=R)).length_le
        have hok:cu (some ⟨m.rb,m.cap,junk⟩) (ee q R):=⟨fun e=>(by cases e),fun m' e=>by
          cases e
          exact ⟨by dsimp only;omega,h2,hj⟩⟩
        exact ca rfl ⟨some ⟨m.rb,m.cap,junk⟩,hok,rfl⟩
end Go.Proofs.YtpmdfoaadejmkaaGreatDoor
