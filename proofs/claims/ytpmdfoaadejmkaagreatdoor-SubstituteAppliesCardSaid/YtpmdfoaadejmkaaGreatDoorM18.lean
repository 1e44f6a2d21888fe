/-
  An engine's match.
-/
import Derived.Test.YtpmdfoaadejmkaaGreatDoorM13
import Derived.Test.YtpmdfoaadejmkaaGreatDoorM17
import Derived.Test.YtpmdfoaadejmkaaGreatDoorM12
import Derived.Test.YtpmdfoaadejmkaaGreatDoorM05
import Derived.Test.YtpmdfoaadejmkaaGreatDoorM14
namespace Go.Proofs.YtpmdfoaadejmkaaGreatDoor
open Go.RowKit
attribute [local irreducible] AT bI AX AO Av Kt bi dx DA cK
theorem wH (l:List Int) (z:Int):bJ Tryz.prog 190 [.imm 1 (aX l),aF z] (aF (if z∈l then (l.idxOf z:Nat) else -1)):=by
 refine aM Tryz.func190 rfl Tryz.ntmps190 rfl fun B=>?_
 refine cI 0 rfl rfl fun hlen=>?_
 have hll:=aZ l
 rw [hll] at hlen
 repeat' (first|refine Ji ?_|refine am ?_|refine JF a5 H6 ?_)
 refine aP [0,1,7] (α:=Nat) (fun i=>[(8,aF i)]) (fun i=>i≤l.length∧z∉l.take i) (fun _=>[]) (fun i=>l.length - i) 0 rfl ⟨rfl,trivial⟩ ⟨Nat.zero_le _,by simp⟩ (fun _ _ h=>h) fun i hi=>?_
 try dsimp only [Js,Jr,Jq,Jl]
 repeat' (first|refine Ji ?_|refine JF a5 H6 ?_)
 refine ar rfl (fun h=>?_) (fun h=>?_)
 ·have hil:i < l.length:=by have:=Jy h;omega
  obtain ⟨y,hy⟩:∃z,l[i]?=some z:=⟨_,Jz hil⟩
  have hzg:=bP hy
  have htk:l.take (i+1)=l.take i++[y]:=by rw [List.take_add_one,hy];rfl
  clear h
  repeat' (first|refine Ji ?_|refine am ?_|refine JF a5 H6 ?_|(apply aO;first|refine aN a5 ?_|refine aG a5 ?_)|fail)
  refine ar rfl (fun h2=>?_) (fun h2=>?_)
  ·have h2':=Jy h2
   subst h2'
   repeat' (first|refine Ji ?_|refine JF a5 H6 ?_)
   refine JL H6 ?_
   have hm:=Jw hy
   have:l.idxOf z=i:=by
    have e:l=l.take i++z::l.drop (i+1):=by
     conv=>lhs;rw [←List.take_append_drop i l,List.drop_eq_getElem_cons hil,(Jp hy).2]
    rw [e,List.idxOf_append,if_neg hi.2,List.idxOf_cons_self,List.length_take]
    omega
   rw [if_pos hm,this]
  ·have h2':=Jx h2
   repeat' (first|refine Ji ?_|refine JF a5 H6 ?_|(apply aS;refine aR ?_)|fail)
   exact aC (i+1) rfl ⟨by rw [Jv];rfl,trivial⟩ ⟨by omega,by rw [htk];simp [hi.2];exact h2'⟩ (by omega) (fun _ _ h=>h)
 ·have hil:i=l.length:=by have:=Jx h;omega
  subst hil
  rw [List.take_length] at hi
  repeat' (first|refine Ji ?_|refine JF a5 H6 ?_)
  refine JL H6 ?_
  rw [if_neg hi.2]
instance (l:List Int) (z:Int):AD Tryz.prog 190 [.imm 1 (aX l),aF z] (aF (if z∈l then (l.idxOf z:Nat) else -1)):=⟨wH l z⟩
theorem rE (l:List Int) (z:Int):bJ Tryz.prog 187 [.imm 1 (aX l),aF z] (dV (l.contains z)):=by
 refine aM Tryz.func187 rfl Tryz.ntmps187 rfl fun B=>?_
 repeat' (first|refine Ji ?_|refine JF a5 H6 ?_|(apply bz;refine bo ?_)|fail)
 refine JL H6 ?_
 congr 2
 by_cases h:z∈l
 ·rw [if_pos h,decide_eq_true (by omega)];simp [h]
 ·rw [if_neg h,decide_eq_false (by omega)];simp [h]
instance (l:List Int) (z:Int):AD Tryz.prog 187 [.imm 1 (aX l),aF z] (dV (l.contains z)):=⟨rE l z⟩
structure kN (e:po):Prop where
 few:e.l.Rules.length≤6
 ends:sZ e
 fore:∀gl,fX e.cls e.fore e.foreE gl=ck (eS (e.l.Rules.map dJ) (sg e.l.Rules) gl) (e.l.Rules.map dJ).length
 back:∀gl,fX e.cls e.back e.backE gl=ck (eS (e.l.Rules.map bc.Back) (fun _=>true) gl) (e.l.Rules.map bc.Back).length
 long:fU e.l.Rules≤1000000∧iz e.l.Rules≤1000000
section
variable {e:po} (h:kN e)
include h
theorem kN.lt (bg fg:List Int):fX e.cls e.back e.backE bg &&& fX e.cls e.fore e.foreE fg < 64:=by
 have h1:=Nat.and_le_right (n:=fX e.cls e.back e.backE bg) (m:=fX e.cls e.fore e.foreE fg)
 have h2:=mP (eS (e.l.Rules.map dJ) (sg e.l.Rules) fg) (e.l.Rules.map dJ).length
 rw [←h.fore fg,Ju] at h2
 have h3:2 ^ e.l.Rules.length≤2 ^ 6:=Nat.pow_le_pow_right (by omega) h.few
 have:(2:Nat) ^ 6=64:=rfl
 omega
theorem kN.first (ms:List Bool) (run:List aJ) (i:Nat):td (fX e.cls e.back e.backE (((lW ms e.l.Ignore run i).take (iz e.l.Rules)).map (cx run)) &&& fX e.cls e.fore e.foreE (((cH ms e.l.Ignore run i).take (fU e.l.Rules)).map (cx run)))=match e.l.Rules.findIdx? (cY ms e.l.Ignore run i) with
  | some n=>(n:Int)
  | none=> -1:=by
 have hlt:=h.lt (((lW ms e.l.Ignore run i).take (iz e.l.Rules)).map (cx run)) (((cH ms e.l.Ignore run i).take (fU e.l.Rules)).map (cx run))
 rw [h.fore,h.back] at hlt ⊢
 have ht:=wu (ms:=ms) (ig:=e.l.Ignore) (run:=run) (i:=i) (rs:=e.l.Rules) fun n=>yR (rs:=e.l.Rules) (n:=n)
 generalize (ck (eS (e.l.Rules.map bc.Back) _ _) _ &&& _)=b at ht hlt ⊢
 obtain ⟨k1,k2⟩:=wL (q:=cY ms e.l.Ignore run i) (l:=e.l.Rules) ht
 unfold td
 cases hf:e.l.Rules.findIdx? (cY ms e.l.Ignore run i) with
 | none=>rw [k2 hf];rfl
 | some n=>
  obtain ⟨k3,k4⟩:=k1 n hf
  have hn:=(List.findIdx?_eq_some_iff_getElem.1 hf).1
  have hf:=h.few
  rw [if_neg (fun e=>by rw [e,Nat.zero_testBit] at k3;cases k3)]
  exact Dm b hlt n (by omega) k3 k4
end
theorem qu:∀{ss:List (List Int)} {gl:List Int},dh ss gl=true→ss.length≤gl.length
 | [],_,_=>Nat.zero_le _
 | _::_,[],h=>by cases h
 | _::ss,_::gl,h=>by
  rw [dh,Bool.and_eq_true] at h
  have:=qu h.2
  simp;omega
theorem lu {ms:List Bool} {ig:Bool} {run:List aJ} {i:Nat} {r:bc} (h:cY ms ig run i r=true):0 < r.In.length∧r.In.length≤(cH ms ig run i).length:=by
 unfold cY at h
 rw [Bool.and_eq_true,Bool.and_eq_true] at h
 have h1:=qu h.2.1
 rw [List.length_append,Ju] at h1
 constructor
 ·have:=h.1
  cases hr:r.In with
  | nil=>rw [hr] at this;cases this
  | cons a b=>simp
 ·omega
theorem C8 {rs:List bc} {r:bc} (h:r∈rs):r.In.length≤fU rs:=by
 have:=(mW (g:=fun r:bc=>r.In.length+r.Ahead.length) (m:=0)).2 r h
 unfold fU
 omega
theorem ri {ms:List Bool} {ig:Bool} {run:List aJ} {i:Nat}:dG ms ig run true (i:Int)=cH ms ig run i:=by
 unfold dG
 rw [if_pos rfl,Int.toNat_natCast]
theorem rh {ms:List Bool} {ig:Bool} {run:List aJ} {i:Nat}:dG ms ig run false ((i:Int) - 1)=lW ms ig run i:=by
 unfold dG
 simp only [Bool.false_eq_true,if_false]
 rw [show ((i:Int) - 1+1).toNat=i by omega]
def lg (E:pp) (l:aL) (run:List aJ) (i:Nat) (forms:List Int):AV:=match dQ E.ms l run i forms with
 | none=> .tup [IC,.sc (.slice none 0 0)]
 | some r=> .tup [.iptr (bB (eY r)),.imm 1 (bW (cW E.ms l run i r))]
abbrev jn (wb:Nat) (E:pp) (q:Option gc) (run:List aJ):AL:=vI wb (.iptr (ei E)) q run++[dU]
set_option maxHeartbeats 4000000 in
theorem qO (E:pp) (e:po) (he:kN e) (wb:Nat) (q:Option gc) (run:List aJ) (hq:dW q run) (hr:run.length≤1000000) (i:Nat) (hi0:i≤1000000) (forms:List Int):AC Tryz.prog 102 [g8 wb,.iptr (fA e),aF i,.imm 1 (aX forms)] (jn wb E q run) fun c L=>c=lg E e.l run i forms∧L=jn wb E q run:=by
 refine aM Tryz.func102 rfl Tryz.ntmps102 rfl fun B=>?_
 have hfl:=aZ forms
 refine cI 3 rfl rfl fun hlen=>?_
 by_cases hi:i < run.length
 ·obtain ⟨m,rfl⟩:=hq.lt hi
  obtain ⟨x,hx⟩:∃x,run[i]?=some x:=⟨_,Jz hi⟩
  have hse:=tU E e wb m run i x hx
  repeat' (first|refine Ji ?_|refine JF a5 H6 ?_|refine JN H6 ?_|(apply bE;first|refine JI a5 0 JC ?_|refine JI a5 1 JC ?_|refine JI a5 2 JC ?_|refine JI a5 3 JC ?_|refine JJ a5 0 JC ?_|refine JJ a5 1 JC ?_|refine JJ a5 2 JC ?_|refine JK a5 1 JA (by assumption) rfl ?_|refine JK a5 0 JA (by assumption) rfl ?_|fail)|fail)
  refine bX [0,1,2,3] (jJ E.ms e.l.Ignore x=false) rfl (fun Q' K=>?_) (fun hC=>?_) (fun hC=>?_)
  ·repeat' (first|refine Ji ?_|refine JF a5 H6 ?_|refine JN H6 ?_|refine JO JB ?_|refine JR JA (fun _=>?_) (fun _=>?_))
   ·refine b8 (vI wb (.iptr (ei E)) (some m) run) [dU] hse rfl rfl (Jo _) rfl fun c L1 ⟨hc,hL⟩=>?_
    subst hc;subst hL
    repeat' (first|refine Ji ?_|refine JF a5 H6 ?_|refine JN H6 ?_)
    exact K _ _ rfl rfl (by simp)
   ·rename_i hx2
    have:=Jy hx2
    omega
  ·have hm:dQ E.ms e.l run i forms=none:=by
    unfold dQ
    rw [if_neg]
    unfold gg
    rw [hx]
    dsimp only
    rw [hC]
    simp
   unfold lg
   rw [hm]
   repeat' (first|refine Ji ?_|refine JF a5 H6 ?_)
   exact JP JA ⟨rfl,rfl⟩
  have hC:jJ E.ms e.l.Ignore x=true:=by simpa using hC
  have h2:=oO (j:=2) m.junk hx rfl
  repeat' (first|refine Ji ?_|refine JF a5 H6 ?_)
  refine bX [0,1,2] (forms≠[]∧forms.contains x.Form=false) rfl (fun Q' K=>?_) (fun hC2=>?_) (fun hC2=>?_)
  ·repeat' (first|refine Ji ?_|refine JF a5 H6 ?_|refine JN H6 ?_|refine JO JB ?_|(apply bE;first|refine JI a5 0 JC ?_|refine JI a5 1 JC ?_|refine JI a5 2 JC ?_|refine JI a5 3 JC ?_|refine JJ a5 0 JC ?_|refine JJ a5 1 JC ?_|refine JJ a5 2 JC ?_|refine JK a5 1 JA (by assumption) rfl ?_|refine JK a5 0 JA (by assumption) rfl ?_|fail)|(apply aO;first|refine aN a5 ?_|refine aG a5 ?_)|(apply bz;refine bo ?_)|refine JR JA (fun _=>?_) (fun _=>?_))
   all_goals exact K _ _ rfl rfl (by cases forms <;> simp_all)
  ·have hm:dQ E.ms e.l run i forms=none:=by
    unfold dQ
    rw [if_neg]
    unfold gg
    rw [hx]
    dsimp only
    rw [hC2.2]
    cases forms with
    | nil=>exact absurd rfl hC2.1
    | cons a b=>simp
   unfold lg
   rw [hm]
   repeat' (first|refine Ji ?_|refine JF a5 H6 ?_)
   exact JP JA ⟨rfl,rfl⟩
  have hbe:gg E.ms e.l.Ignore run i forms=true:=by
   unfold gg
   rw [hx]
   dsimp only
   rw [hC]
   cases forms with
   | nil=>rfl
   | cons a b=>cases hcc:(a::b).contains x.Form with
    | true=>rfl
    | false=>exact absurd ⟨by simp,hcc⟩ hC2
  have hmv:dQ E.ms e.l run i forms=e.l.Rules.find? (cY E.ms e.l.Ignore run i):=by
   unfold dQ
   rw [if_pos hbe]
  have s1:=yl E e wb (some m) run hq hr true i ⟨by omega,fun _=>by omega,fun h=>by cases h⟩ (by omega) (fU e.l.Rules)
  have s2:=yl E e wb (some m) run hq hr false ((i:Int) - 1) ⟨by omega,fun h=>(by cases h),fun _=>by omega⟩ (by omega) (iz e.l.Rules)
  rw [ri] at s1
  rw [rh] at s2
  have hfirst:=he.first E.ms run i
  repeat' (first|refine Ji ?_|refine JF a5 H6 ?_)
  refine b8 (vI wb (.iptr (ei E)) (some m) run) [dU] s1 rfl rfl (Jo _) rfl fun c L1 ⟨hc,hL⟩=>?_
  subst hc;subst hL
  repeat' (first|refine Ji ?_|refine JF a5 H6 ?_|(apply aS;refine aR ?_)|fail)
  refine b8 (vI wb (.iptr (ei E)) (some m) run) [dU] s2 rfl rfl (Jo _) rfl fun c L1 ⟨hc,hL⟩=>?_
  subst hc;subst hL
  repeat' (first|refine Ji ?_|refine JF a5 H6 ?_)
  refine b8 [dU] (vI wb (.iptr (ei E)) (some m) run) (yC e he.ends _ _ (he.lt _ _)) rfl rfl List.perm_append_comm rfl fun c L1 ⟨hc,hL⟩=>?_
  subst hc;subst hL
  refine aI (aQ (L':=jn wb E (some m) run) List.perm_append_comm) ?_
  rw [hfirst]
  unfold lg
  rw [hmv,qm]
  cases hfi:e.l.Rules.findIdx? (cY E.ms e.l.Ignore run i) with
  | none=>
   dsimp only [Option.bind_none]
   repeat' (first|refine Ji ?_|refine JF a5 H6 ?_|refine bC rfl ?_)
   exact JP JA ⟨rfl,rfl⟩
  | some n=>
   obtain ⟨hn,hn1,hn2⟩:=List.findIdx?_eq_some_iff_getElem.1 hfi
   obtain ⟨r,hrr⟩:∃r,e.l.Rules[n]?=some r:=⟨_,Jz hn⟩
   rw [(Jp hrr).2] at hn1
   obtain ⟨hin0,hin⟩:=lu hn1
   have hfm:=C8 (Jw hrr)
   have hrg:((jm e.l).Rules.map bB)[n]?=some (bB (eY r)):=by simp [jm,hrr]
   have hpl:((cH E.ms e.l.Ignore run i).take (fU e.l.Rules)).take r.In.length=cW E.ms e.l run i r:=by
    unfold cW
    rw [List.take_take,Nat.min_eq_left hfm]
   have hnl:=dp ((cH E.ms e.l.Ignore run i).take (fU e.l.Rules))
   rw [List.length_take] at hnl
   have hril:=cq r.In
   dsimp only [Option.bind_some]
   rw [hrr]
   dsimp only
   repeat' (first|refine Ji ?_|refine JF a5 H6 ?_|(apply aO;first|refine aN a5 ?_|refine aG a5 ?_)|refine bA rfl ?_)
   refine bw 6 [(0,.v),(1,.v),(2,.v),(3,.v),(4,.v),(5,.v)] none ?_ trivial rfl (by kernel_rfl) (by kernel_rfl) (by kernel_rfl) bR (by kernel_rfl) rfl
   repeat' (first|refine aD ?_|refine b7 a5 ?_|fail)
   refine E4 a5 r.In.length rfl rfl rfl rfl rfl rfl (by rw [show (eY r).In=r.In from rfl,hril]) (by rw [show (eY r).In=r.In from rfl,hril]) (by omega) trivial ?_
   rw [show (bW ((cH E.ms e.l.Ignore run i).take (fU e.l.Rules))).take r.In.length=bW (cW E.ms e.l run i r) by rw [←hpl];unfold bW aX;rw [←List.map_take,←List.map_take]]
   repeat' (first|refine aD ?_|refine b7 a5 ?_|fail)
   refine JQ [8,99] H6 ?_
   repeat' (first|refine Ji ?_|refine a7 ?_|refine JF a5 H6 ?_)
   exact JP JA ⟨rfl,rfl⟩
 ·have hm:dQ E.ms e.l run i forms=none:=by
   unfold dQ
   rw [if_neg]
   unfold gg
   rw [List.getElem?_eq_none (by omega)]
   exact fun h=>by cases h
  unfold lg
  rw [hm]
  repeat' (first|refine Ji ?_|refine JF a5 H6 ?_|refine JN H6 ?_|(apply bE;first|refine JI a5 0 JC ?_|refine JI a5 1 JC ?_|refine JI a5 2 JC ?_|refine JI a5 3 JC ?_|refine JJ a5 0 JC ?_|refine JJ a5 1 JC ?_|refine JJ a5 2 JC ?_|refine JK a5 1 JA (by assumption) rfl ?_|refine JK a5 0 JA (by assumption) rfl ?_|fail)|fail)
  refine bX [0,1,2,3] True rfl (fun Q' K=>?_) (fun hC=>?_) (fun hC=>absurd trivial hC)
  ·repeat' (first|fail)
   refine mt a5 rfl hq rfl rfl ?_
   repeat' (first|refine Ji ?_|refine JF a5 H6 ?_|refine JN H6 ?_|refine JO JB ?_|refine JR JA (fun _=>?_) (fun _=>?_))
   ·rename_i h
    have:=Jx h
    omega
   ·exact K _ _ rfl rfl (by simp)
  ·repeat' (first|refine Ji ?_|refine JF a5 H6 ?_)
   exact JP JA ⟨rfl,rfl⟩
end Go.Proofs.YtpmdfoaadejmkaaGreatDoor
namespace Go.Proofs.YtpmdfoaadejmkaaGreatDoor
open Go.RowKit
section
variable {P:Program} {tt:TT} {l:List Oper} {fr:c7} {fin:jO} {sk:mG} {acc:c7} {L:AL} {k:Nat} {dd:Option Tmp} {ty t:TypeId} {pos:String} {af:Array Edge} {g:Option (Nat×Bool)}
theorem BA (ok:er P tt) {zs:List Value} (hz:zI tt t=some zs) (h1:zs.all (·.oneCell')=true) (hg:iX ⟨dd,.alloc t,ty,pos,af,g⟩ acc) (h:∀b,DA P l fr fin sk ((k,.sc (.pointer (some ⟨b,0,none⟩)))::acc) ((b,.box (zs.map .sc) t)::L)):
  cK P l fr fin k .a ⟨dd,.alloc t,ty,pos,af,g⟩ sk acc L:=
 Gw (fun c L' ⟨b,_,h2⟩=>⟨[(b,_)],h2⟩) hg (fun _=>mN (eJ ok hz) h1) fun c L' ⟨b,h1,h2⟩=>by subst h1;subst h2;exact h b
end
end Go.Proofs.YtpmdfoaadejmkaaGreatDoor
namespace Go.Proofs.YtpmdfoaadejmkaaGreatDoor
open Go.RowKit
attribute [local irreducible] AT bI AX AO Av Kt bi dx DA cK
theorem kZ {run:List aJ} {i j:Nat} {x:aJ} (y:aJ) (v:AV) (junk:List AV) (h:run[i]?=some x) (hj:j < 6) (hy:aY y=(aY x).set j v):fi (c9 run++junk) (0+((i:Nat):Int).toNat * 6+j) [v]=c9 (run.set i y)++junk:=by
 rw [iR,Int.toNat_natCast,Nat.zero_add]
 have hi:=(Jp h).1
 have hl:=dm run
 rw [List.set_append,if_pos (by omega)]
 congr 1
 unfold c9
 have hm:(run.map aY)[i]?=some (aY x):=by simp [h]
 rw [uM (sz:=6) (run.map aY) i j (aY x) v (fun e he=>by obtain ⟨z,_,rfl⟩:=List.mem_map.1 he;rfl) hm hj,←hy,List.map_set]
theorem o7 (run:List aJ) (junk:List AV) {k:Nat} (h:k≤run.length):(c9 run++junk).take (k * 6)=c9 (run.take k):=by
 have e:c9 run=c9 (run.take k)++c9 (run.drop k):=by rw [←iw,List.take_append_drop]
 have hl:=dm (run.take k)
 rw [List.length_take,Nat.min_eq_left h] at hl
 rw [e,List.append_assoc,←hl,List.take_left]
theorem se (run:List aJ) (junk:List AV) {k:Nat} (h:k≤run.length):((c9 run++junk).drop (k * 6)).take ((run.length - k) * 6)=c9 (run.drop k):=by
 have e:c9 run=c9 (run.take k)++c9 (run.drop k):=by rw [←iw,List.take_append_drop]
 have hl:=dm (run.take k)
 rw [List.length_take,Nat.min_eq_left h] at hl
 have hl2:=dm (run.drop k)
 rw [List.length_drop] at hl2
 rw [e,List.append_assoc,←hl,List.drop_left,←hl2,List.take_left]
theorem zi (run:List aJ) (junk:List AV) {i:Nat} {x:aJ} (h:run[i]?=some x):((c9 run++junk).drop (i * 6)).take 6=aY x:=by
 have hi:=(Jp h).1
 have e:c9 run=c9 (run.take i)++(aY x++c9 (run.drop (i+1))):=by
  rw [←mo,←iw]
  congr 1
  rw [←(Jp h).2,List.getElem_cons_drop,List.take_append_drop]
 have hl:=dm (run.take i)
 rw [List.length_take,Nat.min_eq_left (by omega)] at hl
 rw [e,List.append_assoc,←hl,List.drop_left,List.append_assoc]
 exact List.take_left (l₁:=aY x)
theorem C3 (b k n:Nat) (cs:List AV) (hk:k * 6≤cs.length) (hk1:k≤1000000) (hn1:n≤2000000):AC Tryz.prog 259 [.sc (.slice (some ⟨b,0,none⟩) k k),aF n] [(b,.box cs 67)] fun c L=>
  (n=0∧c= .sc (.slice (some ⟨b,0,none⟩) k k)∧L=[(b,.box cs 67)])∨
  (0 < n∧∃b' cs' cap',c= .sc (.slice (some ⟨b',0,none⟩) k cap')∧cap' * 6≤cs'.length∧cs'.take (k * 6)=cs.take (k * 6)∧k+n≤cap'∧cap'≤maxLen∧L=[(b',.box cs' 67),(b,.box cs 67)]):=by
 refine aM Tryz.func259 rfl Tryz.ntmps259 rfl fun B=>?_
 repeat' (first|refine Ji ?_|refine JF a5 H6 ?_|refine bA rfl ?_)
 refine tA a5 rfl rfl rfl ?_
 repeat' (first|refine Ji ?_|refine JF a5 H6 ?_|(apply aS;refine aR ?_)|fail)
 refine ar rfl (fun h=>?_) fun h=>?_
 ·have hn0:0 < n:=by have:=Jy h;omega
  repeat' (first|refine Ji ?_|refine JF a5 H6 ?_)
  refine tA a5 rfl rfl rfl ?_
  repeat' (first|fail)
  refine y9 a5 k rfl rfl rfl rfl (Nat.le_refl _) rfl ?_
  repeat' (first|refine JF a5 H6 ?_)
  refine wV a5 0 n rfl rfl rfl Tryz.underlying3 rfl rfl (by omega) hn0 rfl hk (Nat.le_refl _) (by omega) (by unfold maxLen;omega) (by omega) rfl fun b' cs' cap' h1 h2 h3 h4=>?_
  repeat' (first|refine JF a5 H6 ?_)
  refine y9 a5 k rfl rfl rfl rfl (by omega) rfl ?_
  repeat' (first|refine Ji ?_|refine JF a5 H6 ?_)
  exact JL H6 (.inr ⟨hn0,b',cs',cap',rfl,h1,h2,h3,h4,rfl⟩)
 ·have hn0:n=0:=by have:=Jx h;omega
  repeat' (first|refine Ji ?_|refine JF a5 H6 ?_)
  exact JL H6 (.inl ⟨hn0,rfl,rfl⟩)
theorem sP {fr:c7} {B:Bs} {L:AL} {y:Operand} {sz c:Nat} {A:Option Addr} (hy:bn fr y=some (.sc (.slice A 0 c))):vO fr B L y sz 0 []:=fun σ ρ w hρ _=>⟨A,c,[],(hρ y _ hy).sc_inv,di.nil,by simp,by simp,fun h=>by omega⟩
theorem ww {run:List aJ} (junk:List AV) {i:Nat} {x:aJ} (h:run[i]?=some x):((c9 run++junk).drop (0+((i:Nat):Int).toNat * 6)).take 6=aY x:=by
 rw [Int.toNat_natCast,Nat.zero_add]
 exact zi run junk h
def x7 (x:aJ) (l:List Int):List aJ:=l.map fun g=>{ x with Glyph:=g }
theorem CR (x:aJ) (l:List Int):(x7 x l).length=l.length:=by simp [x7]
theorem GV {a b:Nat×AB} {X:AL}:(a::b::X).Perm (b::a::X):=List.Perm.swap ..
theorem IF {a b c d:Nat×AB}:[a,b,c,d].Perm [c,b,d,a]:=(List.Perm.cons a (List.Perm.swap c b _)).trans ((List.Perm.swap c a _).trans ((((List.Perm.swap b a _).trans ((List.Perm.swap d a _).cons b))).cons c))
theorem IG {a b c d:Nat×AB} {X:AL}:((a::X)++[b,c,d]).Perm (b::a::c::d::X):=(List.perm_append_comm (l₁:=a::X) (l₂:=[b,c,d])).trans (((List.Perm.swap a d _).cons c |>.trans (List.Perm.swap a c _)).cons b)
set_option maxHeartbeats 4000000 in
theorem Cy (E:pp) (wb:Nat) (m:gc) (run:List aJ) (hq:dW (some m) run) (hr:run.length≤1000000) (i:Nat) (x:aJ) (hx:run[i]?=some x) (r:bc) (ho:r.Out.length≤1000000):AC Tryz.prog 191 [g8 wb,aF i,.imm 1 (aX r.Out)] (jn wb E (some m) run) fun _ L=>∃q',dW q' (eH r i run)∧L=jn wb E q' (eH r i run):=by
 refine aM Tryz.func191 rfl Tryz.ntmps191 rfl fun B=>?_
 have hil:=(Jp hx).1
 have hol:=aZ r.Out
 obtain ⟨h1,h2,h3⟩:=hq.fit m rfl
 have hfl:=dm run
 have hmv:eH r i run=if run.length - 1+r.Out.length > 500∧1 < r.Out.length then run else run.take i++x7 x r.Out++run.drop (i+1):=by
  unfold eH
  rw [hx]
  rfl
 have hit:=ww m.junk hx
 unfold maxLen at h2
 repeat' (first|refine Ji ?_|refine JF a5 H6 ?_|(apply bE;first|refine JI a5 0 JC ?_|refine JI a5 1 JC ?_|refine JI a5 2 JC ?_|refine JI a5 3 JC ?_|refine JJ a5 0 JC ?_|refine JJ a5 1 JC ?_|refine JJ a5 2 JC ?_|refine JK a5 1 JA (by assumption) rfl ?_|refine JK a5 0 JA (by assumption) rfl ?_|fail)|(apply aS;refine aR ?_)|fail)
 refine bX [0,1,2] (run.length - 1+r.Out.length > 500∧1 < r.Out.length) rfl (fun Q' K=>?_) (fun hC=>?_) (fun hC=>?_)
 ·repeat' (first|refine Ji ?_|refine JF a5 H6 ?_|refine JN H6 ?_|refine JO JB ?_|refine JR JA (fun _=>?_) (fun _=>?_))
  all_goals exact K _ _ rfl rfl (by simp_all <;> omega)
 ·rw [if_pos hC] at hmv
  repeat' (first|refine Ji ?_|fail)
  exact pw rfl ⟨some m,by rw [hmv];exact hq,by rw [hmv]⟩
 rw [if_neg hC] at hmv
 repeat' (first|refine Ji ?_|fail)
 refine dk [.cell (wb,1,eW (some m) run)] 17 [(0,.v),(1,.v),(2,.v),(3,.l),(4,.v),(5,.v),(6,.l),(7,.v),(8,.v),(9,.v),(10,.k),(11,.v),(12,.v),(13,.v),(14,.a),(15,.f),(16,.v)] none ?_ trivial rfl (by kernel_rfl) (by kernel_rfl) (by kernel_rfl) bR (by kernel_rfl) rfl
 repeat' (first|refine aD ?_|refine b7 a5 ?_|refine ca a5 0 rfl rfl rfl rfl (by first|trivial|rfl) ?_)
 refine dl a5 rfl rfl rfl ⟨by omega,by omega⟩ trivial ?_
 repeat' (first|refine aD ?_|fail)
 refine py a5 1 rfl rfl rfl (Nat.ble_eq_true_of_le (by rw [Int.toNat_natCast];simp;omega)) trivial ?_
 rw [hit]
 repeat' (first|refine aD ?_|refine b7 a5 ?_|fail)
 refine dI a5 0 rfl rfl rfl (n7 0 rfl rfl) trivial ?_
 repeat' (first|refine aD ?_|refine b7 a5 ?_|(apply ea;refine fz ?_)|fail)
 refine xN a5 (i+1) rfl rfl rfl (by omega) (by omega) h1 trivial ?_
 repeat' (first|refine aD ?_|fail)
 refine BA a5 rfl rfl trivial fun ib=>?_
 repeat' (first|refine aD ?_|fail)
 refine BD a5 0 rfl rfl rfl rfl rfl rfl rfl (n7 1 rfl rfl) trivial fun _=>?_
 repeat' (first|refine aD ?_|refine b7 a5 ?_|fail)
 refine JQ [0,1,2,7,8] H6 ?_
 repeat' (first|refine Ji ?_|refine a7 ?_|refine JF a5 H6 ?_|(apply bE;first|refine JI a5 0 JC ?_|refine JI a5 1 JC ?_|refine JI a5 2 JC ?_|refine JI a5 3 JC ?_|refine JJ a5 0 JC ?_|refine JJ a5 1 JC ?_|refine JJ a5 2 JC ?_|refine JK a5 1 JA (by assumption) rfl ?_|refine JK a5 0 JA (by assumption) rfl ?_|fail)|fail)
 refine GO a5 i rfl rfl rfl rfl rfl rfl (by omega) rfl ?_
 repeat' (first|refine JF a5 H6 ?_|(apply aS;refine aR ?_)|fail)
 have hfll:(c9 run++m.junk).length=run.length * 6+m.junk.length:=by rw [List.length_append,hfl]
 have hti:=o7 run m.junk (Nat.le_of_lt hil)
 have hgr:=C3 m.rb i (r.Out.length+(run.length - (i+1))) (c9 run++m.junk) (by omega) (by omega) (by omega)
 refine aI (aQ (L':=(m.rb,.box (c9 run++m.junk) 67)::[(wb,.box [.iptr (ei E),eW (some m) run] 102),dU,(ib,.box (aY x) 67)]) ?_) ?_
 ·exact IF
 refine b8 [(m.rb,.box (c9 run++m.junk) 67)] [(wb,.box [.iptr (ei E),eW (some m) run] 102),dU,(ib,.box (aY x) 67)] hgr rfl (by rw [hol];rfl) (Jo _) rfl fun c L1 hp=>?_
 obtain ⟨db,dcs,dcap,X,hc,hL,hd1,hd2,hd3,n2,hX⟩:∃db dcs dcap X,c= .sc (.slice (some ⟨db,0,none⟩) i dcap)∧L1=(db,.box dcs 67)::X∧dcap * 6≤dcs.length∧dcs.take (i * 6)=c9 (run.take i)∧i+(r.Out.length+(run.length - (i+1)))≤dcap∧dcap≤maxLen∧(r.Out.length+(run.length - (i+1))=0∨X=[(m.rb,.box (c9 run++m.junk) 67)]):=by
  rcases hp with ⟨h0,hc,hL⟩ | ⟨h0,b',cs',cap',hc,h4,h5,h6,h7,hL⟩
  ·exact ⟨m.rb,_,i,[],hc,hL,by omega,hti,by omega,by unfold maxLen;omega,.inl h0⟩
  ·exact ⟨b',cs',cap',_,hc,hL,h4,by rw [h5,hti],h6,h7,.inr rfl⟩
 subst hc;subst hL
 unfold maxLen at n2
 refine aI (aQ (L':=(wb,.box [.iptr (ei E),eW (some m) run] 102)::(db,.box dcs 67)::dU::(ib,.box (aY x) 67)::X) ?_) ?_
 ·exact IG
 repeat' (first|refine Ji ?_|refine am ?_|refine JF a5 H6 ?_)
 refine aP [0,7,8,59,60] (α:=Nat×Int×List AV) (fun s=>[(61,aF s.1),(9,.sc (.slice (some ⟨db,0,none⟩) (i+s.1:Nat) dcap))]) (fun s=>s.1≤r.Out.length∧dcap * 6≤s.2.2.length∧s.2.2.take ((i+s.1) * 6)=c9 (run.take i++x7 x (r.Out.take s.1))) (fun s=>(wb,.box [.iptr (ei E),eW (some m) run] 102)::(db,.box s.2.2 67)::dU::(ib,.box (aY { x with Glyph:=s.2.1 }) 67)::X) (fun s=>r.Out.length - s.1) (0,x.Glyph,dcs) rfl ⟨rfl,rfl,trivial⟩ ⟨Nat.zero_le _,hd1,by simpa [x7] using hd2⟩ (fun _ _ h=>h) ?_
 rintro ⟨k,g,cs⟩ ⟨hk,hcl,hct⟩
 dsimp only at hk hcl hct ⊢
 try dsimp only [Js,Jr,Jq,Jl]
 repeat' (first|refine Ji ?_|refine JF a5 H6 ?_)
 refine ar rfl (fun h=>?_) (fun h=>?_)
 ·have hk2:k < r.Out.length:=by have:=Jy h;omega
  obtain ⟨y,hy⟩:∃z,r.Out[k]?=some z:=⟨_,Jz hk2⟩
  have hyg:=bP hy
  clear h
  repeat' (first|refine Ji ?_|refine am ?_|refine JF a5 H6 ?_|(apply aO;first|refine aN a5 ?_|refine aG a5 ?_)|(apply aK;first|refine JG a5 0 JD ?_|refine JG a5 1 JD ?_|refine JG a5 2 JD ?_|refine JG a5 3 JD ?_|fail))
  refine JJ a5 3 JC ?_
  repeat' (first|refine bM a5 ?_|fail)
  refine lN a5 1 rfl rfl rfl rfl (vy rfl rfl) rfl hcl (by omega) (by unfold maxLen;omega) (by simp;unfold maxLen;omega) (by simp;omega) rfl fun b' cs' cap' e1 e2 e3 e4 e5=>?_
  obtain ⟨e6,e7,e8⟩:=e5 (by simp;omega)
  subst e6;subst e7
  refine aI (aQ GV) ?_
  repeat' (first|refine Ji ?_|refine JF a5 H6 ?_|(apply aS;refine aR ?_)|fail)
  refine aC (k+1,y,cs') rfl ⟨by rw [Jv];rfl,rfl,trivial⟩ ⟨hk2,e1,?_⟩ (by dsimp only;omega) (fun _ _ h=>h)
  rw [←Nat.add_assoc]
  refine e2.trans ?_
  rw [hct,show r.Out.take (k+1)=r.Out.take k++[y] by rw [List.take_add_one,hy];rfl]
  unfold x7
  rw [List.map_append,←List.append_assoc]
  refine Eq.trans ?_ (iw _ _).symm
  rfl
 ·have hke:k=r.Out.length:=by have:=Jx h;omega
  subst hke
  rw [List.take_length] at hct
  have hsrc:∀fr y B,bn fr y=some (.sc (.slice (some ⟨m.rb,if m.cap=i+1 then 0 else (i+1) * 6,none⟩) (run.length - (i+1)) (m.cap - (i+1))))→vO fr B ((wb,.box [.iptr (ei E),eW (some m) run] 102)::(db,.box cs 67)::dU::(ib,.box (aY { x with Glyph:=g }) 67)::X) y 6 (run.length - (i+1)) (c9 (run.drop (i+1))):=by
   intro fr y B hy
   by_cases hz:run.length - (i+1)=0
   ·rw [hz] at hy ⊢
    rw [List.drop_eq_nil_of_le (by omega)]
    exact sP hy
   ·rcases hX with hX | hX
    ·omega
    ·subst hX
     have hs:=vz (B:=B) (sz:=6) (L:=(wb,.box [.iptr (ei E),eW (some m) run] 102)::(db,.box cs 67)::dU::(ib,.box (aY { x with Glyph:=g }) 67)::[(m.rb,.box (c9 run++m.junk) 67)]) 4 hy rfl (by split <;> omega)
     rw [if_neg (by omega),se run m.junk hil] at hs
     exact hs
  repeat' (first|refine Ji ?_|refine JF a5 H6 ?_)
  refine lN a5 1 rfl rfl rfl rfl (hsrc _ _ _ rfl) rfl hcl (by omega) (by unfold maxLen;omega) (by unfold maxLen;omega) (by omega) rfl fun b' cs' cap' e1 e2 e3 e4 e5=>?_
  obtain ⟨e6,e7,e8⟩:=e5 (by omega)
  subst e6;subst e7
  refine aI (aQ GV) ?_
  repeat' (first|refine Ji ?_|refine JF a5 H6 ?_|(apply aK;first|refine JG a5 0 JD ?_|refine JG a5 1 JD ?_|refine JG a5 2 JD ?_|refine JG a5 3 JD ?_|fail))
  have hrun:eH r i run=run.take i++x7 x r.Out++run.drop (i+1):=hmv
  have hlen:(eH r i run).length=i+r.Out.length+(run.length - (i+1)):=by
   rw [hrun,List.length_append,List.length_append,List.length_take,List.length_drop,CR]
   omega
  have hfl2:=dm (eH r i run)
  have hcs:cs'=c9 (eH r i run)++cs'.drop ((i+r.Out.length+(run.length - (i+1))) * 6):=by
   conv=>lhs;rw [←List.take_append_drop ((i+r.Out.length+(run.length - (i+1))) * 6) cs',e2,hct]
   rw [hrun,iw _ (run.drop (i+1))]
  refine dT (L':=[(wb,.box [.iptr (ei E),.sc (.slice (some ⟨b',0,none⟩) (i+r.Out.length+(run.length - (i+1)):Nat) cap')] 102),(b',.box cs' 67),dU]) (.cons_cons _ (.cons_cons _ (.cons_cons _ (List.nil_sublist _)))) ?_
  refine cG rfl ⟨some ⟨b',cap',cs'.drop ((i+r.Out.length+(run.length - (i+1))) * 6)⟩,⟨fun h=>(by cases h),fun m' hm'=>?_⟩,?_⟩
  ·cases hm'
   refine ⟨by rw [hlen];dsimp only;omega,by dsimp only;unfold maxLen;omega,?_⟩
   dsimp only
   rw [←hcs]
   exact e1
  ·unfold eW ot
   dsimp only
   rw [hlen,←hcs]
   rfl
theorem wv {run:List aJ} {i:Nat} (hi:i < run.length):c9 (run.eraseIdx i)=c9 (run.take i)++c9 (run.drop (i+1)):=by
 rw [List.eraseIdx_eq_take_drop_succ,iw]
set_option maxHeartbeats 2000000 in
theorem z9 (b cap:Nat) (run:List aJ) (junk:List AV) (i:Nat) (hi:i < run.length) (hc:run.length≤cap) (hm:cap≤maxLen) (hf:cap * 6≤(c9 run++junk).length) (hr:run.length≤1000000):AC Tryz.prog 260 [.sc (.slice (some ⟨b,0,none⟩) run.length cap),aF i,aF ((i:Int)+1)] [(b,.box (c9 run++junk) 67)] fun c L=>
  c= .sc (.slice (some ⟨b,0,none⟩) (run.eraseIdx i).length cap)∧∃junk',cap * 6≤(c9 (run.eraseIdx i)++junk').length∧L=[(b,.box (c9 (run.eraseIdx i)++junk') 67)]:=by
 refine aM Tryz.func260 rfl Tryz.ntmps260 rfl fun B=>?_
 have hfl:=dm run
 have hel:=List.length_eraseIdx_of_lt hi
 unfold maxLen at hm
 have hsrc:∀fr y B,bn fr y=some (.sc (.slice (some ⟨b,if cap=i+1 then 0 else (i+1) * 6,none⟩) (run.length - (i+1)) (cap - (i+1))))→vO fr B [(b,.box (c9 run++junk) 67)] y 6 (run.length - (i+1)) (c9 (run.drop (i+1))):=by
  intro fr y B hy
  by_cases hz:run.length - (i+1)=0
  ·rw [hz] at hy ⊢
   rw [List.drop_eq_nil_of_le (by omega)]
   exact sP hy
  ·have hs:=vz (B:=B) (sz:=6) (L:=[(b,.box (c9 run++junk) 67)]) 0 hy rfl (by split <;> omega)
   rw [if_neg (by omega),se run junk hi] at hs
   exact hs
 repeat' (first|refine Ji ?_|refine JF a5 H6 ?_)
 refine GN a5 i (i+1) run.length rfl rfl rfl rfl rfl (by omega) rfl rfl (by omega) hi hc rfl ?_
 repeat' (first|refine Ji ?_|refine JF a5 H6 ?_)
 refine ar rfl (fun h=>?_) (fun _=>?_)
 ·have:=Jy h
  omega
 repeat' (first|refine Ji ?_|refine JF a5 H6 ?_)
 refine bw 6 [(0,.v),(1,.v),(2,.v),(3,.v),(4,.v),(5,.v)] none ?_ trivial rfl (by kernel_rfl) (by kernel_rfl) (by kernel_rfl) bR (by kernel_rfl) rfl
 repeat' (first|refine aD ?_|refine b7 a5 ?_|fail)
 refine E3 a5 i rfl rfl rfl rfl (by omega) trivial ?_
 repeat' (first|refine aD ?_|refine b7 a5 ?_|fail)
 refine xN a5 (i+1) rfl rfl rfl (by omega) hi hc trivial ?_
 repeat' (first|fail)
 refine JQ [7,22,25] H6 ?_
 repeat' (first|fail)
 refine lN a5 0 rfl rfl rfl rfl (hsrc _ _ _ rfl) rfl hf (by omega) (by unfold maxLen;omega) (by unfold maxLen;omega) (by omega) rfl fun b' cs' cap' e1 e2 e3 e4 e5=>?_
 obtain ⟨e6,e7,e8⟩:=e5 (by omega)
 subst e6;subst e7
 repeat' (first|refine Ji ?_|refine JF a5 H6 ?_)
 have hn1:i+(run.length - (i+1))=(run.eraseIdx i).length:=by omega
 rw [hn1] at e2 ⊢
 refine GM a5 (run.eraseIdx i).length run.length rfl rfl rfl rfl rfl rfl (by omega) hc rfl ?_
 repeat' (first|fail)
 have hcl:cap' * 6≤cs'.length:=e1
 have hce:cs'.take ((run.eraseIdx i).length * 6)=c9 (run.eraseIdx i):=by
  rw [e2,o7 run junk (by omega),wv hi]
 refine CB a5 0 (m:=(run.eraseIdx i).length) rfl rfl rfl rfl (.inl rfl) rfl ?_ fun cs2 g1 g2=>?_
 ·have h1:(run.eraseIdx i).length * 6+(run.length - (run.eraseIdx i).length) * 6=run.length * 6:=by omega
  rw [h1]
  omega
 repeat' (first|refine Ji ?_|refine JF a5 H6 ?_)
 refine JL H6 ⟨rfl,cs2.drop ((run.eraseIdx i).length * 6),?_⟩
 have hj:c9 (run.eraseIdx i)++cs2.drop ((run.eraseIdx i).length * 6)=cs2:=by
  rw [←hce,←g2,List.take_append_drop]
 rw [hj]
 exact ⟨by omega,rfl⟩
section
variable {ms:List Bool} {ls:List aL} {l:aL} {run:List aJ} {forms:List Int}
theorem w6 {n:Int} (h:n < 0∨(ls.length:Int)≤n):d7 ms ls n run forms=run:=by
 unfold d7
 by_cases h1:n < 0
 ·rw [if_pos h1]
 ·rw [if_neg h1,List.getElem?_eq_none (by omega)]
end
structure J2 (run:List aJ):Prop where
 len:run.length≤500
 mono:run.Pairwise fun a b=>a.Cluster≤b.Cluster
theorem lG:∀{q:List Nat} {run:List aJ},(f0 q run).Sublist run
 | [],_=>List.Sublist.refl _
 | p::q,run=>by rw [f0];exact (List.eraseIdx_sublist ..).trans lG
end Go.Proofs.YtpmdfoaadejmkaaGreatDoor
namespace Go.Proofs.YtpmdfoaadejmkaaGreatDoor
open Go.RowKit
attribute [local irreducible] AT bI AX AO Av Kt bi dx DA cK
theorem uG {R:List aJ}:∀{l:List Nat} {j:Nat},l.Pairwise (· < ·)→(∀z∈l,j < z∧z < R.length)→j < R.length→j < (f0 l R).length
  | [],_,_,_,hj=>hj
  | z::l,j,hs,hl,hj=>by
    obtain ⟨h1,h2⟩:=List.pairwise_cons.1 hs
    have hz:=hl z (by simp)
    have:=uG (j:=z) h2 (fun y hy=>⟨h1 y hy,(hl y (by simp [hy])).2⟩) hz.2
    rw [f0,List.length_eraseIdx_of_lt this]
    omega
theorem sv:∀{l:List Nat} {run:List aJ} {c:Int},dP run l c≤c
 | [],_,_=>Int.le_refl _
 | p::l,run,c=>by
  have:=sv (l:=l) (run:=run) (c:=ld run c p)
  have h2:ld run c p≤c:=by unfold ld;split <;> omega
  unfold dP at this ⊢
  rw [List.foldl_cons]
  omega
theorem pH {wb:Nat} {E:pp} {m:gc} {run:List aJ} {p:Nat} {y:aJ}:fp (jn wb E (some m) run) 1 (.box (c9 (run.set p y)++m.junk) 67)=jn wb E (some m) (run.set p y):=by
 show [(wb,AB.box [.iptr (ei E),.sc (.slice (some ⟨m.rb,0,none⟩) run.length m.cap)] 102),(m.rb,.box (c9 (run.set p y)++m.junk) 67),dU]=[(wb,AB.box [.iptr (ei E),.sc (.slice (some ⟨m.rb,0,none⟩) (run.set p y).length m.cap)] 102),(m.rb,.box (c9 (run.set p y)++m.junk) 67),dU]
 rw [List.length_set]
theorem xH {B:Bs} {σ:cr} {w:World} {wb:Nat} {E:pp} {m:gc} {run:List aJ} {p:Nat} {y:aJ} (h:d6 B σ (fp (jn wb E (some m) run) 1 (.box (c9 (run.set p y)++m.junk) 67)) w):d6 B σ (jn wb E (some m) (run.set p y)) w:=pH▸h
theorem dW.set {m:gc} {run:List aJ} (h:dW (some m) run) (p:Nat) (y:aJ):dW (some m) (run.set p y):=⟨fun e=>(by cases e),fun m' e=>by
 cases e
 obtain ⟨h1,h2,h3⟩:=h.fit m rfl
 rw [List.length_append,dm] at h3 ⊢
 rw [List.length_set]
 exact ⟨h1,h2,h3⟩⟩
theorem ID {a b c:Nat×AB}:[a,b,c].Perm ([b]++[a,c]):=List.Perm.swap ..
set_option maxHeartbeats 4000000 in
theorem EB (E:pp) (wb:Nat) (m:gc) (run:List aJ) (hq:dW (some m) run) (hr:run.length≤1000000) (p:Nat) (q:List Nat) (hp:∀j∈p::q,j < run.length) (hs:(p::q).Pairwise (· < ·)) (x:aJ) (hx:run[p]?=some x) (r:bc) (g:Int) (gs:List Int) (hg:r.Out=g::gs):AC Tryz.prog 192 [g8 wb,.imm 1 (bW (p::q)),aF g] (jn wb E (some m) run) fun _ L=>∃q',dW q' (gz r (p::q) run)∧L=jn wb E q' (gz r (p::q) run):=by
  refine aM Tryz.func192 rfl Tryz.ntmps192 rfl fun B=>?_
  refine cI 1 rfl rfl fun hlen=>?_
  have hil:=(Jp hx).1
  have hnl:=dp (p::q)
  rw [hnl] at hlen
  have hql:q.length+1≤9223372036854775807:=hlen
  obtain ⟨h1,h2,h3⟩:=hq.fit m rfl
  have hfl:=dm run
  have hlv:gz r (p::q) run=f0 q (run.set p { x with Glyph:=g,Cluster:=dP run (p::q) x.Cluster }):=by
    unfold gz
    rw [hg]
    dsimp only
    rw [hx]
  rw [hlv]
  have hflj:∀y:aJ,(c9 (run.set p y)++m.junk).length=(c9 run++m.junk).length:=fun y=>by rw [List.length_append,dm,List.length_set,List.length_append,hfl]
  have hp0:(bW (p::q))[(0:Int).toNat]?=some [aF p]:=rfl
  have hst:=kZ (j:=0) { x with Glyph:=g } (aF g) m.junk hx (by omega) rfl
  repeat' (first|refine Ji ?_|fail)
  refine bw 7 [(0,.v),(1,.v),(2,.v),(3,.l),(4,.v),(5,.v),(6,.v)] none ?_ trivial rfl (by kernel_rfl) (by kernel_rfl) (by kernel_rfl) bR (by kernel_rfl) rfl
  repeat' (first|refine aD ?_|refine b7 a5 ?_|(apply bV;refine cn a5 ?_)|refine ca a5 0 rfl rfl rfl rfl (by first|trivial|rfl) ?_)
  refine JQ [0,1,2,13,16] H6 ?_
  repeat' (first|refine Ji ?_|refine a7 ?_|refine JF a5 H6 ?_|(apply aO;first|refine aN a5 ?_|refine aG a5 ?_)|fail)
  refine aa a5 1 rfl rfl rfl rfl rfl rfl (Nat.ble_eq_true_of_le (by rw [Int.toNat_natCast];simp;omega)) ?_
  rw [hst]
  repeat' (first|refine Ji ?_|refine am ?_|refine JF a5 H6 ?_)
  refine aP [0,1,6,22,23] (α:=Nat) (fun k=>[(24,aF k)]) (fun k=>k≤(p::q).length) (fun k=>jn wb E (some m) (run.set p { x with Glyph:=g,Cluster:=dP run ((p::q).take k) x.Cluster })) (fun k=>(p::q).length - k) 0 rfl ⟨rfl,trivial⟩ (Nat.zero_le _) (fun _ _ h=>xH h) fun k hk=>?_
  · try dsimp only [Js,Jr,Jq,Jl]
    repeat' (first|refine Ji ?_|refine JF a5 H6 ?_)
    refine ar rfl (fun h=>?_) (fun h=>?_)
    · have hk2:k < (p::q).length:=by have:=Jy h;omega
      obtain ⟨j,hj⟩:∃z,(p::q)[k]?=some z:=⟨_,Jz hk2⟩
      have hjg:(bW (p::q))[k]?=some [aF j]:=by unfold bW;exact bP (by rw [List.getElem?_map,hj];rfl)
      have hjl:=hp j (Jw hj)
      obtain ⟨y,hy⟩:∃z,run[j]?=some z:=⟨_,Jz hjl⟩
      have htk:(p::q).take (k+1)=(p::q).take k++[j]:=by rw [List.take_add_one,hj];rfl
      have hle:=sv (l:=(p::q).take k) (run:=run) (c:=x.Cluster)
      have hnew:dP run ((p::q).take (k+1)) x.Cluster=min (dP run ((p::q).take k) x.Cluster) y.Cluster:=by
        unfold dP
        rw [htk,List.foldl_append]
        show ld run _ j=_
        unfold ld
        rw [hy]
      generalize dP run ((p::q).take k) x.Cluster=c at *
      have hxp:(run.set p { x with Glyph:=g,Cluster:=c })[p]?=some { x with Glyph:=g,Cluster:=c }:=List.getElem?_set_self hil
      obtain ⟨y2,hy2,hyc⟩:∃y2,(run.set p { x with Glyph:=g,Cluster:=c })[j]?=some y2∧min c y2.Cluster=min c y.Cluster:=by
        by_cases hjp:j=p
        · subst hjp
          rw [hx] at hy
          cases hy
          exact ⟨_,hxp,by dsimp only;omega⟩
        · exact ⟨y,by rw [List.getElem?_set_ne (fun e=>hjp e.symm)];exact hy,rfl⟩
      have hf1:=oO (j:=1) m.junk hxp rfl
      have hf2:=oO (j:=1) m.junk hy2 rfl
      have hst2:=kZ (j:=1) { x with Glyph:=g,Cluster:=min c y2.Cluster } (aF (min c y2.Cluster)) m.junk hxp (by omega) rfl
      have hsl:(run.set p { x with Glyph:=g,Cluster:=c }).length=run.length:=List.length_set ..
      have hfl2:=hflj { x with Glyph:=g,Cluster:=c }
      clear h
      repeat' (first|refine Ji ?_|refine am ?_|refine JF a5 H6 ?_|(apply aO;first|refine aN a5 ?_|refine aG a5 ?_)|fail)
      refine bw 14 [(0,.v),(1,.v),(2,.v),(3,.v),(4,.l),(5,.v),(6,.v),(7,.v),(8,.l),(9,.v),(10,.v),(11,.v),(12,.l),(13,.v)] none ?_ trivial rfl (by kernel_rfl) (by kernel_rfl) (by kernel_rfl) bR (by kernel_rfl) rfl
      repeat' (first|refine aD ?_|refine b7 a5 ?_|fail)
      refine ca a5 1 rfl rfl rfl hf1 trivial ?_
      repeat' (first|refine aD ?_|refine b7 a5 ?_|refine ca a5 0 rfl rfl rfl rfl (by first|trivial|rfl) ?_)
      refine dl a5 rfl rfl rfl ⟨by omega,by omega⟩ trivial ?_
      repeat' (first|refine aD ?_|refine b7 a5 ?_|fail)
      refine ca a5 1 rfl rfl rfl hf2 trivial ?_
      repeat' (first|refine aD ?_|refine b7 a5 ?_|fail)
      refine JQ [0,1,6,22,23,24,28,41] H6 ?_
      repeat' (first|refine JF a5 H6 ?_)
      refine aa a5 1 rfl rfl rfl rfl rfl rfl (Nat.ble_eq_true_of_le (by rw [Int.toNat_natCast];simp only [hfl2];simp;omega)) ?_
      rw [hst2]
      repeat' (first|refine Ji ?_|refine JF a5 H6 ?_|(apply aS;refine aR ?_)|fail)
      refine aC (k+1) rfl ⟨by rw [Jv];rfl,trivial⟩ (by omega) (by omega) (fun _ _ h=>?_)
      have h4:=xH h
      rw [List.set_set] at h4
      rw [hnew,←hyc]
      exact h4
    · have hke:k=(p::q).length:=by have:=Jx h;omega
      subst hke
      rw [List.take_length]
      clear h
      have hR:(run.set p { x with Glyph:=g,Cluster:=dP run (p::q) x.Cluster }).length=run.length:=List.length_set ..
      have hqR:=hq.set p { x with Glyph:=g,Cluster:=dP run (p::q) x.Cluster }
      generalize run.set p { x with Glyph:=g,Cluster:=dP run (p::q) x.Cluster }=R at *
      obtain ⟨g1,g2,g3⟩:=hqR.fit m rfl
      repeat' (first|refine Ji ?_|refine am ?_|refine JF a5 H6 ?_|(apply aS;refine aR ?_)|fail)
      refine aP [0,1] (α:=Nat×List AV) (fun s=>[(9,aF s.1)]) (fun s=>s.1≤q.length∧m.cap * 6≤(c9 (f0 (q.drop s.1) R)++s.2).length) (fun s=>jn wb E (some ⟨m.rb,m.cap,s.2⟩) (f0 (q.drop s.1) R)) (fun s=>s.1) (q.length,m.junk) rfl ⟨by rw [hnl];simp;rfl,trivial⟩ ⟨Nat.le_refl _,by rw [List.drop_length];exact g3⟩ (fun _ _ h=>by rw [List.drop_length];exact h) ?_
      rintro ⟨n,junk⟩ ⟨hn,hj⟩
      dsimp only at hn hj ⊢
      try dsimp only [Js,Jr,Jq,Jl]
      repeat' (first|refine Ji ?_|refine JF a5 H6 ?_)
      refine ar rfl (fun h=>?_) (fun h=>?_)
      · have hn0:0 < n:=by have:=Jy h;omega
        obtain ⟨k,rfl⟩:∃k,n=k+1:=⟨n - 1,by omega⟩
        obtain ⟨z,hz⟩:∃z,q[k]?=some z:=⟨_,Jz (by omega)⟩
        have hzg:(bW (p::q))[((k+1:Nat):Int).toNat]?=some [aF z]:=by rw [Int.toNat_natCast];unfold bW;exact bP (by rw [Jq,List.getElem?_cons_succ,List.getElem?_map,hz];rfl)
        have hqd:q.drop k=z::q.drop (k+1):=by rw [List.drop_eq_getElem_cons (by omega),(Jp hz).2]
        have hqp:=(List.pairwise_cons.1 hs).2
        have hdp:(z::q.drop (k+1)).Pairwise (· < ·):=by rw [←hqd];exact hqp.sublist (List.drop_sublist ..)
        obtain ⟨d1,d2⟩:=List.pairwise_cons.1 hdp
        have hqm:∀y∈q,y < R.length:=fun y hy=>by rw [hR];exact hp y (by simp [hy])
        have hzl:=uG (R:=R) d2 (fun y hy=>⟨d1 y hy,hqm y (List.mem_of_mem_drop hy)⟩) (hqm z (Jw hz))
        have hdl:(f0 (q.drop (k+1)) R).length≤R.length:=lG.length_le
        have hdel:=z9 m.rb m.cap (f0 (q.drop (k+1)) R) junk z hzl (by omega) h2 hj (by omega)
        have her:(f0 (q.drop (k+1)) R).eraseIdx z=f0 (q.drop k) R:=by rw [hqd];rfl
        rw [her] at hdel
        clear h
        repeat' (first|refine Ji ?_|refine am ?_)
        refine bw 15 [(0,.v),(1,.v),(2,.v),(3,.v),(4,.l),(5,.v),(6,.v),(7,.v),(8,.v),(9,.v),(10,.v),(11,.v),(12,.v),(13,.v),(14,.e)] none ?_ trivial rfl (by kernel_rfl) (by kernel_rfl) (by kernel_rfl) bR (by kernel_rfl) rfl
        repeat' (first|refine aD ?_|refine b7 a5 ?_|(apply ea;refine fz ?_)|(apply bV;refine cn a5 ?_)|refine ca a5 0 rfl rfl rfl rfl (by first|trivial|rfl) ?_)
        refine il [(m.rb,.box (c9 (f0 (q.drop (k+1)) R)++junk) 67)] [(wb,.box [.iptr (ei E),eW (some ⟨m.rb,m.cap,junk⟩) (f0 (q.drop (k+1)) R)] 102),dU] hdel rfl rfl ID trivial fun c L1 ⟨hc,junk',hj',hL⟩=>?_
        subst hc;subst hL
        repeat' (first|fail)
        refine JQ [0,1,9,52,66] H6 ?_
        refine aI (aQ GV) ?_
        repeat' (first|refine Ji ?_|refine JF a5 H6 ?_|(apply aS;refine aR ?_)|(apply aK;first|refine JG a5 0 JD ?_|refine JG a5 1 JD ?_|refine JG a5 2 JD ?_|refine JG a5 3 JD ?_|fail))
        refine aC (k,junk') rfl ⟨?_,trivial⟩ ⟨by omega,hj'⟩ (by dsimp only;omega) (fun _ _ h=>h)
        show some (aF (((k+1:Nat):Int) - 1))=some (aF (k:Int))
        rw [show ((k+1:Nat):Int) - 1=(k:Int) by omega]
      · have hn0:n=0:=by have:=Jx h;omega
        subst hn0
        rw [List.drop_zero] at hj ⊢
        clear h
        repeat' (first|refine Ji ?_|fail)
        have hdl:=(lG (q:=q) (run:=R)).length_le
        have hok:dW (some ⟨m.rb,m.cap,junk⟩) (f0 q R):=⟨fun e=>(by cases e),fun m' e=>by
          cases e
          exact ⟨by dsimp only;omega,h2,hj⟩⟩
        exact cG rfl ⟨some ⟨m.rb,m.cap,junk⟩,hok,rfl⟩
end Go.Proofs.YtpmdfoaadejmkaaGreatDoor
