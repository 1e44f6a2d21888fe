/-
  An engine's match.
-/
import Derived.Test.YtpmdfoaadejmkaaGreatDoorM13
import Derived.Test.YtpmdfoaadejmkaaGreatDoorM17
import Derived.Test.YtpmdfoaadejmkaaGreatDoorM12
import Derived.Test.YtpmdfoaadejmkaaGreatDoorM05
import Derived.Test.YtpmdfoaadejmkaaGreatDoorM14
namespace Go.Proofs.YtpmdfoaadejmkaaGreatDoor
open Go.RowKit
attribute [local irreducible] AT bK AX AO Av Kt bh dw DA cK
theorem wH (l:List Int) (z:Int):bJ Tryz.prog 190 [.imm 1 (aW l),aF z] (aF (if z∈l then (l.idxOf z:Nat) else -1)):=by
 refine aN Tryz.func190 rfl Tryz.ntmps190 rfl fun B=>?_
 refine cB 0 rfl rfl fun hlen=>?_
 have hll:=aZ l
 rw [hll] at hlen
 repeat' (first|refine JU ?_|refine am ?_|refine JG a5 JA ?_)
 refine aP [0,1,7] (α:=Nat) (fun i=>[(8,aF i)]) (fun i=>i≤l.length∧z∉l.take i) (fun _=>[]) (fun i=>l.length - i) 0 rfl ⟨rfl,trivial⟩ ⟨Nat.zero_le _,by simp⟩ (fun _ _ h=>h) fun i hi=>?_
 try dsimp only [Jt,Js,Jr,Kz]
 repeat' (first|refine JU ?_|refine JG a5 JA ?_)
 refine ar rfl (fun h=>?_) (fun h=>?_)
 ·have hil:i < l.length:=by have:=Jz h;omega
  obtain ⟨y,hy⟩:∃z,l[i]?=some z:=⟨_,Hb hil⟩
  have hzg:=bO hy
  have htk:l.take (i+1)=l.take i++[y]:=by rw [List.take_add_one,hy];rfl
  clear h
  repeat' (first|refine JU ?_|refine am ?_|refine JG a5 JA ?_|(apply aL;first|refine aK a5 ?_|refine aG a5 ?_)|fail)
  refine ar rfl (fun h2=>?_) (fun h2=>?_)
  ·have h2':=Jz h2
   subst h2'
   repeat' (first|refine JU ?_|refine JG a5 JA ?_)
   refine JM JA ?_
   have hm:=Jx hy
   have:l.idxOf z=i:=by
    have e:l=l.take i++z::l.drop (i+1):=by
     conv=>lhs;rw [←List.take_append_drop i l,List.drop_eq_getElem_cons hil,(Jq hy).2]
    rw [e,List.idxOf_append,if_neg hi.2,List.idxOf_cons_self,List.length_take]
    omega
   rw [if_pos hm,this]
  ·have h2':=Jy h2
   repeat' (first|refine JU ?_|refine JG a5 JA ?_|(apply aS;refine aQ ?_)|fail)
   exact aC (i+1) rfl ⟨by rw [Jw];rfl,trivial⟩ ⟨by omega,by rw [htk];simp [hi.2];exact h2'⟩ (by omega) (fun _ _ h=>h)
 ·have hil:i=l.length:=by have:=Jy h;omega
  subst hil
  rw [List.take_length] at hi
  repeat' (first|refine JU ?_|refine JG a5 JA ?_)
  refine JM JA ?_
  rw [if_neg hi.2]
instance (l:List Int) (z:Int):AD Tryz.prog 190 [.imm 1 (aW l),aF z] (aF (if z∈l then (l.idxOf z:Nat) else -1)):=⟨wH l z⟩
theorem rD (l:List Int) (z:Int):bJ Tryz.prog 187 [.imm 1 (aW l),aF z] (dY (l.contains z)):=by
 refine aN Tryz.func187 rfl Tryz.ntmps187 rfl fun B=>?_
 repeat' (first|refine JU ?_|refine JG a5 JA ?_|(apply bw;refine bn ?_)|fail)
 refine JM JA ?_
 congr 2
 by_cases h:z∈l
 ·rw [if_pos h,decide_eq_true (by omega)];simp [h]
 ·rw [if_neg h,decide_eq_false (by omega)];simp [h]
instance (l:List Int) (z:Int):AD Tryz.prog 187 [.imm 1 (aW l),aF z] (dY (l.contains z)):=⟨rD l z⟩
structure kM (e:pj):Prop where
 few:e.l.Rules.length≤6
 ends:sX e
 fore:∀gl,fY e.cls e.fore e.foreE gl=cn (eT (e.l.Rules.map dK) (se e.l.Rules) gl) (e.l.Rules.map dK).length
 back:∀gl,fY e.cls e.back e.backE gl=cn (eT (e.l.Rules.map bc.Back) (fun _=>true) gl) (e.l.Rules.map bc.Back).length
 long:fV e.l.Rules≤1000000∧iw e.l.Rules≤1000000
section
variable {e:pj} (h:kM e)
include h
theorem kM.lt (bg fg:List Int):fY e.cls e.back e.backE bg &&& fY e.cls e.fore e.foreE fg < 64:=by
 have h1:=Nat.and_le_right (n:=fY e.cls e.back e.backE bg) (m:=fY e.cls e.fore e.foreE fg)
 have h2:=mN (eT (e.l.Rules.map dK) (se e.l.Rules) fg) (e.l.Rules.map dK).length
 rw [←h.fore fg,Jv] at h2
 have h3:2 ^ e.l.Rules.length≤2 ^ 6:=Nat.pow_le_pow_right (by omega) h.few
 have:(2:Nat) ^ 6=64:=rfl
 omega
theorem kM.first (ms:List Bool) (run:List aI) (i:Nat):ta (fY e.cls e.back e.backE (((lT ms e.l.Ignore run i).take (iw e.l.Rules)).map (cx run)) &&& fY e.cls e.fore e.foreE (((cI ms e.l.Ignore run i).take (fV e.l.Rules)).map (cx run)))=match e.l.Rules.findIdx? (cZ ms e.l.Ignore run i) with
  | some n=>(n:Int)
  | none=> -1:=by
 have hlt:=h.lt (((lT ms e.l.Ignore run i).take (iw e.l.Rules)).map (cx run)) (((cI ms e.l.Ignore run i).take (fV e.l.Rules)).map (cx run))
 rw [h.fore,h.back] at hlt ⊢
 have ht:=wu (ms:=ms) (ig:=e.l.Ignore) (run:=run) (i:=i) (rs:=e.l.Rules) fun n=>yW (rs:=e.l.Rules) (n:=n)
 generalize (cn (eT (e.l.Rules.map bc.Back) _ _) _ &&& _)=b at ht hlt ⊢
 obtain ⟨k1,k2⟩:=wL (q:=cZ ms e.l.Ignore run i) (l:=e.l.Rules) ht
 unfold ta
 cases hf:e.l.Rules.findIdx? (cZ ms e.l.Ignore run i) with
 | none=>rw [k2 hf];rfl
 | some n=>
  obtain ⟨k3,k4⟩:=k1 n hf
  have hn:=(List.findIdx?_eq_some_iff_getElem.1 hf).1
  have hf:=h.few
  rw [if_neg (fun e=>by rw [e,Nat.zero_testBit] at k3;cases k3)]
  exact Ds b hlt n (by omega) k3 k4
end
theorem qn:∀{ss:List (List Int)} {gl:List Int},dg ss gl=true→ss.length≤gl.length
 | [],_,_=>Nat.zero_le _
 | _::_,[],h=>by cases h
 | _::ss,_::gl,h=>by
  rw [dg,Bool.and_eq_true] at h
  have:=qn h.2
  simp;omega
theorem lq {ms:List Bool} {ig:Bool} {run:List aI} {i:Nat} {r:bc} (h:cZ ms ig run i r=true):0 < r.In.length∧r.In.length≤(cI ms ig run i).length:=by
 unfold cZ at h
 rw [Bool.and_eq_true,Bool.and_eq_true] at h
 have h1:=qn h.2.1
 rw [List.length_append,Jv] at h1
 constructor
 ·have:=h.1
  cases hr:r.In with
  | nil=>rw [hr] at this;cases this
  | cons a b=>simp
 ·omega
theorem Cd {rs:List bc} {r:bc} (h:r∈rs):r.In.length≤fV rs:=by
 have:=(mU (g:=fun r:bc=>r.In.length+r.Ahead.length) (m:=0)).2 r h
 unfold fV
 omega
theorem rf {ms:List Bool} {ig:Bool} {run:List aI} {i:Nat}:dG ms ig run true (i:Int)=cI ms ig run i:=by
 unfold dG
 rw [if_pos rfl,Int.toNat_natCast]
theorem re {ms:List Bool} {ig:Bool} {run:List aI} {i:Nat}:dG ms ig run false ((i:Int) - 1)=lT ms ig run i:=by
 unfold dG
 simp only [Bool.false_eq_true,if_false]
 rw [show ((i:Int) - 1+1).toNat=i by omega]
def lf (E:pk) (l:aO) (run:List aI) (i:Nat) (forms:List Int):AV:=match dS E.ms l run i forms with
 | none=> .tup [IH,.sc (.slice none 0 0)]
 | some r=> .tup [.iptr (bB (eZ r)),.imm 1 (bY (cU E.ms l run i r))]
abbrev jm (wb:Nat) (E:pk) (q:Option ge) (run:List aI):AL:=vJ wb (.iptr (ei E)) q run++[dP]
set_option maxHeartbeats 4000000 in
theorem qL (E:pk) (e:pj) (he:kM e) (wb:Nat) (q:Option ge) (run:List aI) (hq:dV q run) (hr:run.length≤1000000) (i:Nat) (hi0:i≤1000000) (forms:List Int):AC Tryz.prog 102 [g9 wb,.iptr (fB e),aF i,.imm 1 (aW forms)] (jm wb E q run) fun c L=>c=lf E e.l run i forms∧L=jm wb E q run:=by
 refine aN Tryz.func102 rfl Tryz.ntmps102 rfl fun B=>?_
 have hfl:=aZ forms
 refine cB 3 rfl rfl fun hlen=>?_
 by_cases hi:i < run.length
 ·obtain ⟨m,rfl⟩:=hq.lt hi
  obtain ⟨x,hx⟩:∃x,run[i]?=some x:=⟨_,Hb hi⟩
  have hse:=tS E e wb m run i x hx
  repeat' (first|refine JU ?_|refine JG a5 JA ?_|refine JO JA ?_|(apply bF;first|refine JJ a5 0 JD ?_|refine JJ a5 1 JD ?_|refine JJ a5 2 JD ?_|refine JJ a5 3 JD ?_|refine JK a5 0 JD ?_|refine JK a5 1 JD ?_|refine JK a5 2 JD ?_|refine JL a5 1 JB (by assumption) rfl ?_|refine JL a5 0 JB (by assumption) rfl ?_|fail)|fail)
  refine bX [0,1,2,3] (jI E.ms e.l.Ignore x=false) rfl (fun Q' K=>?_) (fun hC=>?_) (fun hC=>?_)
  ·repeat' (first|refine JU ?_|refine JG a5 JA ?_|refine JO JA ?_|refine JP JC ?_|refine JS JB (fun _=>?_) (fun _=>?_))
   ·refine b9 (vJ wb (.iptr (ei E)) (some m) run) [dP] hse rfl rfl (Jp _) rfl fun c L1 ⟨hc,hL⟩=>?_
    subst hc;subst hL
    repeat' (first|refine JU ?_|refine JG a5 JA ?_|refine JO JA ?_)
    exact K _ _ rfl rfl (by simp)
   ·rename_i hx2
    have:=Jz hx2
    omega
  ·have hm:dS E.ms e.l run i forms=none:=by
    unfold dS
    rw [if_neg]
    unfold gh
    rw [hx]
    dsimp only
    rw [hC]
    simp
   unfold lf
   rw [hm]
   repeat' (first|refine JU ?_|refine JG a5 JA ?_)
   exact JR JB ⟨rfl,rfl⟩
  have hC:jI E.ms e.l.Ignore x=true:=by simpa using hC
  have h2:=oL (j:=2) m.junk hx rfl
  repeat' (first|refine JU ?_|refine JG a5 JA ?_)
  refine bX [0,1,2] (forms≠[]∧forms.contains x.Form=false) rfl (fun Q' K=>?_) (fun hC2=>?_) (fun hC2=>?_)
  ·repeat' (first|refine JU ?_|refine JG a5 JA ?_|refine JO JA ?_|refine JP JC ?_|(apply bF;first|refine JJ a5 0 JD ?_|refine JJ a5 1 JD ?_|refine JJ a5 2 JD ?_|refine JJ a5 3 JD ?_|refine JK a5 0 JD ?_|refine JK a5 1 JD ?_|refine JK a5 2 JD ?_|refine JL a5 1 JB (by assumption) rfl ?_|refine JL a5 0 JB (by assumption) rfl ?_|fail)|(apply aL;first|refine aK a5 ?_|refine aG a5 ?_)|(apply bw;refine bn ?_)|refine JS JB (fun _=>?_) (fun _=>?_))
   all_goals exact K _ _ rfl rfl (by cases forms <;> simp_all)
  ·have hm:dS E.ms e.l run i forms=none:=by
    unfold dS
    rw [if_neg]
    unfold gh
    rw [hx]
    dsimp only
    rw [hC2.2]
    cases forms with
    | nil=>exact absurd rfl hC2.1
    | cons a b=>simp
   unfold lf
   rw [hm]
   repeat' (first|refine JU ?_|refine JG a5 JA ?_)
   exact JR JB ⟨rfl,rfl⟩
  have hbe:gh E.ms e.l.Ignore run i forms=true:=by
   unfold gh
   rw [hx]
   dsimp only
   rw [hC]
   cases forms with
   | nil=>rfl
   | cons a b=>cases hcc:(a::b).contains x.Form with
    | true=>rfl
    | false=>exact absurd ⟨by simp,hcc⟩ hC2
  have hmv:dS E.ms e.l run i forms=e.l.Rules.find? (cZ E.ms e.l.Ignore run i):=by
   unfold dS
   rw [if_pos hbe]
  have s1:=yq E e wb (some m) run hq hr true i ⟨by omega,fun _=>by omega,fun h=>by cases h⟩ (by omega) (fV e.l.Rules)
  have s2:=yq E e wb (some m) run hq hr false ((i:Int) - 1) ⟨by omega,fun h=>(by cases h),fun _=>by omega⟩ (by omega) (iw e.l.Rules)
  rw [rf] at s1
  rw [re] at s2
  have hfirst:=he.first E.ms run i
  repeat' (first|refine JU ?_|refine JG a5 JA ?_)
  refine b9 (vJ wb (.iptr (ei E)) (some m) run) [dP] s1 rfl rfl (Jp _) rfl fun c L1 ⟨hc,hL⟩=>?_
  subst hc;subst hL
  repeat' (first|refine JU ?_|refine JG a5 JA ?_|(apply aS;refine aQ ?_)|fail)
  refine b9 (vJ wb (.iptr (ei E)) (some m) run) [dP] s2 rfl rfl (Jp _) rfl fun c L1 ⟨hc,hL⟩=>?_
  subst hc;subst hL
  repeat' (first|refine JU ?_|refine JG a5 JA ?_)
  refine b9 [dP] (vJ wb (.iptr (ei E)) (some m) run) (yH e he.ends _ _ (he.lt _ _)) rfl rfl List.perm_append_comm rfl fun c L1 ⟨hc,hL⟩=>?_
  subst hc;subst hL
  refine aJ (aR (L':=jm wb E (some m) run) List.perm_append_comm) ?_
  rw [hfirst]
  unfold lf
  rw [hmv,qj]
  cases hfi:e.l.Rules.findIdx? (cZ E.ms e.l.Ignore run i) with
  | none=>
   dsimp only [Option.bind_none]
   repeat' (first|refine JU ?_|refine JG a5 JA ?_|refine bD rfl ?_)
   exact JR JB ⟨rfl,rfl⟩
  | some n=>
   obtain ⟨hn,hn1,hn2⟩:=List.findIdx?_eq_some_iff_getElem.1 hfi
   obtain ⟨r,hrr⟩:∃r,e.l.Rules[n]?=some r:=⟨_,Hb hn⟩
   rw [(Jq hrr).2] at hn1
   obtain ⟨hin0,hin⟩:=lq hn1
   have hfm:=Cd (Jx hrr)
   have hrg:((jk e.l).Rules.map bB)[n]?=some (bB (eZ r)):=by simp [jk,hrr]
   have hpl:((cI E.ms e.l.Ignore run i).take (fV e.l.Rules)).take r.In.length=cU E.ms e.l run i r:=by
    unfold cU
    rw [List.take_take,Nat.min_eq_left hfm]
   have hnl:=dm ((cI E.ms e.l.Ignore run i).take (fV e.l.Rules))
   rw [List.length_take] at hnl
   have hril:=c6 r.In
   dsimp only [Option.bind_some]
   rw [hrr]
   dsimp only
   repeat' (first|refine JU ?_|refine JG a5 JA ?_|(apply aL;first|refine aK a5 ?_|refine aG a5 ?_)|refine bC rfl ?_)
   refine br 6 [(0,.v),(1,.v),(2,.v),(3,.v),(4,.v),(5,.v)] none ?_ trivial rfl (by kernel_rfl) (by kernel_rfl) (by kernel_rfl) bQ (by kernel_rfl) rfl
   repeat' (first|refine aD ?_|refine b8 a5 ?_|fail)
   refine Ea a5 r.In.length rfl rfl rfl rfl rfl rfl (by rw [show (eZ r).In=r.In from rfl,hril]) (by rw [show (eZ r).In=r.In from rfl,hril]) (by omega) trivial ?_
   rw [show (bY ((cI E.ms e.l.Ignore run i).take (fV e.l.Rules))).take r.In.length=bY (cU E.ms e.l run i r) by rw [←hpl];unfold bY aW;rw [←List.map_take,←List.map_take]]
   repeat' (first|refine aD ?_|refine b8 a5 ?_|fail)
   refine JQ [8,99] JA ?_
   repeat' (first|refine JU ?_|refine a7 ?_|refine JG a5 JA ?_)
   exact JR JB ⟨rfl,rfl⟩
 ·have hm:dS E.ms e.l run i forms=none:=by
   unfold dS
   rw [if_neg]
   unfold gh
   rw [List.getElem?_eq_none (by omega)]
   exact fun h=>by cases h
  unfold lf
  rw [hm]
  repeat' (first|refine JU ?_|refine JG a5 JA ?_|refine JO JA ?_|(apply bF;first|refine JJ a5 0 JD ?_|refine JJ a5 1 JD ?_|refine JJ a5 2 JD ?_|refine JJ a5 3 JD ?_|refine JK a5 0 JD ?_|refine JK a5 1 JD ?_|refine JK a5 2 JD ?_|refine JL a5 1 JB (by assumption) rfl ?_|refine JL a5 0 JB (by assumption) rfl ?_|fail)|fail)
  refine bX [0,1,2,3] True rfl (fun Q' K=>?_) (fun hC=>?_) (fun hC=>absurd trivial hC)
  ·repeat' (first|fail)
   refine mp a5 rfl hq rfl rfl ?_
   repeat' (first|refine JU ?_|refine JG a5 JA ?_|refine JO JA ?_|refine JP JC ?_|refine JS JB (fun _=>?_) (fun _=>?_))
   ·rename_i h
    have:=Jy h
    omega
   ·exact K _ _ rfl rfl (by simp)
  ·repeat' (first|refine JU ?_|refine JG a5 JA ?_)
   exact JR JB ⟨rfl,rfl⟩
end Go.Proofs.YtpmdfoaadejmkaaGreatDoor
namespace Go.Proofs.YtpmdfoaadejmkaaGreatDoor
open Go.RowKit
section
variable {P:Program} {tt:TT} {l:List Oper} {fr:c8} {fin:jO} {sk:mE} {acc:c8} {L:AL} {k:Nat} {dd:Option Tmp} {ty t:TypeId} {pos:String} {af:Array Edge} {g:Option (Nat×Bool)}
theorem BF (ok:er P tt) {zs:List Value} (hz:zI tt t=some zs) (h1:zs.all (·.oneCell')=true) (hg:iV ⟨dd,.alloc t,ty,pos,af,g⟩ acc) (h:∀b,DA P l fr fin sk ((k,.sc (.pointer (some ⟨b,0,none⟩)))::acc) ((b,.box (zs.map .sc) t)::L)):
  cK P l fr fin k .a ⟨dd,.alloc t,ty,pos,af,g⟩ sk acc L:=
 GB (fun c L' ⟨b,_,h2⟩=>⟨[(b,_)],h2⟩) hg (fun _=>mL (eJ ok hz) h1) fun c L' ⟨b,h1,h2⟩=>by subst h1;subst h2;exact h b
end
end Go.Proofs.YtpmdfoaadejmkaaGreatDoor
namespace Go.Proofs.YtpmdfoaadejmkaaGreatDoor
open Go.RowKit
attribute [local irreducible] AT bK AX AO Av Kt bh dw DA cK
theorem kY {run:List aI} {i j:Nat} {x:aI} (y:aI) (v:AV) (junk:List AV) (h:run[i]?=some x) (hj:j < 6) (hy:aY y=(aY x).set j v):fj (ca run++junk) (0+((i:Nat):Int).toNat * 6+j) [v]=ca (run.set i y)++junk:=by
 rw [iP,Int.toNat_natCast,Nat.zero_add]
 have hi:=(Jq h).1
 have hl:=dl run
 rw [List.set_append,if_pos (by omega)]
 congr 1
 unfold ca
 have hm:(run.map aY)[i]?=some (aY x):=by simp [h]
 rw [uK (sz:=6) (run.map aY) i j (aY x) v (fun e he=>by obtain ⟨z,_,rfl⟩:=List.mem_map.1 he;rfl) hm hj,←hy,List.map_set]
theorem o4 (run:List aI) (junk:List AV) {k:Nat} (h:k≤run.length):(ca run++junk).take (k * 6)=ca (run.take k):=by
 have e:ca run=ca (run.take k)++ca (run.drop k):=by rw [←ir,List.take_append_drop]
 have hl:=dl (run.take k)
 rw [List.length_take,Nat.min_eq_left h] at hl
 rw [e,List.append_assoc,←hl,List.take_left]
theorem sb (run:List aI) (junk:List AV) {k:Nat} (h:k≤run.length):((ca run++junk).drop (k * 6)).take ((run.length - k) * 6)=ca (run.drop k):=by
 have e:ca run=ca (run.take k)++ca (run.drop k):=by rw [←ir,List.take_append_drop]
 have hl:=dl (run.take k)
 rw [List.length_take,Nat.min_eq_left h] at hl
 have hl2:=dl (run.drop k)
 rw [List.length_drop] at hl2
 rw [e,List.append_assoc,←hl,List.drop_left,←hl2,List.take_left]
theorem zn (run:List aI) (junk:List AV) {i:Nat} {x:aI} (h:run[i]?=some x):((ca run++junk).drop (i * 6)).take 6=aY x:=by
 have hi:=(Jq h).1
 have e:ca run=ca (run.take i)++(aY x++ca (run.drop (i+1))):=by
  rw [←mj,←ir]
  congr 1
  rw [←(Jq h).2,List.getElem_cons_drop,List.take_append_drop]
 have hl:=dl (run.take i)
 rw [List.length_take,Nat.min_eq_left (by omega)] at hl
 rw [e,List.append_assoc,←hl,List.drop_left,List.append_assoc]
 exact List.take_left (l₁:=aY x)
theorem C8 (b k n:Nat) (cs:List AV) (hk:k * 6≤cs.length) (hk1:k≤1000000) (hn1:n≤2000000):AC Tryz.prog 259 [.sc (.slice (some ⟨b,0,none⟩) k k),aF n] [(b,.box cs 67)] fun c L=>
  (n=0∧c= .sc (.slice (some ⟨b,0,none⟩) k k)∧L=[(b,.box cs 67)])∨
  (0 < n∧∃b' cs' cap',c= .sc (.slice (some ⟨b',0,none⟩) k cap')∧cap' * 6≤cs'.length∧cs'.take (k * 6)=cs.take (k * 6)∧k+n≤cap'∧cap'≤maxLen∧L=[(b',.box cs' 67),(b,.box cs 67)]):=by
 refine aN Tryz.func259 rfl Tryz.ntmps259 rfl fun B=>?_
 repeat' (first|refine JU ?_|refine JG a5 JA ?_|refine bC rfl ?_)
 refine tx a5 rfl rfl rfl ?_
 repeat' (first|refine JU ?_|refine JG a5 JA ?_|(apply aS;refine aQ ?_)|fail)
 refine ar rfl (fun h=>?_) fun h=>?_
 ·have hn0:0 < n:=by have:=Jz h;omega
  repeat' (first|refine JU ?_|refine JG a5 JA ?_)
  refine tx a5 rfl rfl rfl ?_
  repeat' (first|fail)
  refine yd a5 k rfl rfl rfl rfl (Nat.le_refl _) rfl ?_
  repeat' (first|refine JG a5 JA ?_)
  refine wW a5 0 n rfl rfl rfl Tryz.underlying3 rfl rfl (by omega) hn0 rfl hk (Nat.le_refl _) (by omega) (by unfold maxLen;omega) (by omega) rfl fun b' cs' cap' h1 h2 h3 h4=>?_
  repeat' (first|refine JG a5 JA ?_)
  refine yd a5 k rfl rfl rfl rfl (by omega) rfl ?_
  repeat' (first|refine JU ?_|refine JG a5 JA ?_)
  exact JM JA (.inr ⟨hn0,b',cs',cap',rfl,h1,h2,h3,h4,rfl⟩)
 ·have hn0:n=0:=by have:=Jy h;omega
  repeat' (first|refine JU ?_|refine JG a5 JA ?_)
  exact JM JA (.inl ⟨hn0,rfl,rfl⟩)
theorem sN {fr:c8} {B:Bs} {L:AL} {y:Operand} {sz c:Nat} {A:Option Addr} (hy:bo fr y=some (.sc (.slice A 0 c))):vP fr B L y sz 0 []:=fun σ ρ w hρ _=>⟨A,c,[],(hρ y _ hy).sc_inv,dh.nil,by simp,by simp,fun h=>by omega⟩
theorem ww {run:List aI} (junk:List AV) {i:Nat} {x:aI} (h:run[i]?=some x):((ca run++junk).drop (0+((i:Nat):Int).toNat * 6)).take 6=aY x:=by
 rw [Int.toNat_natCast,Nat.zero_add]
 exact zn run junk h
def x8 (x:aI) (l:List Int):List aI:=l.map fun g=>{ x with Glyph:=g }
theorem CV (x:aI) (l:List Int):(x8 x l).length=l.length:=by simp [x8]
theorem H0 {a b:Nat×AB} {X:AL}:(a::b::X).Perm (b::a::X):=List.Perm.swap ..
theorem IK {a b c d:Nat×AB}:[a,b,c,d].Perm [c,b,d,a]:=(List.Perm.cons a (List.Perm.swap c b _)).trans ((List.Perm.swap c a _).trans ((((List.Perm.swap b a _).trans ((List.Perm.swap d a _).cons b))).cons c))
theorem IL {a b c d:Nat×AB} {X:AL}:((a::X)++[b,c,d]).Perm (b::a::c::d::X):=(List.perm_append_comm (l₁:=a::X) (l₂:=[b,c,d])).trans (((List.Perm.swap a d _).cons c |>.trans (List.Perm.swap a c _)).cons b)
set_option maxHeartbeats 4000000 in
theorem CD (E:pk) (wb:Nat) (m:ge) (run:List aI) (hq:dV (some m) run) (hr:run.length≤1000000) (i:Nat) (x:aI) (hx:run[i]?=some x) (r:bc) (ho:r.Out.length≤1000000):AC Tryz.prog 191 [g9 wb,aF i,.imm 1 (aW r.Out)] (jm wb E (some m) run) fun _ L=>∃q',dV q' (eH r i run)∧L=jm wb E q' (eH r i run):=by
 refine aN Tryz.func191 rfl Tryz.ntmps191 rfl fun B=>?_
 have hil:=(Jq hx).1
 have hol:=aZ r.Out
 obtain ⟨h1,h2,h3⟩:=hq.fit m rfl
 have hfl:=dl run
 have hmv:eH r i run=if run.length - 1+r.Out.length > 500∧1 < r.Out.length then run else run.take i++x8 x r.Out++run.drop (i+1):=by
  unfold eH
  rw [hx]
  rfl
 have hit:=ww m.junk hx
 unfold maxLen at h2
 repeat' (first|refine JU ?_|refine JG a5 JA ?_|(apply bF;first|refine JJ a5 0 JD ?_|refine JJ a5 1 JD ?_|refine JJ a5 2 JD ?_|refine JJ a5 3 JD ?_|refine JK a5 0 JD ?_|refine JK a5 1 JD ?_|refine JK a5 2 JD ?_|refine JL a5 1 JB (by assumption) rfl ?_|refine JL a5 0 JB (by assumption) rfl ?_|fail)|(apply aS;refine aQ ?_)|fail)
 refine bX [0,1,2] (run.length - 1+r.Out.length > 500∧1 < r.Out.length) rfl (fun Q' K=>?_) (fun hC=>?_) (fun hC=>?_)
 ·repeat' (first|refine JU ?_|refine JG a5 JA ?_|refine JO JA ?_|refine JP JC ?_|refine JS JB (fun _=>?_) (fun _=>?_))
  all_goals exact K _ _ rfl rfl (by simp_all <;> omega)
 ·rw [if_pos hC] at hmv
  repeat' (first|refine JU ?_|fail)
  exact pt rfl ⟨some m,by rw [hmv];exact hq,by rw [hmv]⟩
 rw [if_neg hC] at hmv
 repeat' (first|refine JU ?_|fail)
 refine di [.cell (wb,1,eX (some m) run)] 17 [(0,.v),(1,.v),(2,.v),(3,.l),(4,.v),(5,.v),(6,.l),(7,.v),(8,.v),(9,.v),(10,.k),(11,.v),(12,.v),(13,.v),(14,.a),(15,.f),(16,.v)] none ?_ trivial rfl (by kernel_rfl) (by kernel_rfl) (by kernel_rfl) bQ (by kernel_rfl) rfl
 repeat' (first|refine aD ?_|refine b8 a5 ?_|refine ce a5 0 rfl rfl rfl rfl (by first|trivial|rfl) ?_)
 refine dk a5 rfl rfl rfl ⟨by omega,by omega⟩ trivial ?_
 repeat' (first|refine aD ?_|fail)
 refine pv a5 1 rfl rfl rfl (Nat.ble_eq_true_of_le (by rw [Int.toNat_natCast];simp;omega)) trivial ?_
 rw [hit]
 repeat' (first|refine aD ?_|refine b8 a5 ?_|fail)
 refine dJ a5 0 rfl rfl rfl (n5 0 rfl rfl) trivial ?_
 repeat' (first|refine aD ?_|refine b8 a5 ?_|(apply ea;refine fA ?_)|fail)
 refine xR a5 (i+1) rfl rfl rfl (by omega) (by omega) h1 trivial ?_
 repeat' (first|refine aD ?_|fail)
 refine BF a5 rfl rfl trivial fun ib=>?_
 repeat' (first|refine aD ?_|fail)
 refine BI a5 0 rfl rfl rfl rfl rfl rfl rfl (n5 1 rfl rfl) trivial fun _=>?_
 repeat' (first|refine aD ?_|refine b8 a5 ?_|fail)
 refine JQ [0,1,2,7,8] JA ?_
 repeat' (first|refine JU ?_|refine a7 ?_|refine JG a5 JA ?_|(apply bF;first|refine JJ a5 0 JD ?_|refine JJ a5 1 JD ?_|refine JJ a5 2 JD ?_|refine JJ a5 3 JD ?_|refine JK a5 0 JD ?_|refine JK a5 1 JD ?_|refine JK a5 2 JD ?_|refine JL a5 1 JB (by assumption) rfl ?_|refine JL a5 0 JB (by assumption) rfl ?_|fail)|fail)
 refine GT a5 i rfl rfl rfl rfl rfl rfl (by omega) rfl ?_
 repeat' (first|refine JG a5 JA ?_|(apply aS;refine aQ ?_)|fail)
 have hfll:(ca run++m.junk).length=run.length * 6+m.junk.length:=by rw [List.length_append,hfl]
 have hti:=o4 run m.junk (Nat.le_of_lt hil)
 have hgr:=C8 m.rb i (r.Out.length+(run.length - (i+1))) (ca run++m.junk) (by omega) (by omega) (by omega)
 refine aJ (aR (L':=(m.rb,.box (ca run++m.junk) 67)::[(wb,.box [.iptr (ei E),eX (some m) run] 102),dP,(ib,.box (aY x) 67)]) ?_) ?_
 ·exact IK
 refine b9 [(m.rb,.box (ca run++m.junk) 67)] [(wb,.box [.iptr (ei E),eX (some m) run] 102),dP,(ib,.box (aY x) 67)] hgr rfl (by rw [hol];rfl) (Jp _) rfl fun c L1 hp=>?_
 obtain ⟨db,dcs,dcap,X,hc,hL,hd1,hd2,hd3,mY,hX⟩:∃db dcs dcap X,c= .sc (.slice (some ⟨db,0,none⟩) i dcap)∧L1=(db,.box dcs 67)::X∧dcap * 6≤dcs.length∧dcs.take (i * 6)=ca (run.take i)∧i+(r.Out.length+(run.length - (i+1)))≤dcap∧dcap≤maxLen∧(r.Out.length+(run.length - (i+1))=0∨X=[(m.rb,.box (ca run++m.junk) 67)]):=by
  rcases hp with ⟨h0,hc,hL⟩ | ⟨h0,b',cs',cap',hc,h4,h5,h6,h7,hL⟩
  ·exact ⟨m.rb,_,i,[],hc,hL,by omega,hti,by omega,by unfold maxLen;omega,.inl h0⟩
  ·exact ⟨b',cs',cap',_,hc,hL,h4,by rw [h5,hti],h6,h7,.inr rfl⟩
 subst hc;subst hL
 unfold maxLen at mY
 refine aJ (aR (L':=(wb,.box [.iptr (ei E),eX (some m) run] 102)::(db,.box dcs 67)::dP::(ib,.box (aY x) 67)::X) ?_) ?_
 ·exact IL
 repeat' (first|refine JU ?_|refine am ?_|refine JG a5 JA ?_)
 refine aP [0,7,8,59,60] (α:=Nat×Int×List AV) (fun s=>[(61,aF s.1),(9,.sc (.slice (some ⟨db,0,none⟩) (i+s.1:Nat) dcap))]) (fun s=>s.1≤r.Out.length∧dcap * 6≤s.2.2.length∧s.2.2.take ((i+s.1) * 6)=ca (run.take i++x8 x (r.Out.take s.1))) (fun s=>(wb,.box [.iptr (ei E),eX (some m) run] 102)::(db,.box s.2.2 67)::dP::(ib,.box (aY { x with Glyph:=s.2.1 }) 67)::X) (fun s=>r.Out.length - s.1) (0,x.Glyph,dcs) rfl ⟨rfl,rfl,trivial⟩ ⟨Nat.zero_le _,hd1,by simpa [x8] using hd2⟩ (fun _ _ h=>h) ?_
 rintro ⟨k,g,cs⟩ ⟨hk,hcl,hct⟩
 dsimp only at hk hcl hct ⊢
 try dsimp only [Jt,Js,Jr,Kz]
 repeat' (first|refine JU ?_|refine JG a5 JA ?_)
 refine ar rfl (fun h=>?_) (fun h=>?_)
 ·have hk2:k < r.Out.length:=by have:=Jz h;omega
  obtain ⟨y,hy⟩:∃z,r.Out[k]?=some z:=⟨_,Hb hk2⟩
  have hyg:=bO hy
  clear h
  repeat' (first|refine JU ?_|refine am ?_|refine JG a5 JA ?_|(apply aL;first|refine aK a5 ?_|refine aG a5 ?_)|(apply aM;first|refine JH a5 0 JE ?_|refine JH a5 1 JE ?_|refine JH a5 2 JE ?_|refine JH a5 3 JE ?_|fail))
  refine JK a5 3 JD ?_
  repeat' (first|refine bN a5 ?_|fail)
  refine lL a5 1 rfl rfl rfl rfl (vy rfl rfl) rfl hcl (by omega) (by unfold maxLen;omega) (by simp;unfold maxLen;omega) (by simp;omega) rfl fun b' cs' cap' e1 e2 e3 e4 e5=>?_
  obtain ⟨e6,e7,e8⟩:=e5 (by simp;omega)
  subst e6;subst e7
  refine aJ (aR H0) ?_
  repeat' (first|refine JU ?_|refine JG a5 JA ?_|(apply aS;refine aQ ?_)|fail)
  refine aC (k+1,y,cs') rfl ⟨by rw [Jw];rfl,rfl,trivial⟩ ⟨hk2,e1,?_⟩ (by dsimp only;omega) (fun _ _ h=>h)
  rw [←Nat.add_assoc]
  refine e2.trans ?_
  rw [hct,show r.Out.take (k+1)=r.Out.take k++[y] by rw [List.take_add_one,hy];rfl]
  unfold x8
  rw [List.map_append,←List.append_assoc]
  refine Eq.trans ?_ (ir _ _).symm
  rfl
 ·have hke:k=r.Out.length:=by have:=Jy h;omega
  subst hke
  rw [List.take_length] at hct
  have hsrc:∀fr y B,bo fr y=some (.sc (.slice (some ⟨m.rb,if m.cap=i+1 then 0 else (i+1) * 6,none⟩) (run.length - (i+1)) (m.cap - (i+1))))→vP fr B ((wb,.box [.iptr (ei E),eX (some m) run] 102)::(db,.box cs 67)::dP::(ib,.box (aY { x with Glyph:=g }) 67)::X) y 6 (run.length - (i+1)) (ca (run.drop (i+1))):=by
   intro fr y B hy
   by_cases hz:run.length - (i+1)=0
   ·rw [hz] at hy ⊢
    rw [List.drop_eq_nil_of_le (by omega)]
    exact sN hy
   ·rcases hX with hX | hX
    ·omega
    ·subst hX
     have hs:=vz (B:=B) (sz:=6) (L:=(wb,.box [.iptr (ei E),eX (some m) run] 102)::(db,.box cs 67)::dP::(ib,.box (aY { x with Glyph:=g }) 67)::[(m.rb,.box (ca run++m.junk) 67)]) 4 hy rfl (by split <;> omega)
     rw [if_neg (by omega),sb run m.junk hil] at hs
     exact hs
  repeat' (first|refine JU ?_|refine JG a5 JA ?_)
  refine lL a5 1 rfl rfl rfl rfl (hsrc _ _ _ rfl) rfl hcl (by omega) (by unfold maxLen;omega) (by unfold maxLen;omega) (by omega) rfl fun b' cs' cap' e1 e2 e3 e4 e5=>?_
  obtain ⟨e6,e7,e8⟩:=e5 (by omega)
  subst e6;subst e7
  refine aJ (aR H0) ?_
  repeat' (first|refine JU ?_|refine JG a5 JA ?_|(apply aM;first|refine JH a5 0 JE ?_|refine JH a5 1 JE ?_|refine JH a5 2 JE ?_|refine JH a5 3 JE ?_|fail))
  have hrun:eH r i run=run.take i++x8 x r.Out++run.drop (i+1):=hmv
  have hlen:(eH r i run).length=i+r.Out.length+(run.length - (i+1)):=by
   rw [hrun,List.length_append,List.length_append,List.length_take,List.length_drop,CV]
   omega
  have hfl2:=dl (eH r i run)
  have hcs:cs'=ca (eH r i run)++cs'.drop ((i+r.Out.length+(run.length - (i+1))) * 6):=by
   conv=>lhs;rw [←List.take_append_drop ((i+r.Out.length+(run.length - (i+1))) * 6) cs',e2,hct]
   rw [hrun,ir _ (run.drop (i+1))]
  refine dI (L':=[(wb,.box [.iptr (ei E),.sc (.slice (some ⟨b',0,none⟩) (i+r.Out.length+(run.length - (i+1)):Nat) cap')] 102),(b',.box cs' 67),dP]) (.cons_cons _ (.cons_cons _ (.cons_cons _ (List.nil_sublist _)))) ?_
  refine cH rfl ⟨some ⟨b',cap',cs'.drop ((i+r.Out.length+(run.length - (i+1))) * 6)⟩,⟨fun h=>(by cases h),fun m' hm'=>?_⟩,?_⟩
  ·cases hm'
   refine ⟨by rw [hlen];dsimp only;omega,by dsimp only;unfold maxLen;omega,?_⟩
   dsimp only
   rw [←hcs]
   exact e1
  ·unfold eX om
   dsimp only
   rw [hlen,←hcs]
   rfl
theorem wv {run:List aI} {i:Nat} (hi:i < run.length):ca (run.eraseIdx i)=ca (run.take i)++ca (run.drop (i+1)):=by
 rw [List.eraseIdx_eq_take_drop_succ,ir]
set_option maxHeartbeats 2000000 in
theorem zh (b cap:Nat) (run:List aI) (junk:List AV) (i:Nat) (hi:i < run.length) (hc:run.length≤cap) (hm:cap≤maxLen) (hf:cap * 6≤(ca run++junk).length) (hr:run.length≤1000000):AC Tryz.prog 260 [.sc (.slice (some ⟨b,0,none⟩) run.length cap),aF i,aF ((i:Int)+1)] [(b,.box (ca run++junk) 67)] fun c L=>
  c= .sc (.slice (some ⟨b,0,none⟩) (run.eraseIdx i).length cap)∧∃junk',cap * 6≤(ca (run.eraseIdx i)++junk').length∧L=[(b,.box (ca (run.eraseIdx i)++junk') 67)]:=by
 refine aN Tryz.func260 rfl Tryz.ntmps260 rfl fun B=>?_
 have hfl:=dl run
 have hel:=List.length_eraseIdx_of_lt hi
 unfold maxLen at hm
 have hsrc:∀fr y B,bo fr y=some (.sc (.slice (some ⟨b,if cap=i+1 then 0 else (i+1) * 6,none⟩) (run.length - (i+1)) (cap - (i+1))))→vP fr B [(b,.box (ca run++junk) 67)] y 6 (run.length - (i+1)) (ca (run.drop (i+1))):=by
  intro fr y B hy
  by_cases hz:run.length - (i+1)=0
  ·rw [hz] at hy ⊢
   rw [List.drop_eq_nil_of_le (by omega)]
   exact sN hy
  ·have hs:=vz (B:=B) (sz:=6) (L:=[(b,.box (ca run++junk) 67)]) 0 hy rfl (by split <;> omega)
   rw [if_neg (by omega),sb run junk hi] at hs
   exact hs
 repeat' (first|refine JU ?_|refine JG a5 JA ?_)
 refine GS a5 i (i+1) run.length rfl rfl rfl rfl rfl (by omega) rfl rfl (by omega) hi hc rfl ?_
 repeat' (first|refine JU ?_|refine JG a5 JA ?_)
 refine ar rfl (fun h=>?_) (fun _=>?_)
 ·have:=Jz h
  omega
 repeat' (first|refine JU ?_|refine JG a5 JA ?_)
 refine br 6 [(0,.v),(1,.v),(2,.v),(3,.v),(4,.v),(5,.v)] none ?_ trivial rfl (by kernel_rfl) (by kernel_rfl) (by kernel_rfl) bQ (by kernel_rfl) rfl
 repeat' (first|refine aD ?_|refine b8 a5 ?_|fail)
 refine E9 a5 i rfl rfl rfl rfl (by omega) trivial ?_
 repeat' (first|refine aD ?_|refine b8 a5 ?_|fail)
 refine xR a5 (i+1) rfl rfl rfl (by omega) hi hc trivial ?_
 repeat' (first|fail)
 refine JQ [7,22,25] JA ?_
 repeat' (first|fail)
 refine lL a5 0 rfl rfl rfl rfl (hsrc _ _ _ rfl) rfl hf (by omega) (by unfold maxLen;omega) (by unfold maxLen;omega) (by omega) rfl fun b' cs' cap' e1 e2 e3 e4 e5=>?_
 obtain ⟨e6,e7,e8⟩:=e5 (by omega)
 subst e6;subst e7
 repeat' (first|refine JU ?_|refine JG a5 JA ?_)
 have hn1:i+(run.length - (i+1))=(run.eraseIdx i).length:=by omega
 rw [hn1] at e2 ⊢
 refine GR a5 (run.eraseIdx i).length run.length rfl rfl rfl rfl rfl rfl (by omega) hc rfl ?_
 repeat' (first|fail)
 have hcl:cap' * 6≤cs'.length:=e1
 have hce:cs'.take ((run.eraseIdx i).length * 6)=ca (run.eraseIdx i):=by
  rw [e2,o4 run junk (by omega),wv hi]
 refine CG a5 0 (m:=(run.eraseIdx i).length) rfl rfl rfl rfl (.inl rfl) rfl ?_ fun cs2 g1 g2=>?_
 ·have h1:(run.eraseIdx i).length * 6+(run.length - (run.eraseIdx i).length) * 6=run.length * 6:=by omega
  rw [h1]
  omega
 repeat' (first|refine JU ?_|refine JG a5 JA ?_)
 refine JM JA ⟨rfl,cs2.drop ((run.eraseIdx i).length * 6),?_⟩
 have hj:ca (run.eraseIdx i)++cs2.drop ((run.eraseIdx i).length * 6)=cs2:=by
  rw [←hce,←g2,List.take_append_drop]
 rw [hj]
 exact ⟨by omega,rfl⟩
section
variable {ms:List Bool} {ls:List aO} {l:aO} {run:List aI} {forms:List Int}
theorem w7 {n:Int} (h:n < 0∨(ls.length:Int)≤n):cV ms ls n run forms=run:=by
 unfold cV
 by_cases h1:n < 0
 ·rw [if_pos h1]
 ·rw [if_neg h1,List.getElem?_eq_none (by omega)]
end
structure J7 (run:List aI):Prop where
 len:run.length≤500
 mono:run.Pairwise fun a b=>a.Cluster≤b.Cluster
theorem lE:∀{q:List Nat} {run:List aI},(f3 q run).Sublist run
 | [],_=>List.Sublist.refl _
 | p::q,run=>by rw [f3];exact (List.eraseIdx_sublist ..).trans lE
end Go.Proofs.YtpmdfoaadejmkaaGreatDoor
namespace Go.Proofs.YtpmdfoaadejmkaaGreatDoor
open Go.RowKit
attribute [local irreducible] AT bK AX AO Av Kt bh dw DA cK
theorem uE {R:List aI}:∀{l:List Nat} {j:Nat},l.Pairwise (· < ·)→(∀z∈l,j < z∧z < R.length)→j < R.length→j < (f3 l R).length
  | [],_,_,_,hj=>hj
  | z::l,j,hs,hl,hj=>by
    obtain ⟨h1,h2⟩:=List.pairwise_cons.1 hs
    have hz:=hl z (by simp)
    have:=uE (j:=z) h2 (fun y hy=>⟨h1 y hy,(hl y (by simp [hy])).2⟩) hz.2
    rw [f3,List.length_eraseIdx_of_lt this]
    omega
theorem sr:∀{l:List Nat} {run:List aI} {c:Int},dR run l c≤c
 | [],_,_=>Int.le_refl _
 | p::l,run,c=>by
  have:=sr (l:=l) (run:=run) (c:=lc run c p)
  have h2:lc run c p≤c:=by unfold lc;split <;> omega
  unfold dR at this ⊢
  rw [List.foldl_cons]
  omega
theorem pD {wb:Nat} {E:pk} {m:ge} {run:List aI} {p:Nat} {y:aI}:fq (jm wb E (some m) run) 1 (.box (ca (run.set p y)++m.junk) 67)=jm wb E (some m) (run.set p y):=by
 show [(wb,AB.box [.iptr (ei E),.sc (.slice (some ⟨m.rb,0,none⟩) run.length m.cap)] 102),(m.rb,.box (ca (run.set p y)++m.junk) 67),dP]=[(wb,AB.box [.iptr (ei E),.sc (.slice (some ⟨m.rb,0,none⟩) (run.set p y).length m.cap)] 102),(m.rb,.box (ca (run.set p y)++m.junk) 67),dP]
 rw [List.length_set]
theorem xL {B:Bs} {σ:cr} {w:World} {wb:Nat} {E:pk} {m:ge} {run:List aI} {p:Nat} {y:aI} (h:d7 B σ (fq (jm wb E (some m) run) 1 (.box (ca (run.set p y)++m.junk) 67)) w):d7 B σ (jm wb E (some m) (run.set p y)) w:=pD▸h
theorem dV.set {m:ge} {run:List aI} (h:dV (some m) run) (p:Nat) (y:aI):dV (some m) (run.set p y):=⟨fun e=>(by cases e),fun m' e=>by
 cases e
 obtain ⟨h1,h2,h3⟩:=h.fit m rfl
 rw [List.length_append,dl] at h3 ⊢
 rw [List.length_set]
 exact ⟨h1,h2,h3⟩⟩
theorem II {a b c:Nat×AB}:[a,b,c].Perm ([b]++[a,c]):=List.Perm.swap ..
set_option maxHeartbeats 4000000 in
theorem EH (E:pk) (wb:Nat) (m:ge) (run:List aI) (hq:dV (some m) run) (hr:run.length≤1000000) (p:Nat) (q:List Nat) (hp:∀j∈p::q,j < run.length) (hs:(p::q).Pairwise (· < ·)) (x:aI) (hx:run[p]?=some x) (r:bc) (g:Int) (gs:List Int) (hg:r.Out=g::gs):AC Tryz.prog 192 [g9 wb,.imm 1 (bY (p::q)),aF g] (jm wb E (some m) run) fun _ L=>∃q',dV q' (gA r (p::q) run)∧L=jm wb E q' (gA r (p::q) run):=by
  refine aN Tryz.func192 rfl Tryz.ntmps192 rfl fun B=>?_
  refine cB 1 rfl rfl fun hlen=>?_
  have hil:=(Jq hx).1
  have hnl:=dm (p::q)
  rw [hnl] at hlen
  have hql:q.length+1≤9223372036854775807:=hlen
  obtain ⟨h1,h2,h3⟩:=hq.fit m rfl
  have hfl:=dl run
  have hlv:gA r (p::q) run=f3 q (run.set p { x with Glyph:=g,Cluster:=dR run (p::q) x.Cluster }):=by
    unfold gA
    rw [hg]
    dsimp only
    rw [hx]
  rw [hlv]
  have hflj:∀y:aI,(ca (run.set p y)++m.junk).length=(ca run++m.junk).length:=fun y=>by rw [List.length_append,dl,List.length_set,List.length_append,hfl]
  have hp0:(bY (p::q))[(0:Int).toNat]?=some [aF p]:=rfl
  have hst:=kY (j:=0) { x with Glyph:=g } (aF g) m.junk hx (by omega) rfl
  repeat' (first|refine JU ?_|fail)
  refine br 7 [(0,.v),(1,.v),(2,.v),(3,.l),(4,.v),(5,.v),(6,.v)] none ?_ trivial rfl (by kernel_rfl) (by kernel_rfl) (by kernel_rfl) bQ (by kernel_rfl) rfl
  repeat' (first|refine aD ?_|refine b8 a5 ?_|(apply bW;refine ci a5 ?_)|refine ce a5 0 rfl rfl rfl rfl (by first|trivial|rfl) ?_)
  refine JQ [0,1,2,13,16] JA ?_
  repeat' (first|refine JU ?_|refine a7 ?_|refine JG a5 JA ?_|(apply aL;first|refine aK a5 ?_|refine aG a5 ?_)|fail)
  refine aa a5 1 rfl rfl rfl rfl rfl rfl (Nat.ble_eq_true_of_le (by rw [Int.toNat_natCast];simp;omega)) ?_
  rw [hst]
  repeat' (first|refine JU ?_|refine am ?_|refine JG a5 JA ?_)
  refine aP [0,1,6,22,23] (α:=Nat) (fun k=>[(24,aF k)]) (fun k=>k≤(p::q).length) (fun k=>jm wb E (some m) (run.set p { x with Glyph:=g,Cluster:=dR run ((p::q).take k) x.Cluster })) (fun k=>(p::q).length - k) 0 rfl ⟨rfl,trivial⟩ (Nat.zero_le _) (fun _ _ h=>xL h) fun k hk=>?_
  · try dsimp only [Jt,Js,Jr,Kz]
    repeat' (first|refine JU ?_|refine JG a5 JA ?_)
    refine ar rfl (fun h=>?_) (fun h=>?_)
    · have hk2:k < (p::q).length:=by have:=Jz h;omega
      obtain ⟨j,hj⟩:∃z,(p::q)[k]?=some z:=⟨_,Hb hk2⟩
      have hjg:(bY (p::q))[k]?=some [aF j]:=by unfold bY;exact bO (by rw [List.getElem?_map,hj];rfl)
      have hjl:=hp j (Jx hj)
      obtain ⟨y,hy⟩:∃z,run[j]?=some z:=⟨_,Hb hjl⟩
      have htk:(p::q).take (k+1)=(p::q).take k++[j]:=by rw [List.take_add_one,hj];rfl
      have hle:=sr (l:=(p::q).take k) (run:=run) (c:=x.Cluster)
      have hnew:dR run ((p::q).take (k+1)) x.Cluster=min (dR run ((p::q).take k) x.Cluster) y.Cluster:=by
        unfold dR
        rw [htk,List.foldl_append]
        show lc run _ j=_
        unfold lc
        rw [hy]
      generalize dR run ((p::q).take k) x.Cluster=c at *
      have hxp:(run.set p { x with Glyph:=g,Cluster:=c })[p]?=some { x with Glyph:=g,Cluster:=c }:=List.getElem?_set_self hil
      obtain ⟨y2,hy2,hyc⟩:∃y2,(run.set p { x with Glyph:=g,Cluster:=c })[j]?=some y2∧min c y2.Cluster=min c y.Cluster:=by
        by_cases hjp:j=p
        · subst hjp
          rw [hx] at hy
          cases hy
          exact ⟨_,hxp,by dsimp only;omega⟩
        · exact ⟨y,by rw [List.getElem?_set_ne (fun e=>hjp e.symm)];exact hy,rfl⟩
      have hf1:=oL (j:=1) m.junk hxp rfl
      have hf2:=oL (j:=1) m.junk hy2 rfl
      have hst2:=kY (j:=1) { x with Glyph:=g,Cluster:=min c y2.Cluster } (aF (min c y2.Cluster)) m.junk hxp (by omega) rfl
      have hsl:(run.set p { x with Glyph:=g,Cluster:=c }).length=run.length:=List.length_set ..
      have hfl2:=hflj { x with Glyph:=g,Cluster:=c }
      clear h
      repeat' (first|refine JU ?_|refine am ?_|refine JG a5 JA ?_|(apply aL;first|refine aK a5 ?_|refine aG a5 ?_)|fail)
      refine br 14 [(0,.v),(1,.v),(2,.v),(3,.v),(4,.l),(5,.v),(6,.v),(7,.v),(8,.l),(9,.v),(10,.v),(11,.v),(12,.l),(13,.v)] none ?_ trivial rfl (by kernel_rfl) (by kernel_rfl) (by kernel_rfl) bQ (by kernel_rfl) rfl
      repeat' (first|refine aD ?_|refine b8 a5 ?_|fail)
      refine ce a5 1 rfl rfl rfl hf1 trivial ?_
      repeat' (first|refine aD ?_|refine b8 a5 ?_|refine ce a5 0 rfl rfl rfl rfl (by first|trivial|rfl) ?_)
      refine dk a5 rfl rfl rfl ⟨by omega,by omega⟩ trivial ?_
      repeat' (first|refine aD ?_|refine b8 a5 ?_|fail)
      refine ce a5 1 rfl rfl rfl hf2 trivial ?_
      repeat' (first|refine aD ?_|refine b8 a5 ?_|fail)
      refine JQ [0,1,6,22,23,24,28,41] JA ?_
      repeat' (first|refine JG a5 JA ?_)
      refine aa a5 1 rfl rfl rfl rfl rfl rfl (Nat.ble_eq_true_of_le (by rw [Int.toNat_natCast];simp only [hfl2];simp;omega)) ?_
      rw [hst2]
      repeat' (first|refine JU ?_|refine JG a5 JA ?_|(apply aS;refine aQ ?_)|fail)
      refine aC (k+1) rfl ⟨by rw [Jw];rfl,trivial⟩ (by omega) (by omega) (fun _ _ h=>?_)
      have h4:=xL h
      rw [List.set_set] at h4
      rw [hnew,←hyc]
      exact h4
    · have hke:k=(p::q).length:=by have:=Jy h;omega
      subst hke
      rw [List.take_length]
      clear h
      have hR:(run.set p { x with Glyph:=g,Cluster:=dR run (p::q) x.Cluster }).length=run.length:=List.length_set ..
      have hqR:=hq.set p { x with Glyph:=g,Cluster:=dR run (p::q) x.Cluster }
      generalize run.set p { x with Glyph:=g,Cluster:=dR run (p::q) x.Cluster }=R at *
      obtain ⟨g1,g2,g3⟩:=hqR.fit m rfl
      repeat' (first|refine JU ?_|refine am ?_|refine JG a5 JA ?_|(apply aS;refine aQ ?_)|fail)
      refine aP [0,1] (α:=Nat×List AV) (fun s=>[(9,aF s.1)]) (fun s=>s.1≤q.length∧m.cap * 6≤(ca (f3 (q.drop s.1) R)++s.2).length) (fun s=>jm wb E (some ⟨m.rb,m.cap,s.2⟩) (f3 (q.drop s.1) R)) (fun s=>s.1) (q.length,m.junk) rfl ⟨by rw [hnl];simp;rfl,trivial⟩ ⟨Nat.le_refl _,by rw [List.drop_length];exact g3⟩ (fun _ _ h=>by rw [List.drop_length];exact h) ?_
      rintro ⟨n,junk⟩ ⟨hn,hj⟩
      dsimp only at hn hj ⊢
      try dsimp only [Jt,Js,Jr,Kz]
      repeat' (first|refine JU ?_|refine JG a5 JA ?_)
      refine ar rfl (fun h=>?_) (fun h=>?_)
      · have hn0:0 < n:=by have:=Jz h;omega
        obtain ⟨k,rfl⟩:∃k,n=k+1:=⟨n - 1,by omega⟩
        obtain ⟨z,hz⟩:∃z,q[k]?=some z:=⟨_,Hb (by omega)⟩
        have hzg:(bY (p::q))[((k+1:Nat):Int).toNat]?=some [aF z]:=by rw [Int.toNat_natCast];unfold bY;exact bO (by rw [Jr,List.getElem?_cons_succ,List.getElem?_map,hz];rfl)
        have hqd:q.drop k=z::q.drop (k+1):=by rw [List.drop_eq_getElem_cons (by omega),(Jq hz).2]
        have hqp:=(List.pairwise_cons.1 hs).2
        have hdp:(z::q.drop (k+1)).Pairwise (· < ·):=by rw [←hqd];exact hqp.sublist (List.drop_sublist ..)
        obtain ⟨d1,d2⟩:=List.pairwise_cons.1 hdp
        have hqm:∀y∈q,y < R.length:=fun y hy=>by rw [hR];exact hp y (by simp [hy])
        have hzl:=uE (R:=R) d2 (fun y hy=>⟨d1 y hy,hqm y (List.mem_of_mem_drop hy)⟩) (hqm z (Jx hz))
        have hdl:(f3 (q.drop (k+1)) R).length≤R.length:=lE.length_le
        have hdel:=zh m.rb m.cap (f3 (q.drop (k+1)) R) junk z hzl (by omega) h2 hj (by omega)
        have her:(f3 (q.drop (k+1)) R).eraseIdx z=f3 (q.drop k) R:=by rw [hqd];rfl
        rw [her] at hdel
        clear h
        repeat' (first|refine JU ?_|refine am ?_)
        refine br 15 [(0,.v),(1,.v),(2,.v),(3,.v),(4,.l),(5,.v),(6,.v),(7,.v),(8,.v),(9,.v),(10,.v),(11,.v),(12,.v),(13,.v),(14,.e)] none ?_ trivial rfl (by kernel_rfl) (by kernel_rfl) (by kernel_rfl) bQ (by kernel_rfl) rfl
        repeat' (first|refine aD ?_|refine b8 a5 ?_|(apply ea;refine fA ?_)|(apply bW;refine ci a5 ?_)|refine ce a5 0 rfl rfl rfl rfl (by first|trivial|rfl) ?_)
        refine j4 [(m.rb,.box (ca (f3 (q.drop (k+1)) R)++junk) 67)] [(wb,.box [.iptr (ei E),eX (some ⟨m.rb,m.cap,junk⟩) (f3 (q.drop (k+1)) R)] 102),dP] hdel rfl rfl II trivial fun c L1 ⟨hc,junk',hj',hL⟩=>?_
        subst hc;subst hL
        repeat' (first|fail)
        refine JQ [0,1,9,52,66] JA ?_
        refine aJ (aR H0) ?_
        repeat' (first|refine JU ?_|refine JG a5 JA ?_|(apply aS;refine aQ ?_)|(apply aM;first|refine JH a5 0 JE ?_|refine JH a5 1 JE ?_|refine JH a5 2 JE ?_|refine JH a5 3 JE ?_|fail))
        refine aC (k,junk') rfl ⟨?_,trivial⟩ ⟨by omega,hj'⟩ (by dsimp only;omega) (fun _ _ h=>h)
        show some (aF (((k+1:Nat):Int) - 1))=some (aF (k:Int))
        rw [show ((k+1:Nat):Int) - 1=(k:Int) by omega]
      · have hn0:n=0:=by have:=Jy h;omega
        subst hn0
        rw [List.drop_zero] at hj ⊢
        clear h
        repeat' (first|refine JU ?_|fail)
        have hdl:=(lE (q:=q) (run:=R)).length_le
        have hok:dV (some ⟨m.rb,m.cap,junk⟩) (f3 q R):=⟨fun e=>(by cases e),fun m' e=>by
          cases e
          exact ⟨by dsimp only;omega,h2,hj⟩⟩
        exact cH rfl ⟨some ⟨m.rb,m.cap,junk⟩,hok,rfl⟩
end Go.Proofs.YtpmdfoaadejmkaaGreatDoor
