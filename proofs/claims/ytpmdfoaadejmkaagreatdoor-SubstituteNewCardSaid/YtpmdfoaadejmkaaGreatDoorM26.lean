/-
  An engine's match.
-/
import Derived.Test.YtpmdfoaadejmkaaGreatDoorM25
namespace Go.Proofs.YtpmdfoaadejmkaaGreatDoor
open Go.RowKit
section
attribute [local irreducible] AT bP AX AO Av Kt bb dh DA cG
theorem yL (l:List Int) (z:Int):bV Tryz.prog 190 [.imm 1 (aW l),aK z] (aK (if z∈l then (l.idxOf z:Nat) else -1)):=by
 refine aV Tryz.func190 rfl Tryz.ntmps190 rfl fun B=>?_
 refine cR 0 rfl rfl fun hlen=>?_
 have hll:=aJ l
 rw [hll] at hlen
 refine W03 ?_
 refine aM [0,1,7] (α:=Nat) (fun i=>[(8,aK i)]) (fun i=>i≤l.length∧z∉l.take i) (fun _=>[]) (fun i=>l.length - i) 0 rfl ⟨rfl,trivial⟩ ⟨Nat.zero_le _,by simp⟩ (fun _ _ h=>h) fun i hi=>?_
 try dsimp only [Ns,Nr,Nq,Nk]
 refine W01 ?_
 refine aj rfl (fun h=>?_) (fun h=>?_)
 ·have hil:i < l.length:=by have:=Ny h;omega
  obtain ⟨y,hy⟩:∃z,l[i]?=some z:=⟨_,Nz hil⟩
  have hzg:=bK hy
  have htk:l.take (i+1)=l.take i++[y]:=by rw [List.take_add_one,hy];rfl
  clear h
  refine W0a ?_
  refine aj rfl (fun h2=>?_) (fun h2=>?_)
  ·have h2':=Ny h2
   subst h2'
   refine W01 ?_
   refine NM IG ?_
   have hm:=Nw hy
   have:l.idxOf z=i:=by
    have e:l=l.take i++z::l.drop (i+1):=by
     conv=>lhs;rw [←List.take_append_drop i l,List.drop_eq_getElem_cons hil,(Np hy).2]
    rw [e,List.idxOf_append,if_neg hi.2,List.idxOf_cons_self,List.length_take]
    omega
   rw [if_pos hm,this]
  ·have h2':=Nx h2
   refine W02 ?_
   exact aC (i+1) rfl ⟨by rw [Nv];rfl,trivial⟩ ⟨by omega,by rw [htk];simp [hi.2];exact h2'⟩ (by omega) (fun _ _ h=>h)
 ·have hil:i=l.length:=by have:=Nx h;omega
  subst hil
  rw [List.take_length] at hi
  refine W01 ?_
  refine NM IG ?_
  rw [if_neg hi.2]
instance (l:List Int) (z:Int):AD Tryz.prog 190 [.imm 1 (aW l),aK z] (aK (if z∈l then (l.idxOf z:Nat) else -1)):=⟨yL l z⟩
theorem t2 (l:List Int) (z:Int):bV Tryz.prog 187 [.imm 1 (aW l),aK z] (dy (l.contains z)):=by
 refine aV Tryz.func187 rfl Tryz.ntmps187 rfl fun B=>?_
 refine W0e ?_
 refine NM IG ?_
 congr 2
 by_cases h:z∈l
 ·rw [if_pos h,decide_eq_true (by omega)];simp [h]
 ·rw [if_neg h,decide_eq_false (by omega)];simp [h]
instance (l:List Int) (z:Int):AD Tryz.prog 187 [.imm 1 (aW l),aK z] (dy (l.contains z)):=⟨t2 l z⟩
structure lN (e:qU):Prop where
 few:e.l.Rules.length≤6
 ends:uq e
 fore:∀gl,gQ e.cls e.fore e.foreE gl=cE (fy (e.l.Rules.map ep) (tJ e.l.Rules) gl) (e.l.Rules.map ep).length
 back:∀gl,gQ e.cls e.back e.backE gl=cE (fy (e.l.Rules.map bk.Back) (fun _=>true) gl) (e.l.Rules.map bk.Back).length
 long:gP e.l.Rules≤1000000∧jv e.l.Rules≤1000000
section
variable {e:qU} (h:lN e)
include h
theorem lN.lt (bg fg:List Int):gQ e.cls e.back e.backE bg &&& gQ e.cls e.fore e.foreE fg < 64:=by
 have h1:=Nat.and_le_right (n:=gQ e.cls e.back e.backE bg) (m:=gQ e.cls e.fore e.foreE fg)
 have h2:=oa (fy (e.l.Rules.map ep) (tJ e.l.Rules) fg) (e.l.Rules.map ep).length
 rw [←h.fore fg,Nu] at h2
 have h3:2 ^ e.l.Rules.length≤2 ^ 6:=Nat.pow_le_pow_right (by omega) h.few
 have:(2:Nat) ^ 6=64:=rfl
 omega
theorem lN.first (ms:List Bool) (run:List bc) (i:Nat):uK (gQ e.cls e.back e.backE (((o9 ms e.l.Ignore run i).take (jv e.l.Rules)).map (hH run)) &&& gQ e.cls e.fore e.foreE (((fk ms e.l.Ignore run i).take (gP e.l.Rules)).map (hH run)))=match e.l.Rules.findIdx? (gD ms e.l.Ignore run i) with
  | some n=>(n:Int)
  | none=> -1:=by
 have hlt:=h.lt (((o9 ms e.l.Ignore run i).take (jv e.l.Rules)).map (hH run)) (((fk ms e.l.Ignore run i).take (gP e.l.Rules)).map (hH run))
 rw [h.fore,h.back] at hlt ⊢
 have ht:=yr (ms:=ms) (ig:=e.l.Ignore) (run:=run) (i:=i) (rs:=e.l.Rules) fun n=>BF (rs:=e.l.Rules) (n:=n)
 generalize (cE (fy (e.l.Rules.map bk.Back) _ _) _ &&& _)=b at ht hlt ⊢
 obtain ⟨k1,k2⟩:=yP (q:=gD ms e.l.Ignore run i) (l:=e.l.Rules) ht
 unfold uK
 cases hf:e.l.Rules.findIdx? (gD ms e.l.Ignore run i) with
 | none=>rw [k2 hf];rfl
 | some n=>
  obtain ⟨k3,k4⟩:=k1 n hf
  have hn:=(List.findIdx?_eq_some_iff_getElem.1 hf).1
  have hf:=h.few
  rw [if_neg (fun e=>by rw [e,Nat.zero_testBit] at k3;cases k3)]
  exact GB b hlt n (by omega) k3 k4
end
theorem ww:∀{ss:List (List Int)} {gl:List Int},fK ss gl=true→ss.length≤gl.length
 | [],_,_=>Nat.zero_le _
 | _::_,[],h=>by cases h
 | _::ss,_::gl,h=>by
  rw [fK,Bool.and_eq_true] at h
  have:=ww h.2
  simp;omega
theorem qJ {ms:List Bool} {ig:Bool} {run:List bc} {i:Nat} {r:bk} (h:gD ms ig run i r=true):0 < r.In.length∧r.In.length≤(fk ms ig run i).length:=by
 unfold gD at h
 rw [Bool.and_eq_true,Bool.and_eq_true] at h
 have h1:=ww h.2.1
 rw [List.length_append,Nu] at h1
 constructor
 ·have:=h.1
  cases hr:r.In with
  | nil=>rw [hr] at this;cases this
  | cons a b=>simp
 ·omega
theorem Fj {rs:List bk} {r:bk} (h:r∈rs):r.In.length≤gP rs:=by
 have:=(ou (g:=fun r:bk=>r.In.length+r.Ahead.length) (m:=0)).2 r h
 unfold gP
 omega
theorem Gi {ms:List Bool} {ig:Bool} {run:List bc} {i:Nat}:jO ms ig run true (i:Int)=fk ms ig run i:=by
 unfold jO
 rw [if_pos rfl,Int.toNat_natCast]
theorem zy {ms:List Bool} {ig:Bool} {run:List bc} {i:Nat}:jO ms ig run false ((i:Int) - 1)=o9 ms ig run i:=by
 unfold jO
 simp only [Bool.false_eq_true,if_false]
 rw [show ((i:Int) - 1+1).toNat=i by omega]
def mq (E:qV) (l:aY) (run:List bc) (i:Nat) (forms:List Int):AV:=match fC E.ms l run i forms with
 | none=> .tup [Mq,.sc (.slice none 0 0)]
 | some r=> .tup [.iptr (bI (fF r)),.imm 1 (dZ (er E.ms l run i r))]
abbrev ke (wb:Nat) (E:qV) (q:Option gV) (run:List bc):AL:=xI wb (.iptr (eZ E)) q run++[eu]
set_option maxHeartbeats 4000000 in
theorem sd (E:qV) (e:qU) (he:lN e) (wb:Nat) (q:Option gV) (run:List bc) (hq:eG q run) (hr:run.length≤1000000) (i:Nat) (hi0:i≤1000000) (forms:List Int):AC Tryz.prog 102 [gT wb,.iptr (gk e),aK i,.imm 1 (aW forms)] (ke wb E q run) fun c L=>c=mq E e.l run i forms∧L=ke wb E q run:=by
 refine aV Tryz.func102 rfl Tryz.ntmps102 rfl fun B=>?_
 have hfl:=aJ forms
 refine cR 3 rfl rfl fun hlen=>?_
 by_cases hi:i < run.length
 ·obtain ⟨m,rfl⟩:=hq.lt hi
  obtain ⟨x,hx⟩:∃x,run[i]?=some x:=⟨_,Nz hi⟩
  have hse:=vq E e wb m run i x hx
  refine W0p ?_
  refine cu [0,1,2,3] (qK E.ms e.l.Ignore x=false) rfl (fun Q' K=>?_) (fun hC=>?_) (fun hC=>?_)
  ·repeat' (first|refine Ng ?_|refine NG a5 IG ?_|refine NN IG ?_|refine NO NB ?_|refine NR NA (fun _=>?_) (fun _=>?_))
   ·refine b7 (xI wb (.iptr (eZ E)) (some m) run) [eu] hse rfl rfl (Nn _) rfl fun c L1 ⟨hc,hL⟩=>?_
    subst hc;subst hL
    refine W0I ?_
    exact K _ _ rfl rfl (by simp)
   ·rename_i hx2
    have:=Ny hx2
    omega
  ·have hm:fC E.ms e.l run i forms=none:=by
    unfold fC
    rw [if_neg]
    unfold nz
    rw [hx]
    dsimp only
    rw [hC]
    simp
   unfold mq
   rw [hm]
   refine W01 ?_
   exact NT NA ⟨rfl,rfl⟩
  have hC:qK E.ms e.l.Ignore x=true:=by simpa using hC
  have h2:=qu (j:=2) m.junk hx rfl
  refine W01 ?_
  refine cu [0,1,2] (forms≠[]∧forms.contains x.Form=false) rfl (fun Q' K=>?_) (fun hC2=>?_) (fun hC2=>?_)
  ·repeat' (first|refine Ng ?_|refine NG a5 IG ?_|refine NN IG ?_|refine NO NB ?_|(apply bz;first|refine NJ a5 0 NC ?_|refine NJ a5 1 NC ?_|refine NJ a5 2 NC ?_|refine NJ a5 3 NC ?_|refine NK a5 0 NC ?_|refine NK a5 1 NC ?_|refine NK a5 2 NC ?_|refine NL a5 1 NA (by assumption) rfl ?_|refine NL a5 0 NA (by assumption) rfl ?_|fail)|(apply aO;first|refine aN a5 ?_|refine aF a5 ?_)|(apply bA;refine bw ?_)|refine NR NA (fun _=>?_) (fun _=>?_))
   all_goals exact K _ _ rfl rfl (by cases forms <;> simp_all)
  ·have hm:fC E.ms e.l run i forms=none:=by
    unfold fC
    rw [if_neg]
    unfold nz
    rw [hx]
    dsimp only
    rw [hC2.2]
    cases forms with
    | nil=>exact absurd rfl hC2.1
    | cons a b=>simp
   unfold mq
   rw [hm]
   refine W01 ?_
   exact NT NA ⟨rfl,rfl⟩
  have hbe:nz E.ms e.l.Ignore run i forms=true:=by
   unfold nz
   rw [hx]
   dsimp only
   rw [hC]
   cases forms with
   | nil=>rfl
   | cons a b=>cases hcc:(a::b).contains x.Form with
    | true=>rfl
    | false=>exact absurd ⟨by simp,hcc⟩ hC2
  have hmv:fC E.ms e.l run i forms=e.l.Rules.find? (gD E.ms e.l.Ignore run i):=by
   unfold fC
   rw [if_pos hbe]
  have s1:=B5 E e wb (some m) run hq hr true i ⟨by omega,fun _=>by omega,fun h=>by cases h⟩ (by omega) (gP e.l.Rules)
  have s2:=B5 E e wb (some m) run hq hr false ((i:Int) - 1) ⟨by omega,fun h=>(by cases h),fun _=>by omega⟩ (by omega) (jv e.l.Rules)
  rw [Gi] at s1
  rw [zy] at s2
  have hfirst:=he.first E.ms run i
  refine W01 ?_
  refine b7 (xI wb (.iptr (eZ E)) (some m) run) [eu] s1 rfl rfl (Nn _) rfl fun c L1 ⟨hc,hL⟩=>?_
  subst hc;subst hL
  refine W02 ?_
  refine b7 (xI wb (.iptr (eZ E)) (some m) run) [eu] s2 rfl rfl (Nn _) rfl fun c L1 ⟨hc,hL⟩=>?_
  subst hc;subst hL
  refine W01 ?_
  refine b7 [eu] (xI wb (.iptr (eZ E)) (some m) run) (Bl e he.ends _ _ (he.lt _ _)) rfl rfl List.perm_append_comm rfl fun c L1 ⟨hc,hL⟩=>?_
  subst hc;subst hL
  refine aL (aQ (L':=ke wb E (some m) run) List.perm_append_comm) ?_
  rw [hfirst]
  unfold mq
  rw [hmv,EU]
  cases hfi:e.l.Rules.findIdx? (gD E.ms e.l.Ignore run i) with
  | none=>
   dsimp only [Option.bind_none]
   refine W0s ?_
   exact NT NA ⟨rfl,rfl⟩
  | some n=>
   obtain ⟨hn,hn1,hn2⟩:=List.findIdx?_eq_some_iff_getElem.1 hfi
   obtain ⟨r,hrr⟩:∃r,e.l.Rules[n]?=some r:=⟨_,Nz hn⟩
   rw [(Np hrr).2] at hn1
   obtain ⟨hin0,hin⟩:=qJ hn1
   have hfm:=Fj (Nw hrr)
   have hrg:((kc e.l).Rules.map bI)[n]?=some (bI (fF r)):=by simp [kc,hrr]
   have hpl:((fk E.ms e.l.Ignore run i).take (gP e.l.Rules)).take r.In.length=er E.ms e.l run i r:=by
    unfold er
    rw [List.take_take,Nat.min_eq_left hfm]
   have hnl:=mR ((fk E.ms e.l.Ignore run i).take (gP e.l.Rules))
   rw [List.length_take] at hnl
   have hril:=bO r.In
   dsimp only [Option.bind_some]
   rw [hrr]
   dsimp only
   repeat' (first|refine Ng ?_|refine NG a5 IG ?_|(apply aO;first|refine aN a5 ?_|refine aF a5 ?_)|refine bJ rfl ?_)
   refine bv 6 [(0,.v),(1,.v),(2,.v),(3,.v),(4,.v),(5,.v)] none ?_ trivial rfl (by kernel_rfl) (by kernel_rfl) (by kernel_rfl) bQ (by kernel_rfl) rfl
   refine W09 ?_
   refine Hi a5 r.In.length rfl rfl rfl rfl rfl rfl (by rw [show (fF r).In=r.In from rfl,hril]) (by rw [show (fF r).In=r.In from rfl,hril]) (by omega) trivial ?_
   rw [show (dZ ((fk E.ms e.l.Ignore run i).take (gP e.l.Rules))).take r.In.length=dZ (er E.ms e.l run i r) by rw [←hpl];unfold dZ aW;rw [←List.map_take,←List.map_take]]
   refine W09 ?_
   refine NP [8,99] IG ?_
   refine W0k ?_
   exact NT NA ⟨rfl,rfl⟩
 ·have hm:fC E.ms e.l run i forms=none:=by
   unfold fC
   rw [if_neg]
   unfold nz
   rw [List.getElem?_eq_none (by omega)]
   exact fun h=>by cases h
  unfold mq
  rw [hm]
  refine W0p ?_
  refine cu [0,1,2,3] True rfl (fun Q' K=>?_) (fun hC=>?_) (fun hC=>absurd trivial hC)
  ·refine nK a5 rfl hq rfl rfl ?_
   repeat' (first|refine Ng ?_|refine NG a5 IG ?_|refine NN IG ?_|refine NO NB ?_|refine NR NA (fun _=>?_) (fun _=>?_))
   ·rename_i h
    have:=Nx h
    omega
   ·exact K _ _ rfl rfl (by simp)
  ·refine W01 ?_
   exact NT NA ⟨rfl,rfl⟩
end
section
variable {P:Program} {tt:TT} {l:List Oper} {fr:cf} {fin:jR} {sk:n7} {acc:cf} {L:AL} {k:Nat} {dd:Option Tmp} {ty t:TypeId} {pos:String} {af:Array Edge} {g:Option (Nat×Bool)}
theorem Ex (ok:eF P tt) {zs:List Value} (hz:zI tt t=some zs) (h1:zs.all (·.oneCell')=true) (hg:jh ⟨dd,.alloc t,ty,pos,af,g⟩ acc) (h:∀b,DA P l fr fin sk ((k,.sc (.pointer (some ⟨b,0,none⟩)))::acc) ((b,.box (zs.map .sc) t)::L)):
  cG P l fr fin k .a ⟨dd,.alloc t,ty,pos,af,g⟩ sk acc L:=
 ED (fun c L' ⟨b,_,h2⟩=>⟨[(b,_)],h2⟩) hg (fun _=>kq (dX ok hz) h1) fun c L' ⟨b,h1,h2⟩=>by subst h1;subst h2;exact h b
end
section
attribute [local irreducible] AT bP AX AO Av Kt bb dh DA cG
theorem md {run:List bc} {i j:Nat} {x:bc} (y:bc) (v:AV) (junk:List AV) (h:run[i]?=some x) (hj:j < 6) (hy:cP y=(cP x).set j v):fS (ct run++junk) (0+((i:Nat):Int).toNat * 6+j) [v]=ct (run.set i y)++junk:=by
 rw [fT,Int.toNat_natCast,Nat.zero_add]
 have hi:=(Np h).1
 have hl:=dT run
 rw [List.set_append,if_pos (by omega)]
 congr 1
 unfold ct
 have hm:(run.map cP)[i]?=some (cP x):=by simp [h]
 rw [rT (sz:=6) (run.map cP) i j (cP x) v (fun e he=>by obtain ⟨z,_,rfl⟩:=List.mem_map.1 he;rfl) hm hj,←hy,List.map_set]
theorem pD (run:List bc) (junk:List AV) {k:Nat} (h:k≤run.length):(ct run++junk).take (k * 6)=ct (run.take k):=by
 have e:ct run=ct (run.take k)++ct (run.drop k):=by rw [←jo,List.take_append_drop]
 have hl:=dT (run.take k)
 rw [List.length_take,Nat.min_eq_left h] at hl
 rw [e,List.append_assoc,←hl,List.take_left]
theorem tG (run:List bc) (junk:List AV) {k:Nat} (h:k≤run.length):((ct run++junk).drop (k * 6)).take ((run.length - k) * 6)=ct (run.drop k):=by
 have e:ct run=ct (run.take k)++ct (run.drop k):=by rw [←jo,List.take_append_drop]
 have hl:=dT (run.take k)
 rw [List.length_take,Nat.min_eq_left h] at hl
 have hl2:=dT (run.drop k)
 rw [List.length_drop] at hl2
 rw [e,List.append_assoc,←hl,List.drop_left,←hl2,List.take_left]
theorem Cc (run:List bc) (junk:List AV) {i:Nat} {x:bc} (h:run[i]?=some x):((ct run++junk).drop (i * 6)).take 6=cP x:=by
 have hi:=(Np h).1
 have e:ct run=ct (run.take i)++(cP x++ct (run.drop (i+1))):=by
  rw [←nD,←jo]
  congr 1
  rw [←(Np h).2,List.getElem_cons_drop,List.take_append_drop]
 have hl:=dT (run.take i)
 rw [List.length_take,Nat.min_eq_left (by omega)] at hl
 rw [e,List.append_assoc,←hl,List.drop_left,List.append_assoc]
 exact List.take_left (l₁:=cP x)
theorem Fd (b k n:Nat) (cs:List AV) (hk:k * 6≤cs.length) (hk1:k≤1000000) (hn1:n≤2000000):AC Tryz.prog 259 [.sc (.slice (some ⟨b,0,none⟩) k k),aK n] [(b,.box cs 67)] fun c L=>
  (n=0∧c= .sc (.slice (some ⟨b,0,none⟩) k k)∧L=[(b,.box cs 67)])∨
  (0 < n∧∃b' cs' cap',c= .sc (.slice (some ⟨b',0,none⟩) k cap')∧cap' * 6≤cs'.length∧cs'.take (k * 6)=cs.take (k * 6)∧k+n≤cap'∧cap'≤maxLen∧L=[(b',.box cs' 67),(b,.box cs 67)]):=by
 refine aV Tryz.func259 rfl Tryz.ntmps259 rfl fun B=>?_
 refine W0W ?_
 refine v5 a5 rfl rfl rfl ?_
 refine W02 ?_
 refine aj rfl (fun h=>?_) fun h=>?_
 ·have hn0:0 < n:=by have:=Ny h;omega
  refine W01 ?_
  refine v5 a5 rfl rfl rfl ?_
  refine AI a5 k rfl rfl rfl rfl (Nat.le_refl _) rfl ?_
  repeat' (first|refine NG a5 IG ?_)
  refine yY a5 0 n rfl rfl rfl Tryz.underlying3 rfl rfl (by omega) hn0 rfl hk (Nat.le_refl _) (by omega) (by unfold maxLen;omega) (by omega) rfl fun b' cs' cap' h1 h2 h3 h4=>?_
  repeat' (first|refine NG a5 IG ?_)
  refine AI a5 k rfl rfl rfl rfl (by omega) rfl ?_
  refine W01 ?_
  exact NM IG (.inr ⟨hn0,b',cs',cap',rfl,h1,h2,h3,h4,rfl⟩)
 ·have hn0:n=0:=by have:=Nx h;omega
  refine W01 ?_
  exact NM IG (.inl ⟨hn0,rfl,rfl⟩)
theorem ub {fr:cf} {B:Bs} {L:AL} {y:Operand} {sz c:Nat} {A:Option Addr} (hy:bE fr y=some (.sc (.slice A 0 c))):uu fr B L y sz 0 []:=fun σ ρ w hρ _=>⟨A,c,[],(hρ y _ hy).sc_inv,dI.nil,by simp,by simp,fun h=>by omega⟩
theorem yw {run:List bc} (junk:List AV) {i:Nat} {x:bc} (h:run[i]?=some x):((ct run++junk).drop (0+((i:Nat):Int).toNat * 6)).take 6=cP x:=by
 rw [Int.toNat_natCast,Nat.zero_add]
 exact Cc run junk h
def zl (x:bc) (l:List Int):List bc:=l.map fun g=>{ x with Glyph:=g }
theorem G3 (x:bc) (l:List Int):(zl x l).length=l.length:=by simp [zl]
theorem Kd {a b:Nat×AB} {X:AL}:(a::b::X).Perm (b::a::X):=List.Perm.swap ..
theorem Mt {a b c d:Nat×AB}:[a,b,c,d].Perm [c,b,d,a]:=(List.Perm.cons a (List.Perm.swap c b _)).trans ((List.Perm.swap c a _).trans ((((List.Perm.swap b a _).trans ((List.Perm.swap d a _).cons b))).cons c))
theorem Mu {a b c d:Nat×AB} {X:AL}:((a::X)++[b,c,d]).Perm (b::a::c::d::X):=(List.perm_append_comm (l₁:=a::X) (l₂:=[b,c,d])).trans (((List.Perm.swap a d _).cons c |>.trans (List.Perm.swap a c _)).cons b)
set_option maxHeartbeats 4000000 in
theorem FI (E:qV) (wb:Nat) (m:gV) (run:List bc) (hq:eG (some m) run) (hr:run.length≤1000000) (i:Nat) (x:bc) (hx:run[i]?=some x) (r:bk) (ho:r.Out.length≤1000000):AC Tryz.prog 191 [gT wb,aK i,.imm 1 (aW r.Out)] (ke wb E (some m) run) fun _ L=>∃q',eG q' (jJ r i run)∧L=ke wb E q' (jJ r i run):=by
 refine aV Tryz.func191 rfl Tryz.ntmps191 rfl fun B=>?_
 have hil:=(Np hx).1
 have hol:=aJ r.Out
 obtain ⟨h1,h2,h3⟩:=hq.fit m rfl
 have hfl:=dT run
 have hmv:jJ r i run=if run.length - 1+r.Out.length > 500∧1 < r.Out.length then run else run.take i++zl x r.Out++run.drop (i+1):=by
  unfold jJ
  rw [hx]
  rfl
 have hit:=yw m.junk hx
 unfold maxLen at h2
 refine W0o ?_
 refine cu [0,1,2] (run.length - 1+r.Out.length > 500∧1 < r.Out.length) rfl (fun Q' K=>?_) (fun hC=>?_) (fun hC=>?_)
 ·repeat' (first|refine Ng ?_|refine NG a5 IG ?_|refine NN IG ?_|refine NO NB ?_|refine NR NA (fun _=>?_) (fun _=>?_))
  all_goals exact K _ _ rfl rfl (by simp_all <;> omega)
 ·rw [if_pos hC] at hmv
  repeat' (first|refine Ng ?_|fail)
  exact o8 rfl ⟨some m,by rw [hmv];exact hq,by rw [hmv]⟩
 rw [if_neg hC] at hmv
 repeat' (first|refine Ng ?_|fail)
 refine dM [.cell (wb,1,fE (some m) run)] 17 [(0,.v),(1,.v),(2,.v),(3,.l),(4,.v),(5,.v),(6,.l),(7,.v),(8,.v),(9,.v),(10,.k),(11,.v),(12,.v),(13,.v),(14,.a),(15,.f),(16,.v)] none ?_ trivial rfl (by kernel_rfl) (by kernel_rfl) (by kernel_rfl) bQ (by kernel_rfl) rfl
 refine W0m ?_
 refine du a5 rfl rfl rfl ⟨by omega,by omega⟩ trivial ?_
 repeat' (first|refine aD ?_|fail)
 refine r5 a5 1 rfl rfl rfl (Nat.ble_eq_true_of_le (by rw [Int.toNat_natCast];simp;omega)) trivial ?_
 rw [hit]
 refine W09 ?_
 refine eo a5 0 rfl rfl rfl (oC 0 rfl rfl) trivial ?_
 refine W0x ?_
 refine Ah a5 (i+1) rfl rfl rfl (by omega) (by omega) h1 trivial ?_
 repeat' (first|refine aD ?_|fail)
 refine Ex a5 rfl rfl trivial fun ib=>?_
 repeat' (first|refine aD ?_|fail)
 refine EC a5 0 rfl rfl rfl rfl rfl rfl rfl (oC 1 rfl rfl) trivial fun _=>?_
 refine W09 ?_
 refine NP [0,1,2,7,8] IG ?_
 repeat' (first|refine Ng ?_|refine a7 ?_|refine NG a5 IG ?_|(apply bz;first|refine NJ a5 0 NC ?_|refine NJ a5 1 NC ?_|refine NJ a5 2 NC ?_|refine NJ a5 3 NC ?_|refine NK a5 0 NC ?_|refine NK a5 1 NC ?_|refine NK a5 2 NC ?_|refine NL a5 1 NA (by assumption) rfl ?_|refine NL a5 0 NA (by assumption) rfl ?_|fail)|fail)
 refine K4 a5 i rfl rfl rfl rfl rfl rfl (by omega) rfl ?_
 repeat' (first|refine NG a5 IG ?_|(apply aS;refine aR ?_)|fail)
 have hfll:(ct run++m.junk).length=run.length * 6+m.junk.length:=by rw [List.length_append,hfl]
 have hti:=pD run m.junk (Nat.le_of_lt hil)
 have hgr:=Fd m.rb i (r.Out.length+(run.length - (i+1))) (ct run++m.junk) (by omega) (by omega) (by omega)
 refine aL (aQ (L':=(m.rb,.box (ct run++m.junk) 67)::[(wb,.box [.iptr (eZ E),fE (some m) run] 102),eu,(ib,.box (cP x) 67)]) ?_) ?_
 ·exact Mt
 refine b7 [(m.rb,.box (ct run++m.junk) 67)] [(wb,.box [.iptr (eZ E),fE (some m) run] 102),eu,(ib,.box (cP x) 67)] hgr rfl (by rw [hol];rfl) (Nn _) rfl fun c L1 hp=>?_
 obtain ⟨db,dcs,dcap,X,hc,hL,hd1,hd2,hd3,pH,hX⟩:∃db dcs dcap X,c= .sc (.slice (some ⟨db,0,none⟩) i dcap)∧L1=(db,.box dcs 67)::X∧dcap * 6≤dcs.length∧dcs.take (i * 6)=ct (run.take i)∧i+(r.Out.length+(run.length - (i+1)))≤dcap∧dcap≤maxLen∧(r.Out.length+(run.length - (i+1))=0∨X=[(m.rb,.box (ct run++m.junk) 67)]):=by
  rcases hp with ⟨h0,hc,hL⟩ | ⟨h0,b',cs',cap',hc,h4,h5,h6,h7,hL⟩
  ·exact ⟨m.rb,_,i,[],hc,hL,by omega,hti,by omega,by unfold maxLen;omega,.inl h0⟩
  ·exact ⟨b',cs',cap',_,hc,hL,h4,by rw [h5,hti],h6,h7,.inr rfl⟩
 subst hc;subst hL
 unfold maxLen at pH
 refine aL (aQ (L':=(wb,.box [.iptr (eZ E),fE (some m) run] 102)::(db,.box dcs 67)::eu::(ib,.box (cP x) 67)::X) ?_) ?_
 ·exact Mu
 refine W03 ?_
 refine aM [0,7,8,59,60] (α:=Nat×Int×List AV) (fun s=>[(61,aK s.1),(9,.sc (.slice (some ⟨db,0,none⟩) (i+s.1:Nat) dcap))]) (fun s=>s.1≤r.Out.length∧dcap * 6≤s.2.2.length∧s.2.2.take ((i+s.1) * 6)=ct (run.take i++zl x (r.Out.take s.1))) (fun s=>(wb,.box [.iptr (eZ E),fE (some m) run] 102)::(db,.box s.2.2 67)::eu::(ib,.box (cP { x with Glyph:=s.2.1 }) 67)::X) (fun s=>r.Out.length - s.1) (0,x.Glyph,dcs) rfl ⟨rfl,rfl,trivial⟩ ⟨Nat.zero_le _,hd1,by simpa [zl] using hd2⟩ (fun _ _ h=>h) ?_
 rintro ⟨k,g,cs⟩ ⟨hk,hcl,hct⟩
 dsimp only at hk hcl hct ⊢
 try dsimp only [Ns,Nr,Nq,Nk]
 refine W01 ?_
 refine aj rfl (fun h=>?_) (fun h=>?_)
 ·have hk2:k < r.Out.length:=by have:=Ny h;omega
  obtain ⟨y,hy⟩:∃z,r.Out[k]?=some z:=⟨_,Nz hk2⟩
  have hyg:=bK hy
  clear h
  repeat' (first|refine Ng ?_|refine ak ?_|refine NG a5 IG ?_|(apply aO;first|refine aN a5 ?_|refine aF a5 ?_)|(apply aI;first|refine NH a5 0 NE ?_|refine NH a5 1 NE ?_|refine NH a5 2 NE ?_|refine NH a5 3 NE ?_|fail))
  refine NK a5 3 NC ?_
  repeat' (first|refine bM a5 ?_|fail)
  refine mQ a5 1 rfl rfl rfl rfl (oT rfl rfl) rfl hcl (by omega) (by unfold maxLen;omega) (by simp;unfold maxLen;omega) (by simp;omega) rfl fun b' cs' cap' e1 e2 e3 e4 e5=>?_
  obtain ⟨e6,e7,e8⟩:=e5 (by simp;omega)
  subst e6;subst e7
  refine aL (aQ Kd) ?_
  refine W02 ?_
  refine aC (k+1,y,cs') rfl ⟨by rw [Nv];rfl,rfl,trivial⟩ ⟨hk2,e1,?_⟩ (by dsimp only;omega) (fun _ _ h=>h)
  rw [←Nat.add_assoc]
  refine e2.trans ?_
  rw [hct,show r.Out.take (k+1)=r.Out.take k++[y] by rw [List.take_add_one,hy];rfl]
  unfold zl
  rw [List.map_append,←List.append_assoc]
  refine Eq.trans ?_ (jo _ _).symm
  rfl
 ·have hke:k=r.Out.length:=by have:=Nx h;omega
  subst hke
  rw [List.take_length] at hct
  have hsrc:∀fr y B,bE fr y=some (.sc (.slice (some ⟨m.rb,if m.cap=i+1 then 0 else (i+1) * 6,none⟩) (run.length - (i+1)) (m.cap - (i+1))))→uu fr B ((wb,.box [.iptr (eZ E),fE (some m) run] 102)::(db,.box cs 67)::eu::(ib,.box (cP { x with Glyph:=g }) 67)::X) y 6 (run.length - (i+1)) (ct (run.drop (i+1))):=by
   intro fr y B hy
   by_cases hz:run.length - (i+1)=0
   ·rw [hz] at hy ⊢
    rw [List.drop_eq_nil_of_le (by omega)]
    exact ub hy
   ·rcases hX with hX | hX
    ·omega
    ·subst hX
     have hs:=xn (B:=B) (sz:=6) (L:=(wb,.box [.iptr (eZ E),fE (some m) run] 102)::(db,.box cs 67)::eu::(ib,.box (cP { x with Glyph:=g }) 67)::[(m.rb,.box (ct run++m.junk) 67)]) 4 hy rfl (by split <;> omega)
     rw [if_neg (by omega),tG run m.junk hil] at hs
     exact hs
  refine W01 ?_
  refine mQ a5 1 rfl rfl rfl rfl (hsrc _ _ _ rfl) rfl hcl (by omega) (by unfold maxLen;omega) (by unfold maxLen;omega) (by omega) rfl fun b' cs' cap' e1 e2 e3 e4 e5=>?_
  obtain ⟨e6,e7,e8⟩:=e5 (by omega)
  subst e6;subst e7
  refine aL (aQ Kd) ?_
  refine W05 ?_
  have hrun:jJ r i run=run.take i++zl x r.Out++run.drop (i+1):=hmv
  have hlen:(jJ r i run).length=i+r.Out.length+(run.length - (i+1)):=by
   rw [hrun,List.length_append,List.length_append,List.length_take,List.length_drop,G3]
   omega
  have hfl2:=dT (jJ r i run)
  have hcs:cs'=ct (jJ r i run)++cs'.drop ((i+r.Out.length+(run.length - (i+1))) * 6):=by
   conv=>lhs;rw [←List.take_append_drop ((i+r.Out.length+(run.length - (i+1))) * 6) cs',e2,hct]
   rw [hrun,jo _ (run.drop (i+1))]
  refine ea (L':=[(wb,.box [.iptr (eZ E),.sc (.slice (some ⟨b',0,none⟩) (i+r.Out.length+(run.length - (i+1)):Nat) cap')] 102),(b',.box cs' 67),eu]) (.cons_cons _ (.cons_cons _ (.cons_cons _ (List.nil_sublist _)))) ?_
  refine cD rfl ⟨some ⟨b',cap',cs'.drop ((i+r.Out.length+(run.length - (i+1))) * 6)⟩,⟨fun h=>(by cases h),fun m' hm'=>?_⟩,?_⟩
  ·cases hm'
   refine ⟨by rw [hlen];dsimp only;omega,by dsimp only;unfold maxLen;omega,?_⟩
   dsimp only
   rw [←hcs]
   exact e1
  ·unfold fE pR
   dsimp only
   rw [hlen,←hcs]
   rfl
theorem yu {run:List bc} {i:Nat} (hi:i < run.length):ct (run.eraseIdx i)=ct (run.take i)++ct (run.drop (i+1)):=by
 rw [List.eraseIdx_eq_take_drop_succ,jo]
set_option maxHeartbeats 2000000 in
theorem BV (b cap:Nat) (run:List bc) (junk:List AV) (i:Nat) (hi:i < run.length) (hc:run.length≤cap) (hm:cap≤maxLen) (hf:cap * 6≤(ct run++junk).length) (hr:run.length≤1000000):AC Tryz.prog 260 [.sc (.slice (some ⟨b,0,none⟩) run.length cap),aK i,aK ((i:Int)+1)] [(b,.box (ct run++junk) 67)] fun c L=>
  c= .sc (.slice (some ⟨b,0,none⟩) (run.eraseIdx i).length cap)∧∃junk',cap * 6≤(ct (run.eraseIdx i)++junk').length∧L=[(b,.box (ct (run.eraseIdx i)++junk') 67)]:=by
 refine aV Tryz.func260 rfl Tryz.ntmps260 rfl fun B=>?_
 have hfl:=dT run
 have hel:=List.length_eraseIdx_of_lt hi
 unfold maxLen at hm
 have hsrc:∀fr y B,bE fr y=some (.sc (.slice (some ⟨b,if cap=i+1 then 0 else (i+1) * 6,none⟩) (run.length - (i+1)) (cap - (i+1))))→uu fr B [(b,.box (ct run++junk) 67)] y 6 (run.length - (i+1)) (ct (run.drop (i+1))):=by
  intro fr y B hy
  by_cases hz:run.length - (i+1)=0
  ·rw [hz] at hy ⊢
   rw [List.drop_eq_nil_of_le (by omega)]
   exact ub hy
  ·have hs:=xn (B:=B) (sz:=6) (L:=[(b,.box (ct run++junk) 67)]) 0 hy rfl (by split <;> omega)
   rw [if_neg (by omega),tG run junk hi] at hs
   exact hs
 refine W01 ?_
 refine K3 a5 i (i+1) run.length rfl rfl rfl rfl rfl (by omega) rfl rfl (by omega) hi hc rfl ?_
 refine W01 ?_
 refine aj rfl (fun h=>?_) (fun _=>?_)
 ·have:=Ny h
  omega
 refine W01 ?_
 refine bv 6 [(0,.v),(1,.v),(2,.v),(3,.v),(4,.v),(5,.v)] none ?_ trivial rfl (by kernel_rfl) (by kernel_rfl) (by kernel_rfl) bQ (by kernel_rfl) rfl
 refine W09 ?_
 refine Hh a5 i rfl rfl rfl rfl (by omega) trivial ?_
 refine W09 ?_
 refine Ah a5 (i+1) rfl rfl rfl (by omega) hi hc trivial ?_
 refine NP [7,22,25] IG ?_
 refine mQ a5 0 rfl rfl rfl rfl (hsrc _ _ _ rfl) rfl hf (by omega) (by unfold maxLen;omega) (by unfold maxLen;omega) (by omega) rfl fun b' cs' cap' e1 e2 e3 e4 e5=>?_
 obtain ⟨e6,e7,e8⟩:=e5 (by omega)
 subst e6;subst e7
 refine W01 ?_
 have hn1:i+(run.length - (i+1))=(run.eraseIdx i).length:=by omega
 rw [hn1] at e2 ⊢
 refine K2 a5 (run.eraseIdx i).length run.length rfl rfl rfl rfl rfl rfl (by omega) hc rfl ?_
 have hcl:cap' * 6≤cs'.length:=e1
 have hce:cs'.take ((run.eraseIdx i).length * 6)=ct (run.eraseIdx i):=by
  rw [e2,pD run junk (by omega),yu hi]
 refine FL a5 0 (m:=(run.eraseIdx i).length) rfl rfl rfl rfl (.inl rfl) rfl ?_ fun cs2 g1 g2=>?_
 ·have h1:(run.eraseIdx i).length * 6+(run.length - (run.eraseIdx i).length) * 6=run.length * 6:=by omega
  rw [h1]
  omega
 refine W01 ?_
 refine NM IG ⟨rfl,cs2.drop ((run.eraseIdx i).length * 6),?_⟩
 have hj:ct (run.eraseIdx i)++cs2.drop ((run.eraseIdx i).length * 6)=cs2:=by
  rw [←hce,←g2,List.take_append_drop]
 rw [hj]
 exact ⟨by omega,rfl⟩
structure MW (run:List bc):Prop where
 len:run.length≤500
 mono:run.Pairwise fun a b=>a.Cluster≤b.Cluster
theorem mK:∀{q:List Nat} {run:List bc},(gg q run).Sublist run
 | [],_=>List.Sublist.refl _
 | p::q,run=>by rw [gg];exact (List.eraseIdx_sublist ..).trans mK
theorem wk {R:List bc}:∀{l:List Nat} {j:Nat},l.Pairwise (· < ·)→(∀z∈l,j < z∧z < R.length)→j < R.length→j < (gg l R).length
  | [],_,_,_,hj=>hj
  | z::l,j,hs,hl,hj=>by
    obtain ⟨h1,h2⟩:=List.pairwise_cons.1 hs
    have hz:=hl z (by simp)
    have:=wk (j:=z) h2 (fun y hy=>⟨h1 y hy,(hl y (by simp [hy])).2⟩) hz.2
    rw [gg,List.length_eraseIdx_of_lt this]
    omega
theorem tS:∀{l:List Nat} {run:List bc} {c:Int},j3 run l c≤c
 | [],_,_=>Int.le_refl _
 | p::l,run,c=>by
  have:=tS (l:=l) (run:=run) (c:=pJ run c p)
  have h2:pJ run c p≤c:=by unfold pJ;split <;> omega
  unfold j3 at this ⊢
  rw [List.foldl_cons]
  omega
theorem rl {wb:Nat} {E:qV} {m:gV} {run:List bc} {p:Nat} {y:bc}:fx (ke wb E (some m) run) 1 (.box (ct (run.set p y)++m.junk) 67)=ke wb E (some m) (run.set p y):=by
 show [(wb,AB.box [.iptr (eZ E),.sc (.slice (some ⟨m.rb,0,none⟩) run.length m.cap)] 102),(m.rb,.box (ct (run.set p y)++m.junk) 67),eu]=[(wb,AB.box [.iptr (eZ E),.sc (.slice (some ⟨m.rb,0,none⟩) (run.set p y).length m.cap)] 102),(m.rb,.box (ct (run.set p y)++m.junk) 67),eu]
 rw [List.length_set]
theorem A7 {B:Bs} {σ:cF} {w:World} {wb:Nat} {E:qV} {m:gV} {run:List bc} {p:Nat} {y:bc} (h:dw B σ (fx (ke wb E (some m) run) 1 (.box (ct (run.set p y)++m.junk) 67)) w):dw B σ (ke wb E (some m) (run.set p y)) w:=rl▸h
theorem eG.set {m:gV} {run:List bc} (h:eG (some m) run) (p:Nat) (y:bc):eG (some m) (run.set p y):=⟨fun e=>(by cases e),fun m' e=>by
 cases e
 obtain ⟨h1,h2,h3⟩:=h.fit m rfl
 rw [List.length_append,dT] at h3 ⊢
 rw [List.length_set]
 exact ⟨h1,h2,h3⟩⟩
theorem Mr {a b c:Nat×AB}:[a,b,c].Perm ([b]++[a,c]):=List.Perm.swap ..
set_option maxHeartbeats 4000000 in
theorem HQ (E:qV) (wb:Nat) (m:gV) (run:List bc) (hq:eG (some m) run) (hr:run.length≤1000000) (p:Nat) (q:List Nat) (hp:∀j∈p::q,j < run.length) (hs:(p::q).Pairwise (· < ·)) (x:bc) (hx:run[p]?=some x) (r:bk) (g:Int) (gs:List Int) (hg:r.Out=g::gs):AC Tryz.prog 192 [gT wb,.imm 1 (dZ (p::q)),aK g] (ke wb E (some m) run) fun _ L=>∃q',eG q' (oF r (p::q) run)∧L=ke wb E q' (oF r (p::q) run):=by
  refine aV Tryz.func192 rfl Tryz.ntmps192 rfl fun B=>?_
  refine cR 1 rfl rfl fun hlen=>?_
  have hil:=(Np hx).1
  have hnl:=mR (p::q)
  rw [hnl] at hlen
  have hql:q.length+1≤9223372036854775807:=hlen
  obtain ⟨h1,h2,h3⟩:=hq.fit m rfl
  have hfl:=dT run
  have hlv:oF r (p::q) run=gg q (run.set p { x with Glyph:=g,Cluster:=j3 run (p::q) x.Cluster }):=by
    unfold oF
    rw [hg]
    dsimp only
    rw [hx]
  rw [hlv]
  have hflj:∀y:bc,(ct (run.set p y)++m.junk).length=(ct run++m.junk).length:=fun y=>by rw [List.length_append,dT,List.length_set,List.length_append,hfl]
  have hp0:(dZ (p::q))[(0:Int).toNat]?=some [aK p]:=rfl
  have hst:=md (j:=0) { x with Glyph:=g } (aK g) m.junk hx (by omega) rfl
  repeat' (first|refine Ng ?_|fail)
  refine bv 7 [(0,.v),(1,.v),(2,.v),(3,.l),(4,.v),(5,.v),(6,.v)] none ?_ trivial rfl (by kernel_rfl) (by kernel_rfl) (by kernel_rfl) bQ (by kernel_rfl) rfl
  refine W0H ?_
  refine NP [0,1,2,13,16] IG ?_
  repeat' (first|refine Ng ?_|refine a7 ?_|refine NG a5 IG ?_|(apply aO;first|refine aN a5 ?_|refine aF a5 ?_)|fail)
  refine NV a5 1 ND (Nat.ble_eq_true_of_le (by rw [Int.toNat_natCast];simp;omega)) ?_
  rw [hst]
  refine W03 ?_
  refine aM [0,1,6,22,23] (α:=Nat) (fun k=>[(24,aK k)]) (fun k=>k≤(p::q).length) (fun k=>ke wb E (some m) (run.set p { x with Glyph:=g,Cluster:=j3 run ((p::q).take k) x.Cluster })) (fun k=>(p::q).length - k) 0 rfl ⟨rfl,trivial⟩ (Nat.zero_le _) (fun _ _ h=>A7 h) fun k hk=>?_
  · try dsimp only [Ns,Nr,Nq,Nk]
    refine W01 ?_
    refine aj rfl (fun h=>?_) (fun h=>?_)
    · have hk2:k < (p::q).length:=by have:=Ny h;omega
      obtain ⟨j,hj⟩:∃z,(p::q)[k]?=some z:=⟨_,Nz hk2⟩
      have hjg:(dZ (p::q))[k]?=some [aK j]:=by unfold dZ;exact bK (by rw [List.getElem?_map,hj];rfl)
      have hjl:=hp j (Nw hj)
      obtain ⟨y,hy⟩:∃z,run[j]?=some z:=⟨_,Nz hjl⟩
      have htk:(p::q).take (k+1)=(p::q).take k++[j]:=by rw [List.take_add_one,hj];rfl
      have hle:=tS (l:=(p::q).take k) (run:=run) (c:=x.Cluster)
      have hnew:j3 run ((p::q).take (k+1)) x.Cluster=min (j3 run ((p::q).take k) x.Cluster) y.Cluster:=by
        unfold j3
        rw [htk,List.foldl_append]
        show pJ run _ j=_
        unfold pJ
        rw [hy]
      generalize j3 run ((p::q).take k) x.Cluster=c at *
      have hxp:(run.set p { x with Glyph:=g,Cluster:=c })[p]?=some { x with Glyph:=g,Cluster:=c }:=List.getElem?_set_self hil
      obtain ⟨y2,hy2,hyc⟩:∃y2,(run.set p { x with Glyph:=g,Cluster:=c })[j]?=some y2∧min c y2.Cluster=min c y.Cluster:=by
        by_cases hjp:j=p
        · subst hjp
          rw [hx] at hy
          cases hy
          exact ⟨_,hxp,by dsimp only;omega⟩
        · exact ⟨y,by rw [List.getElem?_set_ne (fun e=>hjp e.symm)];exact hy,rfl⟩
      have hf1:=qu (j:=1) m.junk hxp rfl
      have hf2:=qu (j:=1) m.junk hy2 rfl
      have hst2:=md (j:=1) { x with Glyph:=g,Cluster:=min c y2.Cluster } (aK (min c y2.Cluster)) m.junk hxp (by omega) rfl
      have hsl:(run.set p { x with Glyph:=g,Cluster:=c }).length=run.length:=List.length_set ..
      have hfl2:=hflj { x with Glyph:=g,Cluster:=c }
      clear h
      refine W0a ?_
      refine bv 14 [(0,.v),(1,.v),(2,.v),(3,.v),(4,.l),(5,.v),(6,.v),(7,.v),(8,.l),(9,.v),(10,.v),(11,.v),(12,.l),(13,.v)] none ?_ trivial rfl (by kernel_rfl) (by kernel_rfl) (by kernel_rfl) bQ (by kernel_rfl) rfl
      refine W09 ?_
      refine ce a5 1 rfl rfl rfl hf1 trivial ?_
      refine W0m ?_
      refine du a5 rfl rfl rfl ⟨by omega,by omega⟩ trivial ?_
      refine W09 ?_
      refine ce a5 1 rfl rfl rfl hf2 trivial ?_
      refine W09 ?_
      refine NP [0,1,6,22,23,24,28,41] IG ?_
      repeat' (first|refine NG a5 IG ?_)
      refine NV a5 1 ND (Nat.ble_eq_true_of_le (by rw [Int.toNat_natCast];simp only [hfl2];simp;omega)) ?_
      rw [hst2]
      refine W02 ?_
      refine aC (k+1) rfl ⟨by rw [Nv];rfl,trivial⟩ (by omega) (by omega) (fun _ _ h=>?_)
      have h4:=A7 h
      rw [List.set_set] at h4
      rw [hnew,←hyc]
      exact h4
    · have hke:k=(p::q).length:=by have:=Nx h;omega
      subst hke
      rw [List.take_length]
      clear h
      have hR:(run.set p { x with Glyph:=g,Cluster:=j3 run (p::q) x.Cluster }).length=run.length:=List.length_set ..
      have hqR:=hq.set p { x with Glyph:=g,Cluster:=j3 run (p::q) x.Cluster }
      generalize run.set p { x with Glyph:=g,Cluster:=j3 run (p::q) x.Cluster }=R at *
      obtain ⟨g1,g2,g3⟩:=hqR.fit m rfl
      refine W0B ?_
      refine aM [0,1] (α:=Nat×List AV) (fun s=>[(9,aK s.1)]) (fun s=>s.1≤q.length∧m.cap * 6≤(ct (gg (q.drop s.1) R)++s.2).length) (fun s=>ke wb E (some ⟨m.rb,m.cap,s.2⟩) (gg (q.drop s.1) R)) (fun s=>s.1) (q.length,m.junk) rfl ⟨by rw [hnl];simp;rfl,trivial⟩ ⟨Nat.le_refl _,by rw [List.drop_length];exact g3⟩ (fun _ _ h=>by rw [List.drop_length];exact h) ?_
      rintro ⟨n,junk⟩ ⟨hn,hj⟩
      dsimp only at hn hj ⊢
      try dsimp only [Ns,Nr,Nq,Nk]
      refine W01 ?_
      refine aj rfl (fun h=>?_) (fun h=>?_)
      · have hn0:0 < n:=by have:=Ny h;omega
        obtain ⟨k,rfl⟩:∃k,n=k+1:=⟨n - 1,by omega⟩
        obtain ⟨z,hz⟩:∃z,q[k]?=some z:=⟨_,Nz (by omega)⟩
        have hzg:(dZ (p::q))[((k+1:Nat):Int).toNat]?=some [aK z]:=by rw [Int.toNat_natCast];unfold dZ;exact bK (by rw [Nq,List.getElem?_cons_succ,List.getElem?_map,hz];rfl)
        have hqd:q.drop k=z::q.drop (k+1):=by rw [List.drop_eq_getElem_cons (by omega),(Np hz).2]
        have hqp:=(List.pairwise_cons.1 hs).2
        have hdp:(z::q.drop (k+1)).Pairwise (· < ·):=by rw [←hqd];exact hqp.sublist (List.drop_sublist ..)
        obtain ⟨d1,d2⟩:=List.pairwise_cons.1 hdp
        have hqm:∀y∈q,y < R.length:=fun y hy=>by rw [hR];exact hp y (by simp [hy])
        have hzl:=wk (R:=R) d2 (fun y hy=>⟨d1 y hy,hqm y (List.mem_of_mem_drop hy)⟩) (hqm z (Nw hz))
        have hdl:(gg (q.drop (k+1)) R).length≤R.length:=mK.length_le
        have hdel:=BV m.rb m.cap (gg (q.drop (k+1)) R) junk z hzl (by omega) h2 hj (by omega)
        have her:(gg (q.drop (k+1)) R).eraseIdx z=gg (q.drop k) R:=by rw [hqd];rfl
        rw [her] at hdel
        clear h
        refine W0n ?_
        refine bv 15 [(0,.v),(1,.v),(2,.v),(3,.v),(4,.l),(5,.v),(6,.v),(7,.v),(8,.v),(9,.v),(10,.v),(11,.v),(12,.v),(13,.v),(14,.e)] none ?_ trivial rfl (by kernel_rfl) (by kernel_rfl) (by kernel_rfl) bQ (by kernel_rfl) rfl
        repeat' (first|refine aD ?_|refine aZ a5 ?_|(apply dA;refine eI ?_)|(apply bC;refine bN a5 ?_)|refine ce a5 0 rfl rfl rfl rfl (by first|trivial|rfl) ?_)
        refine iF [(m.rb,.box (ct (gg (q.drop (k+1)) R)++junk) 67)] [(wb,.box [.iptr (eZ E),fE (some ⟨m.rb,m.cap,junk⟩) (gg (q.drop (k+1)) R)] 102),eu] hdel rfl rfl Mr trivial fun c L1 ⟨hc,junk',hj',hL⟩=>?_
        subst hc;subst hL
        refine NP [0,1,9,52,66] IG ?_
        refine aL (aQ Kd) ?_
        refine W0f ?_
        refine aC (k,junk') rfl ⟨?_,trivial⟩ ⟨by omega,hj'⟩ (by dsimp only;omega) (fun _ _ h=>h)
        show some (aK (((k+1:Nat):Int) - 1))=some (aK (k:Int))
        rw [show ((k+1:Nat):Int) - 1=(k:Int) by omega]
      · have hn0:n=0:=by have:=Nx h;omega
        subst hn0
        rw [List.drop_zero] at hj ⊢
        clear h
        repeat' (first|refine Ng ?_|fail)
        have hdl:=(mK (q:=q) (run:=R)).length_le
        have hok:eG (some ⟨m.rb,m.cap,junk⟩) (gg q R):=⟨fun e=>(by cases e),fun m' e=>by
          cases e
          exact ⟨by dsimp only;omega,h2,hj⟩⟩
        exact cD rfl ⟨some ⟨m.rb,m.cap,junk⟩,hok,rfl⟩
end
end Go.Proofs.YtpmdfoaadejmkaaGreatDoor
