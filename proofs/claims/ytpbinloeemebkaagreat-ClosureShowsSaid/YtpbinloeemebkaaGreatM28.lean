/-
  A region whose order Go leaves open, in two parts: a block is made anywhere among the first ones; all others come behind.
-/
import Derived.Test.YtpbinloeemebkaaGreatM03
import Derived.Test.YtpbinloeemebkaaGreatM26
import Derived.Test.YtpbinloeemebkaaGreatM27
import Derived.Test.YtpbinloeemebkaaGreatM25
import Derived.Test.YtpbinloeemebkaaGreatM20
namespace Go.Proofs.YtpbinloeemebkaaGreat
open Go.RowKit
section
variable {P:Program} {r:Option Nat} {Q:Exit→Act→World→Prop} {nt:Nat} {D:List Deferred} {fr:c6} {B:Bs} {l:List Oper}
theorem wg {S:Nat→Bool} (hc:lW l.toArray S) {j:Nat}:∀(n i:Nat),cW l.toArray n i j=true→(∀o,l[i]?=some o→∀e∈o.after,Region.binds .any e=true→S e.on=true)→S j=true:=by
 intro n i h hd'
 cases n with
 | zero=>simp [cW] at h
 | succ n=>
  simp only [cW] at h
  split at h
  ·cases h
  ·rename_i oi hoi
   rw [List.any_eq_true] at h
   obtain ⟨ed,hed,h⟩:=h
   simp only [Bool.and_eq_true,Bool.or_eq_true,Nat.beq_eq] at h
   have hse:=hd' oi (by simpa using hoi) ed (Array.mem_def.2 hed) h.1
   rcases h.2 with h2 | h2
   ·rw [←h2];exact hse
   ·exact eG hc n _ _ h2 hse
theorem oh:∀(sk:ky) (dn:List Nat),kD l dn sk=true→∀p∈sk,p.1∉dn
 | [],_,_,p,hp=>by simp at hp
 | (k,s)::r,dn,h,p,hp=>by
  obtain ⟨_,c0,_,_,_,c4⟩:=jB h
  rcases List.mem_cons.1 hp with rfl | hp
  ·exact c0
  ·exact fun hm=>oh r _ c4 p hp (Ht _ hm)
def vu (k0:Nat) (sk1:ky):List Nat:=k0::sk1.map (·.1)
theorem Ew {fin:iq} {acc:c6} {L:AL} (h:fin.fin acc L):DA P l fr fin [] acc L:=⟨.fin,rfl,h⟩
theorem zX {id:Nat} {L:AL} (n0:Nat) (sk1 sk2:ky) (k0:Nat) (ab:AB) (vf:Nat→Value)
  (h:DA P l fr ⟨fun acc L1=>∀b,DA P l fr ⟨tI P r l n0 Q nt D fr B none,[]⟩ sk2 ((k0,.sc (vf b))::acc) (L1++[(b,ab)]),[]⟩ sk1 [] L)
  (hal:∃o,l[k0]?=some o∧o.guard=none∧∀fr B L,AO P o fr B L (fun c L'=>∃b,c= .sc (vf b)∧L'=(b,ab)::L))
  (hn0:Nat.ble n0 l.length=true) (ht:lc l n0=true) (hck1:kD l [] sk1=true) (hck2:kD l (vu k0 sk1) sk2=true) (hcv:my n0 (sk1++sk2) [k0]=true) (hre:(sk2.all fun p=>(vu k0 sk1).all fun j=>cW l.toArray 8 p.1 j)=true) (hm:P.follows .mixedOrders=true) (ok:gR l=true) (hs:jW nt l=true):
  AT P r (.region id l.toArray true) Q nt D fr B L:=by
 obtain ⟨pl,hpl⟩:=h
 intro σ a w ha hw
 have hn0':n0≤l.length:=by simpa [Nat.ble_eq] using hn0
 have okG:iF l.toArray l=true:=by
  simp only [gR,Bool.and_eq_true] at ok
  exact ok.1.2
 simp only [my,Bool.and_eq_true,List.all_eq_true,List.mem_range,Bool.or_eq_true,List.any_eq_true] at hcv
 obtain ⟨⟨hcv1,hcv2⟩,hcv3⟩:=hcv
 have hlt:∀p∈sk1++sk2,p.1 < n0:=fun p hp=>by have:=(hcv2 p hp).1;simpa [Nat.blt_eq] using this
 have hnal:∀p∈sk1++sk2,p.1≠k0:=fun p hp e=>by
  have:=(hcv2 p hp).2
  simp [e] at this
 have hk0:k0 < n0:=by have:=hcv3 k0 (by simp);simpa [Nat.blt_eq] using this
 have hdis:∀p∈sk2,p.1∉vu k0 sk1:=oh sk2 _ hck2
 have hreach:∀p∈sk2,∀j∈vu k0 sk1,cW l.toArray 8 p.1 j=true:=fun p hp j hj=>List.all_eq_true.1 (List.all_eq_true.1 hre p hp) j hj
 have hf0:∀(τ:ci),σ.le τ→∀t c,bY fr t=some c→∃v,eN (ki fr a) t=some v∧VR τ c v:=fun τ hle t c hc=>⟨a.tmps.getD t undef,by rw [jF,hc];rfl,(ha.look t c hc).mono hle⟩
 let fin2:iq:=⟨tI P r l n0 Q nt D fr B none,[]⟩
 let ph1:(Nat→Bool)→(Nat→Value)→World→Prop:=fun S ε w'=>∃τ La Lc,σ.le τ∧cZ B τ (Lc++La) w'∧iP τ S ε pl L Lc∧(∃b,(S k0=true→ε k0=vf b)∧La=if S k0 then [(b,ab)] else [])∧∀p∈sk2,S p.1=false
 let ph2:(Nat→Bool)→(Nat→Value)→World→Prop:=fun S ε w'=>∃τ Lc,σ.le τ∧cZ B τ (Lc++[]) w'∧(∀j∈vu k0 sk1,S j=true)∧∃pl2 acc L1,dU P l fr fin2 pl2 sk2 acc L1∧(∀p∈sk2,∀q,bY acc p.1≠some q)∧(∀j∈vu k0 sk1,VR τ (nh acc j) (ε j))∧iP τ S ε pl2 L1 Lc
 have tr:∀S ε w',ph1 S ε w'→(∀j∈vu k0 sk1,S j=true)→ph2 S ε w':=by
  rintro S ε w' ⟨τ,La,Lc,hle,hst,hsh,⟨b,hA1,hA2⟩,h2⟩ hS
  have hS0:S k0=true:=hS k0 (List.mem_cons_self ..)
  rw [hS0,if_pos rfl] at hA2
  subst hA2
  obtain ⟨acc',hf,hv,hacc⟩:=na pl sk1 [] L Lc hpl (fun p hp=>hS p.1 (Ht _ (List.mem_map_of_mem hp))) (by simp [bY]) (iQ sk1 [] hck1) hsh
  obtain ⟨pl2,hpl2⟩:=hf b
  refine ⟨τ,Lc++[(b,ab)],hle,by rw [List.append_nil];exact hst,hS,pl2,_,_,hpl2,fun p hp q hq=>?_,fun j hj=>?_,iP.fresh pl2 sk2 _ _ hpl2 h2⟩
  ·rw [cm,if_neg (hnal p (List.mem_append_right _ hp)).symm,hacc p.1 (fun p' hp' e=>hdis p hp (Ht _ (by rw [←e];exact List.mem_map_of_mem hp')))] at hq
   simp [bY] at hq
  ·rw [mP]
   by_cases e:k0=j
   ·subst e
    rw [if_pos rfl,hA1 hS0]
    exact .sc _
   ·rw [if_neg e]
    rcases List.mem_cons.1 hj with rfl | hj
    ·exact absurd rfl e
    ·obtain ⟨p,hp,rfl⟩:=List.mem_map.1 hj
     exact hv p hp
 refine xu (D:=D) (fr:=ki fr a) (I:=fun w'=>w'=w) n0 (J:=fun S ε w'=>ph1 S ε w'∨ph2 S ε w') hn0' ht hm ok hs ?_ ?_ ?_ a w ?_ rfl
 ·rintro w' n rfl
  exact .inl ⟨σ,[],L,ci.le_refl _,by rw [List.append_nil];exact hw.drew n,iP.fresh pl sk1 _ L hpl (fun _ _=>rfl),⟨0,by simp,by simp⟩,fun _ _=>rfl⟩
 ·intro k o hk ho S ε hc hSk hd
  have key:(∀(ρ:Operand→Value) (w':World),(∀x v,uM (ng l.toArray ε (ki fr a) o.after.toList) x=some v→ρ x=v)→(ph1 S ε w'∨ph2 S ε w')→Cn o ε (gU P o ρ w' fun v w''=>ph1 (mark S k) (je ε k v) w''∨ph2 (mark S k) (je ε k v) w'') (ph1 (mark S k) (je ε k undef) w'∨ph2 (mark S k) (je ε k undef) w'))→(match o.guard with
    | none=>∀(ρ:Operand→Value) (w':World),(∀x v,uM (ng l.toArray ε (ki fr a) o.after.toList) x=some v→ρ x=v)→(ph1 S ε w'∨ph2 S ε w')→gU P o ρ w' fun v w''=>ph1 (mark S k) (je ε k v) w''∨ph2 (mark S k) (je ε k v) w''
    | some (g,want)=>(ε g= .bool want→∀(ρ:Operand→Value) (w':World),(∀x v,uM (ng l.toArray ε (ki fr a) o.after.toList) x=some v→ρ x=v)→(ph1 S ε w'∨ph2 S ε w')→gU P o ρ w' fun v w''=>ph1 (mark S k) (je ε k v) w''∨ph2 (mark S k) (je ε k v) w'')∧(ε g≠ .bool want→∀w',(ph1 S ε w'∨ph2 S ε w')→(ph1 (mark S k) (je ε k undef) w'∨ph2 (mark S k) (je ε k undef) w'))):=by
   intro st
   unfold Cn at st
   cases hg:o.guard with
   | none=>simp only [hg] at st ⊢;exact st
   | some q=>
    obtain ⟨g,want⟩:=q
    simp only [hg] at st ⊢
    refine ⟨fun hy ρ w' hρ hJ=>(st ρ w' hρ hJ).1 hy,fun hne w' hJ=>?_⟩
    classical
    exact (st (fun x=>(uM (ng l.toArray ε (ki fr a) o.after.toList) x).getD undef) w' (fun x v hx=>by simp [hx]) hJ).2 hne
  have h2no:(k=k0∨k∈sk1.map (·.1))→∀w',¬ph2 S ε w':=by
   rintro hkk w' ⟨_,_,_,_,hS,_⟩
   have:S k=true:=hS k (List.mem_cons.2 hkk)
   rw [hSk] at this
   cases this
  refine key ?_
  rcases hcv1 k hk with ⟨p,hp,he⟩ | ⟨k',hk',he⟩
  ·rw [Nat.beq_eq] at he
   have hkk0:k0≠k:=fun e=>hnal p hp (by rw [←he,e])
   have m1:mark S k k0=S k0:=by simp [mark,hkk0]
   have m2:∀v,je ε k v k0=ε k0:=fun v=>by simp [je,hkk0]
   rcases Hn hp with hp | hp
   ·have hks:∃s,(k,s)∈sk1:=⟨p.2,by rw [he];exact hp⟩
    have hkm:k∈sk1.map (·.1):=by rw [he];exact List.mem_map_of_mem hp
    have hm2:∀q∈sk2,S q.1=false→mark S k q.1=false:=fun q hq h=>by
     have:q.1≠k:=fun e=>hdis q hq (Ht _ (by rw [e];exact hkm))
     simp [mark,this,h]
    rintro ρ w' hρ (⟨τ,La,Lc,hle,hst,hsh,⟨b,hA1,hA2⟩,h2⟩ | hbad)
    ·refine (l8 (B:=B) (La:=La) (w:=w') okG ho hc hSk hd (hf0 τ hle) hρ pl sk1 [] [] L Lc hpl hck1 (by simp) hks hsh hst).mono (fun h=>?_) (fun h=>?_)
     ·exact h.mono fun v w'' ⟨τ',Lc',h1,h3,h4⟩=> .inl ⟨τ',La,Lc',ci.le_trans hle h1,h4,h3,⟨b,by rw [m1,m2];exact hA1,by rw [m1];exact hA2⟩,fun q hq=>hm2 q hq (h2 q hq)⟩
     ·obtain ⟨Lc',h3,h4⟩:=h
      exact .inl ⟨τ,La,Lc',hle,h4,h3,⟨b,by rw [m1,m2];exact hA1,by rw [m1];exact hA2⟩,fun q hq=>hm2 q hq (h2 q hq)⟩
    ·exact absurd hbad (h2no (.inr hkm) w')
   ·have hks:∃s,(k,s)∈sk2:=⟨p.2,by rw [he];exact hp⟩
    have hall:∀j∈vu k0 sk1,S j=true:=fun j hj=>wg hc 8 k (by rw [he];exact hreach p hp j hj) fun o' ho'=>by
     have:o'=o:=by rw [ho] at ho';injection ho' with h;exact h.symm
     subst this
     exact hd
    have hkd:k∉vu k0 sk1:=by rw [he];exact hdis p hp
    intro ρ w' hρ hJ
    have h2:ph2 S ε w':=hJ.elim (fun h=>tr S ε w' h hall) fun h=>h
    obtain ⟨τ,Lc,hle,hst,hS,pl2,acc,L1,hpl2,hac,hvr,hsh⟩:=h2
    have hS':∀j∈vu k0 sk1,mark S k j=true:=fun j hj=>by
     have:j≠k:=fun e=>hkd (e▸hj)
     simp [mark,this,hS j hj]
    have hv':∀(τ':ci) v,τ.le τ'→∀j∈vu k0 sk1,VR τ' (nh acc j) (je ε k v j):=fun τ' v hle' j hj=>by
     have:j≠k:=fun e=>hkd (e▸hj)
     simp only [je,if_neg this]
     exact (hvr j hj).mono hle'
    refine (l8 (B:=B) (La:=[]) (w:=w') okG ho hc hSk hd (hf0 τ hle) hρ pl2 sk2 (vu k0 sk1) acc L1 Lc hpl2 hck2 (fun j hj _=>hvr j hj) hks hsh hst).mono (fun h=>?_) (fun h=>?_)
    ·exact h.mono fun v w'' ⟨τ',Lc',h1,h3,h4⟩=> .inr ⟨τ',Lc',ci.le_trans hle h1,h4,hS',pl2,acc,L1,hpl2,hac,hv' τ' v h1,h3⟩
    ·obtain ⟨Lc',h3,h4⟩:=h
     exact .inr ⟨τ,Lc',hle,h4,hS',pl2,acc,L1,hpl2,hac,hv' τ undef (ci.le_refl _),h3⟩
  ·rw [Nat.beq_eq] at he
   simp only [List.mem_singleton] at hk'
   subst hk'
   subst he
   obtain ⟨o',ho',hg,hAO⟩:=hal
   have:o'=o:=by rw [ho] at ho';injection ho' with h;exact h.symm
   subst this
   rintro ρ w' hρ (⟨τ,La,Lc,hle,hst,hsh,⟨b0,hA1,hA2⟩,h2⟩ | hbad)
   ·unfold Cn
    simp only [hg]
    rw [hSk] at hA2
    simp only [Bool.false_eq_true,if_false] at hA2
    subst hA2
    refine (hAO [] B (Lc++[]) τ ρ w' (fun x c hx=>?_) hst).mono ?_
    ·cases x with
     | tmp t=>simp [bt,bY] at hx
     | const v=>simp only [bt,Option.some.injEq] at hx;subst hx;rw [hρ (.const v) v rfl];exact .sc _
     | global g=>simp only [bt,Option.some.injEq] at hx;subst hx;rw [hρ (.global g) _ rfl];exact .sc _
     | func f=>simp only [bt,Option.some.injEq] at hx;subst hx;rw [hρ (.func f) _ rfl];exact .sc _
    ·rintro v w'' ⟨τ',c,L',h1,h3,h4,b,rfl,rfl⟩
     have hv:=h3.sc_inv
     refine .inl ⟨τ',[(b,ab)],Lc,ci.le_trans hle h1,?_,iP.congr pl sk1 _ L Lc hpl (fun p hp=>?_) (hsh.mono h1),⟨b,fun _=>by simp [je,hv],by simp [mark]⟩,fun q hq=>?_⟩
     ·rw [List.append_nil] at h4
      exact h4.perm (List.perm_append_comm (l₁:=[_]))
     ·have:=hnal p (List.mem_append_left _ hp)
      simp [mark,je,this]
     ·have:=hnal q (List.mem_append_right _ hq)
      simp [mark,this,h2 q hq]
   ·exact absurd hbad (h2no (.inl rfl) w')
 ·intro ε a' w' ha' hJ
  have hall:∀j∈vu k0 sk1,decide (j < n0)=true:=fun j hj=>by
   rcases List.mem_cons.1 hj with rfl | hj
   ·simpa using hk0
   ·obtain ⟨p,hp,rfl⟩:=List.mem_map.1 hj
    simpa using hlt p (List.mem_append_left _ hp)
  have h2:ph2 (fun i=>decide (i < n0)) ε w':=by
   rcases hJ with h | h
   ·by_cases he:sk2=[]
    ·exact tr _ _ _ h hall
    ·obtain ⟨p,q,hpq⟩:=List.exists_cons_of_ne_nil he
     obtain ⟨_,_,_,_,_,_,_,h5⟩:=h
     have h6:=h5 p (by rw [hpq];exact List.mem_cons_self ..)
     have h7:=hlt p (List.mem_append_right _ (by rw [hpq];exact List.mem_cons_self ..))
     simp only [decide_eq_false_iff_not] at h6
     exact absurd h7 h6
   ·exact h
  obtain ⟨τ,Lc,hle,hst,hS,pl2,acc,L1,hpl2,hac,hvr,hsh⟩:=h2
  obtain ⟨acc',hf,hv,hacc⟩:=na pl2 sk2 acc L1 Lc hpl2 (fun p hp=>by simpa using hlt p (List.mem_append_right _ hp)) hac (iQ sk2 _ hck2) hsh
  have hag:iM τ nt D (gZ l.toArray acc' fr n0) a':=⟨ha'.size,ha'.defers,fun t c hc=>by
   obtain ⟨v,h1,h2⟩:=nP (ops:=l.toArray) (acc:=acc') (ε:=ε) (hf0 τ hle) n0 (fun i hi=>by
    rcases hcv1 i hi with ⟨p,hp,he⟩ | ⟨k',hk',he⟩
    ·rw [Nat.beq_eq] at he
     rcases Hn hp with hp | hp
     ·have hin:i∈vu k0 sk1:=Ht _ (by rw [he];exact List.mem_map_of_mem hp)
      have:=hvr i hin
      rw [nh,hacc i (fun q hq e=>hdis q hq (e▸hin))]
      exact this
     ·rw [he];exact hv p hp
    ·rw [Nat.beq_eq] at he
     simp only [List.mem_singleton] at hk'
     subst hk'
     subst he
     have hin:i∈vu i sk1:=List.mem_cons_self ..
     have:=hvr i hin
     rw [nh,hacc i (fun q hq e=>hdis q hq (e▸hin))]
     exact this) t c hc
   rw [ha'.look t v h1]
   exact h2⟩
  have hf':tI P r l n0 Q nt D fr B none acc' Lc:=hf
  rw [List.append_nil] at hst
  exact hf' τ a' w' hag hst
 ·refine ⟨ha.size,ha.defers,fun t v hv=>?_⟩
  rw [jF] at hv
  cases hq:bY fr t with
  | none=>rw [hq] at hv;cases hv
  | some c=>rw [hq] at hv;simpa using hv
end
end Go.Proofs.YtpbinloeemebkaaGreat
namespace Go.Proofs.YtpbinloeemebkaaGreat
open Go.RowKit
attribute [local irreducible] AT bO AX AO Av Kt bo dU DA cT
def kA (l:List Int):Prop:=l.Pairwise (· < ·)
theorem ur {l:List Int} (h:kA l):l.Nodup:=h.imp fun hlt=>by omega
abbrev gI (b:Nat):AV:= .sc (.pointer (some ⟨b,0,none⟩))
structure fy where
 rb:Nat
 cap:Nat
 junk:List AV
def bH (run:List b6):List AV:=(run.map cI).flatten
def dC (q:Option fy) (run:List b6):AV:=match q with
 | none=> .imm 6 []
 | some m=> .sc (.slice (some ⟨m.rb,0,none⟩) run.length m.cap)
def gA (q:Option fy) (run:List b6):AL:=match q with
 | none=>[]
 | some m=>[(m.rb,.box (bH run++m.junk) 54)]
structure di (q:Option fy) (run:List b6):Prop where
 emp:q=none→run=[]
 fit:∀m,q=some m→run.length≤m.cap∧m.cap≤maxLen∧m.cap * 6≤(bH run++m.junk).length
theorem cK (run:List b6):(bH run).length=run.length * 6:=by
 induction run with
 | nil=>rfl
 | cons x r ih=>simp [bH] at ih ⊢;simp [cI,ih];omega
theorem m9 (x:b6) (r:List b6):bH (x::r)=cI x++bH r:=by simp [bH]
theorem io (a b:List b6):bH (a++b)=bH a++bH b:=by simp [bH]
theorem rp:∀{run:List b6} {i j:Nat} {x:b6} {u:AV} (junk:List AV),run[i]?=some x→(cI x)[j]?=some u→(bH run++junk)[i * 6+j]?=some u
 | [],i,_,_,_,_,h,_=>by simp at h
 | y::r,0,j,x,u,junk,h,hj=>by
  simp at h
  subst h
  rw [m9,List.append_assoc,Nat.zero_mul,Nat.zero_add,List.getElem?_append_left (Hp hj).1]
  exact hj
 | y::r,i+1,j,x,u,junk,h,hj=>by
  rw [m9,List.append_assoc,List.getElem?_append_right (by simp [cI];omega)]
  have:=rp (i:=i) junk (by simpa using h) hj
  rw [show (i+1) * 6+j - (cI y).length=i * 6+j by simp [cI];omega]
  exact this
structure GZ where
 l:aP
 cls:List Int
 fore:List (List Int)
 back:List (List Int)
 foreE:List Nat
 backE:List Nat
structure GM where
 lks:List GZ
 ms:List Bool
theorem di.lt {q:Option fy} {run:List b6} (h:di q run) {i:Nat} (hi:i < run.length):∃m,q=some m:=by
 cases q with
 | none=>rw [h.emp rfl] at hi;simp at hi
 | some m=>exact ⟨m,rfl⟩
section
variable {P:Program} {tt:TT} {r:Option Nat} {ops:Array Oper} {Q:Exit→Act→World→Prop} {nt:Nat} {D:List Deferred} {fr:c6} {B:Bs} {L:AL} {rest:List Oper} {d:Nat} {ty t t':TypeId} {pos:String} {af:Array Edge} {g:Option (Nat×Bool)} {x y z:Operand} {q:Option fy} {run:List b6}
theorem Ej {dd:Option Tmp} {e sz by_:Nat} (hc:kw P t e sz by_) (hq:di q run) (hx:bt fr x=some (dC q run)):Av P ⟨dd,.call ⟨.builtin .len,#[x],#[t]⟩,ty,pos,af,g⟩ fr (.sc (.int .i64 run.length)):=by
 cases q with
 | none=>
  rw [hq.emp rfl] at hx ⊢
  exact uT hc hx rfl
 | some m=>exact zG hc hx
theorem qb (ok:ev P tt) {e sz by_:Nat} (ht:jt tt t=some (e,sz,by_)) (hq:di q run) (hx:bt fr x=some (dC q run)) (hd:Nat.ble nt d=false) (h:bO P r ops Q nt D rest ((d,.sc (.int .i64 run.length))::fr) B L):bO P r ops Q nt D (⟨some d,.call ⟨.builtin .len,#[x],#[t]⟩,ty,pos,af,none⟩::rest) fr B L:=d8 (Ej (bq ok ht).1 hq hx) hd rfl h
end
theorem mG {run:List b6} {i j:Nat} {x:b6} {u:AV} (junk:List AV) (h:run[i]?=some x) (hj:(cI x)[j]?=some u):(bH run++junk)[0+((i:Nat):Int).toNat * 6+j]?=some u:=by
 rw [Int.toNat_natCast,Nat.zero_add]
 exact rp junk h hj
def cu (l:List Nat):List (List AV):=aS (l.map Int.ofNat)
theorem ip (l:List Nat):(cu l).length=l.length:=by simp [cu,aS]
theorem yD (l:List Nat) (i:Nat):cu l++[[aH i]]=cu (l++[i]):=by simp [cu,aS]
def cq (ms:List Bool) (ig:Bool) (run:List b6) (up:Bool) (a:Int):List Nat:=if up=true then dy ms ig run a.toNat else gM ms ig run (a+1).toNat
def kv (up:Bool):Int:=if up=true then 1 else -1
def j5 (run:List b6) (up:Bool) (a:Int):Prop:= -1≤a∧(up=true→0≤a)∧(up=false→a < run.length)
theorem z7 {ms:List Bool} {ig:Bool} {run:List b6} {up:Bool} {a:Int} (h:j5 run up a) (ho:¬(0≤a∧a < run.length)):cq ms ig run up a=[]:=by
 obtain ⟨h1,h2,h3⟩:=h
 unfold cq
 cases up with
 | true=>exact yh (by have:=h2 rfl;omega)
 | false=>
  have:=h3 rfl
  rw [show (a+1).toNat=0 by omega]
  rfl
theorem BM {ms:List Bool} {ig:Bool} {run:List b6} {up:Bool} {a:Int} (h0:0≤a) (h1:a < run.length):cq ms ig run up a=if fM ms ig run a.toNat=true then a.toNat::cq ms ig run up (a+kv up) else cq ms ig run up (a+kv up):=by
 unfold cq kv
 cases up with
 | true=>
  rw [if_pos rfl,if_pos rfl,if_pos rfl,pK (by omega),show (a+1).toNat=a.toNat+1 by omega]
 | false=>
  simp only [Bool.false_eq_true,if_false]
  rw [show (a+1).toNat=a.toNat+1 by omega,gM,show (a+ -1+1).toNat=a.toNat by omega]
theorem j5.next {run:List b6} {up:Bool} {a:Int} (h0:0≤a) (h1:a < run.length):j5 run up (a+kv up):=by
 unfold j5 kv
 cases up <;> simp <;> omega
def oy (run:List b6) (up:Bool) (a:Int):Nat:=if up=true then (run.length - a).toNat else (a+1).toNat
theorem vQ {run:List b6} {up:Bool} {a:Int} (h0:0≤a) (h1:a < run.length):oy run up (a+kv up) < oy run up a:=by
 unfold oy kv
 cases up <;> simp <;> omega
structure Fc (N:Nat) (r:bv):Prop where
 back:∀s∈r.Back,kA s∧∀g∈s,0≤g∧g < (N:Int)
 in_:∀s∈r.In,kA s∧∀g∈s,0≤g∧g < (N:Int)
 ahead:∀s∈r.Ahead,kA s∧∀g∈s,0≤g∧g < (N:Int)
 long:r.Back.length≤200∧r.In.length+r.Ahead.length≤200
theorem vM (l:List Int) (z:Int):bM Tryz.prog 132 [.imm 1 (aS l),aH z] (aH (if z∈l then (l.idxOf z:Nat) else -1)):=by
 refine aT Tryz.func132 rfl Tryz.ntmps132 rfl fun B=>?_
 refine cF 0 rfl rfl fun hlen=>?_
 have hll:=aN l
 rw [hll] at hlen
 repeat' (first|refine go ?_|refine ak ?_|refine HF a1 F8 ?_)
 refine aR [0,1,7] (α:=Nat) (fun i=>[(8,aH i)]) (fun i=>i≤l.length∧z∉l.take i) (fun _=>[]) (fun i=>l.length - i) 0 rfl ⟨rfl,trivial⟩ ⟨Nat.zero_le _,by simp⟩ (fun _ _ h=>h) fun i hi=>?_
 try dsimp only [Hs,Hr,Hq,Hl]
 repeat' (first|refine go ?_|refine HF a1 F8 ?_)
 refine ay rfl (fun h=>?_) (fun h=>?_)
 ·have hil:i < l.length:=by have:=Hy h;omega
  obtain ⟨y,hy⟩:∃z,l[i]?=some z:=⟨_,Hz hil⟩
  have hzg:=bG hy
  have htk:l.take (i+1)=l.take i++[y]:=by rw [List.take_add_one,hy];rfl
  clear h
  repeat' (first|refine go ?_|refine ak ?_|refine HF a1 F8 ?_|(apply aX;first|refine aU a1 ?_|refine aK a1 ?_)|fail)
  refine ay rfl (fun h2=>?_) (fun h2=>?_)
  ·have h2':=Hy h2
   subst h2'
   repeat' (first|refine go ?_|refine HF a1 F8 ?_)
   refine HN F8 ?_
   have hm:=Hw hy
   have:l.idxOf z=i:=by
    have e:l=l.take i++z::l.drop (i+1):=by
     conv=>lhs;rw [←List.take_append_drop i l,List.drop_eq_getElem_cons hil,(Hp hy).2]
    rw [e,List.idxOf_append,if_neg hi.2,List.idxOf_cons_self,List.length_take]
    omega
   rw [if_pos hm,this]
  ·have h2':=Hx h2
   repeat' (first|refine go ?_|refine HF a1 F8 ?_|(apply aZ;refine aY ?_)|fail)
   exact aF (i+1) rfl ⟨by rw [Hv];rfl,trivial⟩ ⟨by omega,by rw [htk];simp [hi.2];exact h2'⟩ (by omega) (fun _ _ h=>h)
 ·have hil:i=l.length:=by have:=Hx h;omega
  subst hil
  rw [List.take_length] at hi
  repeat' (first|refine go ?_|refine HF a1 F8 ?_)
  refine HN F8 ?_
  rw [if_neg hi.2]
instance G6 (l:List Int) (z:Int):AD Tryz.prog 132 [.imm 1 (aS l),aH z] (aH (if z∈l then (l.idxOf z:Nat) else -1)):=⟨vM l z⟩
theorem qQ (l:List Int) (z:Int):bM Tryz.prog 209 [.imm 1 (aS l),aH z] (c9 (l.contains z)):=by
 refine aT Tryz.func209 rfl Tryz.ntmps209 rfl fun B=>?_
 repeat' (first|refine go ?_|refine HF a1 F8 ?_|(apply bD;refine bf ?_)|fail)
 refine HN F8 ?_
 congr 2
 by_cases h:z∈l
 ·rw [if_pos h,decide_eq_true (by omega)];simp [h]
 ·rw [if_neg h,decide_eq_false (by omega)];simp [h]
instance G7 (l:List Int) (z:Int):AD Tryz.prog 209 [.imm 1 (aS l),aH z] (c9 (l.contains z)):=⟨qQ l z⟩
theorem tL:∀{ss:List (List Int)} {gl:List Int},fits ss gl=true→ss.length≤gl.length
 | [],_,_=>Nat.zero_le _
 | _::_,[],h=>by cases h
 | _::ss,_::gl,h=>by
  rw [fits,Bool.and_eq_true] at h
  have:=tL h.2
  simp;omega
theorem oI {ms:List Bool} {ig:Bool} {run:List b6} {i:Nat} {r:bv} (h:eg ms ig run i r=true):0 < r.In.length∧r.In.length≤(dy ms ig run i).length:=by
 unfold eg at h
 rw [Bool.and_eq_true,Bool.and_eq_true] at h
 have h1:=tL h.2.1
 rw [List.length_append,Hu] at h1
 constructor
 ·have:=h.1
  cases hr:r.In with
  | nil=>rw [hr] at this;cases this
  | cons a b=>simp
 ·omega
theorem AE {rs:List bv} {r:bv} (h:r∈rs):r.In.length≤g8 rs:=by
 have:=(mH (g:=fun r:bv=>r.In.length+r.Ahead.length) (m:=0)).2 r h
 unfold g8
 omega
theorem uz {ms:List Bool} {ig:Bool} {run:List b6} {i:Nat}:cq ms ig run true (i:Int)=dy ms ig run i:=by
 unfold cq
 rw [if_pos rfl,Int.toNat_natCast]
theorem wp {ms:List Bool} {ig:Bool} {run:List b6} {i:Nat}:cq ms ig run false ((i:Int) - 1)=gM ms ig run i:=by
 unfold cq
 simp only [Bool.false_eq_true,if_false]
 rw [show ((i:Int) - 1+1).toNat=i by omega]
theorem kN {run:List b6} {i j:Nat} {x:b6} (y:b6) (v:AV) (junk:List AV) (h:run[i]?=some x) (hj:j < 6) (hy:cI y=(cI x).set j v):gg (bH run++junk) (0+((i:Nat):Int).toNat * 6+j) [v]=bH (run.set i y)++junk:=by
 rw [gh,Int.toNat_natCast,Nat.zero_add]
 have hi:=(Hp h).1
 have hl:=cK run
 rw [List.set_append,if_pos (by omega)]
 congr 1
 unfold bH
 have hm:(run.map cI)[i]?=some (cI x):=by simp [h]
 rw [tN (sz:=6) (run.map cI) i j (cI x) v (fun e he=>by obtain ⟨z,_,rfl⟩:=List.mem_map.1 he;rfl) hm hj,←hy,List.map_set]
theorem nM (run:List b6) (junk:List AV) {k:Nat} (h:k≤run.length):(bH run++junk).take (k * 6)=bH (run.take k):=by
 have e:bH run=bH (run.take k)++bH (run.drop k):=by rw [←io,List.take_append_drop]
 have hl:=cK (run.take k)
 rw [List.length_take,Nat.min_eq_left h] at hl
 rw [e,List.append_assoc,←hl,List.take_left]
theorem rq (run:List b6) (junk:List AV) {k:Nat} (h:k≤run.length):((bH run++junk).drop (k * 6)).take ((run.length - k) * 6)=bH (run.drop k):=by
 have e:bH run=bH (run.take k)++bH (run.drop k):=by rw [←io,List.take_append_drop]
 have hl:=cK (run.take k)
 rw [List.length_take,Nat.min_eq_left h] at hl
 have hl2:=cK (run.drop k)
 rw [List.length_drop] at hl2
 rw [e,List.append_assoc,←hl,List.drop_left,←hl2,List.take_left]
theorem yg (run:List b6) (junk:List AV) {i:Nat} {x:b6} (h:run[i]?=some x):((bH run++junk).drop (i * 6)).take 6=cI x:=by
 have hi:=(Hp h).1
 have e:bH run=bH (run.take i)++(cI x++bH (run.drop (i+1))):=by
  rw [←m9,←io]
  congr 1
  rw [←(Hp h).2,List.getElem_cons_drop,List.take_append_drop]
 have hl:=cK (run.take i)
 rw [List.length_take,Nat.min_eq_left (by omega)] at hl
 rw [e,List.append_assoc,←hl,List.drop_left,List.append_assoc]
 exact List.take_left (l₁:=cI x)
theorem zh {fr:c6} {B:Bs} {L:AL} {y:Operand} {sz c:Nat} {A:Option Addr} (hy:bt fr y=some (.sc (.slice A 0 c))):qN fr B L y sz 0 []:=fun σ ρ w hρ _=>⟨A,c,[],(hρ y _ hy).sc_inv,dv.nil,by simp,by simp,fun h=>by omega⟩
theorem vy {run:List b6} (junk:List AV) {i:Nat} {x:b6} (h:run[i]?=some x):((bH run++junk).drop (0+((i:Nat):Int).toNat * 6)).take 6=cI x:=by
 rw [Int.toNat_natCast,Nat.zero_add]
 exact yg run junk h
def wf (x:b6) (l:List Int):List b6:=l.map fun g=>{ x with Glyph:=g }
theorem ul (x:b6) (l:List Int):(wf x l).length=l.length:=by simp [wf]
theorem GI {a b:Nat×AB} {X:AL}:(a::b::X).Perm (b::a::X):=List.Perm.swap ..
theorem vx {run:List b6} {i:Nat} (hi:i < run.length):bH (run.eraseIdx i)=bH (run.take i)++bH (run.drop (i+1)):=by
 rw [List.eraseIdx_eq_take_drop_succ,io]
set_option maxHeartbeats 2000000 in
theorem y9 (b cap:Nat) (run:List b6) (junk:List AV) (i:Nat) (hi:i < run.length) (hc:run.length≤cap) (hm:cap≤maxLen) (hf:cap * 6≤(bH run++junk).length) (hr:run.length≤1000000):AC Tryz.prog 213 [.sc (.slice (some ⟨b,0,none⟩) run.length cap),aH i,aH ((i:Int)+1)] [(b,.box (bH run++junk) 54)] fun c L=>
  c= .sc (.slice (some ⟨b,0,none⟩) (run.eraseIdx i).length cap)∧∃junk',cap * 6≤(bH (run.eraseIdx i)++junk').length∧L=[(b,.box (bH (run.eraseIdx i)++junk') 54)]:=by
 refine aT Tryz.func213 rfl Tryz.ntmps213 rfl fun B=>?_
 have hfl:=cK run
 have hel:=List.length_eraseIdx_of_lt hi
 unfold maxLen at hm
 have hsrc:∀fr y B,bt fr y=some (.sc (.slice (some ⟨b,if cap=i+1 then 0 else (i+1) * 6,none⟩) (run.length - (i+1)) (cap - (i+1))))→qN fr B [(b,.box (bH run++junk) 54)] y 6 (run.length - (i+1)) (bH (run.drop (i+1))):=by
  intro fr y B hy
  by_cases hz:run.length - (i+1)=0
  ·rw [hz] at hy ⊢
   rw [List.drop_eq_nil_of_le (by omega)]
   exact zh hy
  ·have hs:=qA (B:=B) (sz:=6) (L:=[(b,.box (bH run++junk) 54)]) 0 hy rfl (by split <;> omega)
   rw [if_neg (by omega),rq run junk hi] at hs
   exact hs
 repeat' (first|refine go ?_|refine HF a1 F8 ?_)
 refine EQ a1 i (i+1) run.length rfl rfl rfl rfl rfl (by omega) rfl rfl (by omega) hi hc rfl ?_
 repeat' (first|refine go ?_|refine HF a1 F8 ?_)
 refine ay rfl (fun h=>?_) (fun _=>?_)
 ·have:=Hy h
  omega
 repeat' (first|refine go ?_|refine HF a1 F8 ?_)
 refine bj 6 [(0,.v),(1,.v),(2,.v),(3,.v),(4,.v),(5,.v)] none ?_ trivial rfl (by kernel_rfl) (by kernel_rfl) (by kernel_rfl) mixed (by kernel_rfl) rfl
 repeat' (first|refine aE ?_|refine ba a1 ?_|fail)
 refine wN a1 i rfl rfl rfl rfl (by omega) trivial ?_
 repeat' (first|refine aE ?_|refine ba a1 ?_|fail)
 refine iT a1 (i+1) rfl rfl rfl (by omega) hi hc trivial ?_
 repeat' (first|fail)
 refine HR [7,22,25] F8 ?_
 repeat' (first|fail)
 refine nX a1 0 rfl rfl rfl rfl (hsrc _ _ _ rfl) rfl hf (by omega) (by unfold maxLen;omega) (by unfold maxLen;omega) (by omega) rfl fun b' cs' cap' e1 e2 e3 e4 e5=>?_
 obtain ⟨e6,e7,e8⟩:=e5 (by omega)
 subst e6;subst e7
 repeat' (first|refine go ?_|refine HF a1 F8 ?_)
 have hn1:i+(run.length - (i+1))=(run.eraseIdx i).length:=by omega
 rw [hn1] at e2 ⊢
 refine Be a1 (run.eraseIdx i).length run.length rfl rfl rfl rfl rfl rfl (by omega) hc rfl ?_
 repeat' (first|fail)
 have hcl:cap' * 6≤cs'.length:=e1
 have hce:cs'.take ((run.eraseIdx i).length * 6)=bH (run.eraseIdx i):=by
  rw [e2,nM run junk (by omega),vx hi]
 refine qa a1 0 (m:=(run.eraseIdx i).length) rfl rfl rfl rfl (.inl rfl) rfl ?_ fun cs2 g1 g2=>?_
 ·have h1:(run.eraseIdx i).length * 6+(run.length - (run.eraseIdx i).length) * 6=run.length * 6:=by omega
  rw [h1]
  omega
 repeat' (first|refine go ?_|refine HF a1 F8 ?_)
 refine HN F8 ⟨rfl,cs2.drop ((run.eraseIdx i).length * 6),?_⟩
 have hj:bH (run.eraseIdx i)++cs2.drop ((run.eraseIdx i).length * 6)=cs2:=by
  rw [←hce,←g2,List.take_append_drop]
 rw [hj]
 exact ⟨by omega,rfl⟩
theorem tD {R:List b6}:∀{l:List Nat} {j:Nat},l.Pairwise (· < ·)→(∀z∈l,j < z∧z < R.length)→j < R.length→j < (f7 l R).length
  | [],_,_,_,hj=>hj
  | z::l,j,hs,hl,hj=>by
    obtain ⟨h1,h2⟩:=List.pairwise_cons.1 hs
    have hz:=hl z (by simp)
    have:=tD (j:=z) h2 (fun y hy=>⟨h1 y hy,(hl y (by simp [hy])).2⟩) hz.2
    rw [f7,List.length_eraseIdx_of_lt this]
    omega
theorem rB:∀{l:List Nat} {run:List b6} {c:Int},i3 run l c≤c
 | [],_,_=>Int.le_refl _
 | p::l,run,c=>by
  have:=rB (l:=l) (run:=run) (c:=nU run c p)
  have h2:nU run c p≤c:=by unfold nU;split <;> omega
  unfold i3 at this ⊢
  rw [List.foldl_cons]
  omega
theorem di.set {m:fy} {run:List b6} (h:di (some m) run) (p:Nat) (y:b6):di (some m) (run.set p y):=⟨fun e=>(by cases e),fun m' e=>by
 cases e
 obtain ⟨h1,h2,h3⟩:=h.fit m rfl
 rw [List.length_append,cK] at h3 ⊢
 rw [List.length_set]
 exact ⟨h1,h2,h3⟩⟩
section
variable {P:Program} {tt:TT} {l:List Oper} {fr:c6} {fin:iq} {sk:ky} {acc:c6} {L:AL} {k:Nat} {dd:Option Tmp} {ty t t':TypeId} {pos:String} {af:Array Edge} {g:Option (Nat×Bool)} {x y:Operand} {u:AV}
theorem Eu {q:IntKind} {a b:Int} (hx:bt (cB l.toArray acc fr af.toList) x=some (.sc (.int q a))) (hy:bt (cB l.toArray acc fr af.toList) y=some (.sc (.int q b))) (hg:iL ⟨dd,.binOp .add t x y t',ty,pos,af,g⟩ acc) (h:DA P l fr fin sk ((k,.sc (.int q (q.wrap (a+b))))::acc) L):cT P l fr fin k .v ⟨dd,.binOp .add t x y t',ty,pos,af,g⟩ sk acc L:=f6 hg (zq (DG hx hy)) h
end
structure rW (run:List b6) (ps:List Nat):Prop where
  some_:ps≠[]
  lt:∀j∈ps,j < run.length
  inc:ps.Pairwise (· < ·)
structure rX (r:bv):Prop where
 some_:r.In≠[]
 out:r.Out.length≤1000000
 calls:r.Calls.length≤1000000
 at_:∀c∈r.Calls,0≤c.At∧c.At≤1000000
abbrev GM.ls (E:GM):List aP:=E.lks.map (·.l)
theorem D7 {ms:List Bool} {ig:Bool} {run:List b6} {i:Nat} {n:Int} {j:Nat} (h:wc ms ig run i n=some j):j < run.length:=by
 unfold wc at h
 split at h
 ·exact (pJ j (Hw h)).2.1
 ·cases h
theorem yi {ms:List Bool} {ig:Bool} {run:List b6} {i:Nat}:(dy ms ig run i).Pairwise (· < ·):=by
  unfold dy
  exact List.Pairwise.filter _ (List.pairwise_lt_range' ..)
theorem EZ {ms:List Bool} {l:aP} {run:List b6} {i:Nat} {forms:List Int} {r:bv} (h:gc ms l run i forms=some r):rW run (dw ms l run i r)∧r∈l.Rules∧r.In≠[]∧i < run.length∧(dw ms l run i r).head?=some i:=by
 unfold gc at h
 split at h
 ·rename_i hb
  have hm:=List.mem_of_find?_eq_some h
  obtain ⟨h1,h2⟩:=oI (List.find?_some h)
  unfold m5 at hb
  split at hb
  ·rename_i x hx
   have hil:=(Hp hx).1
   rw [Bool.and_eq_true] at hb
   have hs:fM ms l.Ignore run i=true:=by rw [rM hx];exact hb.1
   have hf:dy ms l.Ignore run i=i::dy ms l.Ignore run (i+1):=by rw [pK hil,if_pos hs]
   obtain ⟨n,hn⟩:∃n,r.In.length=n+1:=⟨r.In.length - 1,by omega⟩
   have hp:dw ms l run i r=i::(dy ms l.Ignore run (i+1)).take n:=by unfold dw;rw [hf,hn,List.take_succ_cons]
   refine ⟨⟨by rw [hp];simp,fun j hj=>(pJ j (List.mem_of_mem_take hj)).2.1,?_⟩,hm,fun e=>by rw [e] at h1;simp at h1,hil,by rw [hp];rfl⟩
   exact yi.sublist (List.take_sublist ..)
  ·cases hb
 ·cases h
def fU (a b:Nat):Prop:=b≤max a 500
theorem rP {l:aP} {r:bv} {ps:List Nat} {run:List b6}:fU run.length (eR l r ps run).length:=by
 unfold eR fU
 split
 ·unfold eZ;split <;> (try split) <;> (try split) <;> (try rw [List.length_set]) <;> omega
 split
 ·unfold ja
  split
  ·omega
  ·split
   ·omega
   ·rename_i x hx hh
    have:=(Hp hx).1
    simp only [List.length_append,List.length_take,List.length_drop,Hu]
    omega
 split
 ·unfold lL
  split
  ·split
   ·refine Nat.le_trans lp.length_le ?_
    rw [List.length_set];omega
   ·omega
  ·omega
 split
 ·unfold qh;split <;> (try rw [List.length_set]) <;> omega
 ·omega
theorem fU.trans {a b c:Nat} (h:fU a b) (k:fU b c):fU a c:=by unfold fU at *;omega
theorem xR {ms:List Bool} {ls:List aP} {d:Ge} (hd:∀l r ps run,fU run.length (d l r ps run).length) {n:Int} {i:Nat} {run:List b6}:fU run.length (kH ms ls d n i run).length:=by
 unfold kH
 split
 ·unfold fU;omega
 ·split
  ·unfold fU;omega
  ·split
   ·unfold fU;omega
   ·split
    ·unfold fU;omega
    ·exact hd ..
theorem ln {ms:List Bool} {ls:List aP}:∀(k:Nat) (l:aP) (r:bv) (ps:List Nat) (run:List b6),fU run.length (iU ms ls k l r ps run).length
 | 0,_,_,_,_=>rP
 | k+1,l,r,ps,run=>by
  unfold iU
  split
  ·have key:∀(cs:List gH) (run:List b6),fU run.length (cs.foldl (fY ms ls (iU ms ls k) l.Ignore (ps.headD 0)) run).length:=by
    intro cs
    induction cs with
    | nil=>intro run;unfold fU;simp;omega
    | cons c cs ih=>
     intro run
     rw [List.foldl_cons]
     refine fU.trans ?_ (ih _)
     unfold fY
     split
     ·unfold fU;omega
     ·exact xR (ln k)
   exact key _ _
  ·exact rP
theorem fU.big {a b:Nat} (h:fU a b) (ha:a≤1000000):b≤1000000:=by unfold fU at h;omega
theorem Et (run:List b6) (hr:run.length≤1000000):AC Tryz.prog 48 [.imm 6 (run.map cI)] [] fun c L=>∃q,di q run∧c=dC q run∧L=gA q run:=by
 refine aT Tryz.func48 rfl Tryz.ntmps48 rfl fun B=>?_
 have hml:(run.map cI).length=run.length:=Hu ..
 repeat' (first|refine go ?_|refine HF a1 F8 ?_)
 refine D3 a1 rfl rfl rfl rfl rfl fun b hb=>?_
 repeat' (first|refine go ?_|fail)
 cases b with
 | true=>
  have hn:run=[]:=by simpa using hb rfl
  subst hn
  repeat' (first|refine go ?_|refine HF a1 F8 ?_|refine bR rfl ?_)
  refine bk (cA (t:=2) (c':= .imm 6 []) rfl fun σ v h=>ke 6 h) ?_
  exact HN F8 ⟨none,⟨fun _=>rfl,fun m h=>by cases h⟩,rfl,rfl⟩
 | false=>
  repeat' (first|refine go ?_|refine HF a1 F8 ?_|refine ET (d:=5) a1 rfl rfl fun _=>?_|refine bL rfl ?_)
  rename_i b5
  refine nX a1 0 rfl rfl rfl rfl (BS rfl rfl) rfl (Nat.zero_le _) (Nat.le_refl _) (Nat.zero_le _) (by rw [hml];unfold maxLen;omega) (by rw [hml];omega) rfl fun b' cs' cap' e1 e2 e3 e4 e5=>?_
  repeat' (first|refine go ?_|refine HF a1 F8 ?_)
  have hcs:cs'=bH run++cs'.drop (run.length * 6):=by
   conv=>lhs;rw [←List.take_append_drop (run.length * 6) cs']
   rw [Nat.zero_add,hml] at e2
   rw [e2]
   rfl
  refine HN F8 ⟨some ⟨b',cap',cs'.drop (run.length * 6)⟩,⟨fun h=>(by cases h),fun m hm=>?_⟩,?_,?_⟩
  ·cases hm
   dsimp only
   rw [←hcs]
   exact ⟨by omega,e4,e1⟩
  ·unfold dC
   dsimp only
   rw [Nat.zero_add,hml]
  ·unfold gA
   dsimp only
   rw [←hcs]
   rfl
theorem pC {R:List b6}:∀{l:List Nat},R.length≤(f7 l R).length+l.length
 | []=>by simp [f7]
 | z::l=>by
  have:=pC (R:=R) (l:=l)
  have h2:(f7 l R).length≤((f7 l R).eraseIdx z).length+1:=by rw [List.length_eraseIdx];split <;> omega
  rw [f7,List.length_cons]
  omega
theorem sL {run:List b6} {p:Nat} {q:List Nat} (h:rW run (p::q)):p+q.length≤(p::q).getLastD p∧(p::q).getLastD p < run.length∧(q≠[]↔p < (p::q).getLastD p):=by
  have key:∀(q:List Nat) (p:Nat),(p::q).Pairwise (· < ·)→p+q.length≤(p::q).getLast (by simp):=by
    intro q
    induction q with
    | nil=>intro p _;simp
    | cons a q ih=>
      intro p hp
      obtain ⟨h1,h2⟩:=List.pairwise_cons.1 hp
      have:=ih a h2
      have:=h1 a (by simp)
      rw [List.getLast_cons (by simp),List.length_cons]
      omega
  have hk:=key q p h.inc
  have he:(p::q).getLastD p=(p::q).getLast (by simp):=by rw [List.getLastD_eq_getLast?,List.getLast?_eq_some_getLast (by simp)];rfl
  rw [he]
  refine ⟨hk,h.lt _ (List.getLast_mem _),fun hq=>?_,fun hq e=>?_⟩
  · have:0 < q.length:=List.length_pos_iff.2 hq
    omega
  · subst e
    simp at hq
theorem qD {l:aP} {r:bv} {run:List b6} {p:Nat} {q:List Nat} (h:rW run (p::q)):run.length - 1 - (p::q).getLastD p≤(eR l r (p::q) run).length:=by
 obtain ⟨h1,h2,_⟩:=sL h
 unfold eR
 split
 ·unfold eZ;split <;> (try split) <;> (try split) <;> (try rw [List.length_set]) <;> omega
 split
 ·unfold ja
  split
  ·omega
  ·split
   ·omega
   ·simp only [List.length_append,List.length_take,List.length_drop,Hu,List.headD_cons]
    omega
 split
 ·unfold lL
  split
  ·rename_i heq _
   cases heq
   split
   ·rename_i x hx
    have key:∀y:b6,run.length - 1 - (p::q).getLastD p≤(f7 q (run.set p y)).length:=fun y=>by
     have:=pC (R:=run.set p y) (l:=q)
     rw [List.length_set] at this
     omega
    exact key _
   ·omega
  ·omega
 split
 ·unfold qh;split <;> (try rw [List.length_set]) <;> omega
 ·omega
theorem Ad {ms:List Bool} {ls:List aP} {k:Nat} {l:aP} (hk:l.Kind≠4) {r:bv} {run:List b6} {p:Nat} {q:List Nat} (h:rW run (p::q)):run.length - 1 - (p::q).getLastD p≤(iU ms ls k l r (p::q) run).length:=by
 cases k with
 | zero=>rw [iU];exact qD h
 | succ k=>rw [iU];dsimp only;rw [if_neg hk];exact qD h
theorem w8 {p:Nat} {q:List Nat}:(cu (p::q))[(((p::q).length:Int) - 1).toNat]?=some [aH ((p::q).getLastD p:Nat)]:=by
 have he:(p::q).getLastD p=(p::q).getLast (by simp):=by rw [List.getLastD_eq_getLast?,List.getLast?_eq_some_getLast (by simp)];rfl
 have hi:(((p::q).length:Int) - 1).toNat=(p::q).length - 1:=by omega
 rw [hi,he]
 unfold cu
 refine bG ?_
 rw [List.getElem?_map,←List.getLast?_eq_getElem?,List.getLast?_eq_some_getLast (by simp)]
 rfl
section
variable {nt:Nat} {fr:c6} {B:Bs} {D:List Deferred}
theorem zm {t:Nat} {q:Option fy} {run:List b6} {Lf:AL} (hq:di q run) (hl:bY fr t=some (dC q run)):mx nt D B fr (gA q run++Lf) ((t,.imm 6 (run.map cI))::fr) Lf:=by
 cases q with
 | none=>
  have he:=hq.emp rfl
  subst he
  exact cA hl fun σ v h=>h
 | some m=>
  obtain ⟨h1,h2,h3⟩:=hq.fit m rfl
  have hfl:=cK run
  have hcl:run.length * 6≤(bH run++m.junk).length:=by rw [List.length_append];omega
  have htk:(bH run++m.junk).take (run.length * 6)=(run.map cI).flatten:=by
   have:=nM run m.junk (Nat.le_refl _)
   rw [List.take_length] at this
   exact this
  exact qH (sz:=6) (n:=run.length) (cap:=m.cap) (l:=run.map cI) 0 hl rfl htk hcl (fun e he=>by obtain ⟨z,_,rfl⟩:=List.mem_map.1 he;rfl) (Hu ..) h1 h2
end
theorem sE {ms:List Bool} {ls:List aP} {l:aP} {forms:List Int}:∀(k i:Nat) (run:List b6),fU run.length (uN ms ls l forms k i run).length
 | 0,_,_=>by unfold fU;rw [uN];omega
 | k+1,i,run=>by
  rw [uN]
  split
  ·split
   ·exact sE k (i+1) run
   ·exact (ln 4 l _ _ run).trans (sE k _ _)
  ·unfold fU;omega
theorem nD {ms:List Bool} {ls:List aP} {l:aP} {forms:List Int}:∀(k:Nat) (run:List b6),fU run.length (iV ms ls l forms k run).length
 | 0,_=>by unfold fU;rw [iV];omega
 | i+1,run=>by
  rw [iV]
  split
  ·exact nD i run
  ·exact (ln 4 l _ _ run).trans (nD i _)
theorem ve {ms:List Bool} {ls:List aP} {n:Int} {run:List b6} {forms:List Int}:fU run.length (gt ms ls n run forms).length:=by
 have hs:fU run.length run.length:=by unfold fU;omega
 unfold gt
 split
 ·exact hs
 ·split
  ·exact hs
  ·split
   ·exact hs
   ·split
    ·exact nD _ _
    ·exact sE _ _ _
theorem ma {α:Type} {g:α→Nat} {k:Nat}:∀{l:List α} {m:Nat},m≤k→(∀x∈l,g x≤k)→l.foldl (fun m x=>max m (g x)) m≤k
 | [],_,h,_=>h
 | a::l,m,h,hl=>by
  rw [List.foldl_cons]
  exact ma (by have:=hl a (by simp);omega) fun x hx=>hl x (by simp [hx])
abbrev fp:AV:= .sc (.slice none 0 0)
def eL {α:Type} (w:α→List AV) (z:List AV) (l:List α) (i:Nat):List (List AV):=(l.take i).map w++List.replicate (l.length - i) z
theorem m7 {α:Type} {w:α→List AV} {z:List AV} {l:List α}:eL w z l 0=List.replicate l.length z:=by simp [eL]
theorem nF {α:Type} {w:α→List AV} {z:List AV} {l:List α}:eL w z l l.length=l.map w:=by simp [eL]
theorem nH {α:Type} {w:α→List AV} {z:List AV} {l:List α} {i:Nat} {x:α} (h:l[i]?=some x):(eL w z l i).set i (w x)=eL w z l (i+1):=by
 have hi:=(Hp h).1
 unfold eL
 rw [List.set_append,if_neg (by rw [Hu,List.length_take];omega),Hu,List.length_take,Nat.min_eq_left (by omega),Nat.sub_self,show l.length - i=(l.length - (i+1))+1 by omega,List.replicate_succ,List.set_cons_zero,List.take_add_one,h]
 simp
theorem nG {α:Type} {w:α→List AV} {z:List AV} {l:List α} {i:Nat} (hi:i≤l.length):(eL w z l i).length=l.length:=by
 unfold eL
 rw [List.length_append,Hu,List.length_take,List.length_replicate]
 omega
theorem lr {sz:Nat}:∀{l:List (List AV)} {i:Nat} {e:List AV},(∀q∈l,q.length=sz)→e.length=sz→i < l.length→gg l.flatten (i * sz) e=(l.set i e).flatten
 | [],_,_,_,_,h=>by simp at h
 | q::l,0,e,hs,he,_=>by
  have hq:=hs q (by simp)
  rw [List.set_cons_zero,List.flatten_cons,List.flatten_cons,Nat.zero_mul]
  apply List.ext_getElem?
  intro j
  rw [eO _ _ _ _ (by rw [List.length_append];omega)]
  by_cases hj:j < e.length
  ·rw [if_pos (by omega),Nat.sub_zero,List.getElem?_append_left hj]
  ·rw [if_neg (by omega),List.getElem?_append_right (by omega),List.getElem?_append_right (by omega),hq,he]
 | q::l,i+1,e,hs,he,h=>by
  have hq:=hs q (by simp)
  have ih:=lr (l:=l) (i:=i) (e:=e) (fun x hx=>hs x (by simp [hx])) he (by simpa using h)
  have hlen:i * sz+e.length≤l.flatten.length:=by
   have hl:l.flatten.length=l.length * sz:=eM l fun x hx=>hs x (by simp [hx])
   rw [hl,he]
   have:(i+1) * sz≤l.length * sz:=Nat.mul_le_mul_right _ (by simp at h;omega)
   rw [Nat.add_mul,Nat.one_mul] at this
   exact this
  rw [List.set_cons_succ,List.flatten_cons,List.flatten_cons,←ih]
  apply List.ext_getElem?
  intro j
  have e1:(i+1) * sz=i * sz+sz:=by rw [Nat.add_mul,Nat.one_mul]
  rw [eO _ _ _ _ (by rw [List.length_append];omega),e1]
  by_cases hj:j < sz
  ·rw [if_neg (by omega),List.getElem?_append_left (by omega),List.getElem?_append_left (by omega)]
  ·rw [List.getElem?_append_right (by omega),List.getElem?_append_right (by omega),eO _ _ _ _ hlen,hq]
   by_cases h2:i * sz≤j - sz∧j - sz < i * sz+e.length
   ·rw [if_pos h2,if_pos (by omega)]
    congr 1
    omega
   ·rw [if_neg h2,if_neg (by omega)]
theorem xw {α:Type} {a b:α→List AV} (h:∀x,of (a x) (b x)):∀(l:List α),Ec (l.map a) (l.map b)
 | []=>trivial
 | x::l=>⟨h x,xw h l⟩
theorem vA {rs:List bv} {j:Nat} {r:bv} (h:rs[j]?=some r):g8 (rs.take (j+1))=max (g8 (rs.take j)) (r.In.length+r.Ahead.length)∧iS (rs.take (j+1))=max (iS (rs.take j)) r.Back.length:=by
 unfold g8 iS
 rw [List.take_add_one,h]
 constructor <;> simp
structure Ff (N:Nat) (r:bv):Prop where
 b:Fc N r
 out:r.Out.length≤1000000
 calls:r.Calls.length≤1000000
 at_:∀c∈r.Calls,0≤c.At∧c.At≤1000000
structure lG (f:aL):Prop where
 glyphs:0 < f.Glyphs.length∧f.Glyphs.length≤65536
 lookups:f.Lookups.length≤1000000
 few:∀l∈f.Lookups,l.Rules.length≤6
 rule:∀l∈f.Lookups,∀r∈l.Rules,Ff f.Glyphs.length r
theorem eA.fontN {f:aL} (h:eA f):lG f:=by
 have hg:=h.glyN
 refine ⟨by omega,by have:=h.looks.len;omega,fun l hl=>by have:=h.looks.few l hl;omega,fun l hl r hr=>?_⟩
 obtain ⟨calls,hr,_⟩:=h.looks.rule l hl r hr
 have hs:∀{k:Nat} {q:List (List Int)},eP f.Glyphs.length k q→∀s∈q,kA s∧∀g∈s,0≤g∧g < (f.Glyphs.length:Int):=fun hq s hs=>⟨(hq.2 s hs).up,(hq.2 s hs).dom⟩
 have h1:=hr.back.1
 have h2:=hr.ins.1
 have h3:=hr.ahead.1
 have h4:=hr.outs.1
 have h5:=hr.callsN
 exact ⟨⟨hs hr.back,hs hr.ins,hs hr.ahead,by omega,by omega⟩,by omega,by omega,fun c hc=>by have:=(hr.callsIn c hc).1;omega⟩
abbrev aW (f:aL):List Bool:=f.Glyphs.map bn.Mark
section
variable {ms:List Bool} {ig:Bool} {run:List b6} {up:Bool} {a0 a:Int} {sets:List (List Int)} {k:Nat}
theorem sa {α:Type} {l:List α} {k:Nat} {x:α} (h:l[k]?=some x):l.drop k=x::l.drop (k+1):=by
 obtain ⟨hl,he⟩:=Hp h
 rw [List.drop_eq_getElem_cons hl,he]
theorem oV {α:Type} {l r:List α} {k:Nat} {x:α} (h:l.drop k=x::r):l[k]?=some x∧r=l.drop (k+1):=by
 have h1:l[k]?=some x:=by rw [←Nat.add_zero k,←List.getElem?_drop,h];rfl
 have:=sa h1
 rw [h] at this
 exact ⟨h1,by injection this⟩
end
theorem B8 {f:aL} {g:Int} (h0:0≤g) {x:bn} (hx:f.Glyphs[g.toNat]?=some x):mR (aW f) g=x.Mark:=by
 unfold mR aW
 rw [decide_eq_true h0,List.getD_eq_getElem?_getD,List.getElem?_map,hx]
 rfl
theorem rE {f:aL} {g:Int} (h:¬(0≤g∧g < f.Glyphs.length)):mR (aW f) g=false:=by
 unfold mR aW
 by_cases h0:0≤g
 ·rw [List.getD_eq_getElem?_getD,List.getElem?_eq_none (by rw [Hu];omega)]
  simp
 ·rw [decide_eq_false h0]
  rfl
def jU (ms:List Bool) (l:aP) (run:List b6) (i:Nat) (forms:List Int):Option Nat:=if m5 ms l.Ignore run i forms=true then l.Rules.findIdx? (eg ms l.Ignore run i) else none
theorem kW {ms:List Bool} {l:aP} {run:List b6} {i:Nat} {forms:List Int} (h:jU ms l run i forms=none):gc ms l run i forms=none:=by
 unfold jU at h
 unfold gc
 split at h
 ·rename_i hb
  rw [if_pos hb,tJ,h]
  rfl
 ·rename_i hb
  rw [if_neg hb]
theorem kX {ms:List Bool} {l:aP} {run:List b6} {i:Nat} {forms:List Int} {n:Nat} (h:jU ms l run i forms=some n):∃r,l.Rules[n]?=some r∧gc ms l run i forms=some r:=by
 unfold jU at h
 unfold gc
 split at h
 ·rename_i hb
  have hn:=(List.findIdx?_eq_some_iff_getElem.1 h).1
  exact ⟨l.Rules[n],Hz hn,by rw [if_pos hb,tJ,h];exact Hz hn⟩
 ·cases h
def pY (ms:List Bool) (l:aP) (run:List b6) (i:Nat) (forms:List Int):AV:=match jU ms l run i forms with
 | none=> .tup [aH (-1),.sc (.slice none 0 0)]
 | some n=> .tup [aH n,.imm 1 (cu ((dy ms l.Ignore run i).take ((l.Rules[n]?.map fun r=>r.In.length).getD 0)))]
theorem EG {α:Type} {l:List α} {q:α→Bool} {k:Nat} {x:α} (h:l[k]?=some x) (hq:q x=true) (hn:∀y∈l.take k,q y=false):l.findIdx? q=some k:=by
 obtain ⟨hl,he⟩:=Hp h
 refine List.findIdx?_eq_some_iff_getElem.2 ⟨hl,by rw [he];exact hq,fun j hj=>?_⟩
 have:=hn (l[j]) (Hw (i:=j) (by rw [List.getElem?_take,if_pos hj];exact Hz (by omega)))
 rw [this]
 simp
theorem lG.ruleO {f:aL} (h:lG f) {l:aP} (hl:l∈f.Lookups) {r:bv} (hr:r∈l.Rules) (hin:r.In≠[]):rX r:=
 have hb:=h.rule l hl r hr
 ⟨hin,hb.out,hb.calls,hb.at_⟩
theorem nC {ms:List Bool} {ls:List aP} {k:Nat} {l:aP} (h:l.Kind≠4) {r:bv} {ps:List Nat} {run:List b6}:iU ms ls k l r ps run=eR l r ps run:=by
 cases k with
 | zero=>rfl
 | succ k=>rw [iU];dsimp only;rw [if_neg h]
theorem xK {ms:List Bool} {ls:List aP} {z:Nat} {l:aP} (hl:ls[z]?=some l) (run:List b6) (forms:List Int):gt ms ls (z:Int) run forms=if l.Kind < 1∨6 < l.Kind then run else if l.Kind=5 then iV ms ls l forms run.length run else uN ms ls l forms run.length 0 run:=by
 unfold gt
 rw [if_neg (by omega),Int.toNat_natCast,hl]
theorem uE {r:bv} {i:Nat} {run:List b6}:(eZ r i run).length=run.length:=by
 unfold eZ
 split
 ·rfl
 ·split
  ·rfl
  ·split
   ·rw [List.length_set]
   ·rfl
theorem Ae {ms:List Bool} {ls:List aP} {k:Nat} {l:aP} (h:l.Kind=5) {r:bv} {ps:List Nat} {run:List b6}:(iU ms ls k l r ps run).length=run.length:=by
 rw [nC (by omega)]
 unfold eR
 rw [if_pos (.inr h),uE]
theorem D5 {ms:List Bool} {ls:List aP} {k:Nat} {l:aP} {r:bv} {run:List b6} {p:Nat} {q:List Nat} (hps:rW run (p::q)) (hr:run.length≤1000000) (hr2:(iU ms ls k l r (p::q) run).length≤1000000):
  oE l p ((p::q).getLastD p) run (iU ms ls k l r (p::q) run)≤1000001∧(iU ms ls k l r (p::q) run).length - oE l p ((p::q).getLastD p) run (iU ms ls k l r (p::q) run)≤run.length - p - 1:=by
 obtain ⟨l1,l2,l3⟩:=sL hps
 have hpair:l.Kind=6→(iU ms ls k l r (p::q) run).length=run.length:=fun h6=>by
  rw [nC (by omega)]
  unfold eR
  rw [if_neg (by omega),if_neg (by omega),if_neg (by omega),if_pos h6]
  unfold qh
  split
  ·rw [List.length_set]
  ·rfl
 generalize iU ms ls k l r (p::q) run=R at *
 generalize (p::q).getLastD p=last at *
 unfold oE
 split
 ·omega
 ·split
  ·rename_i h
   have:=hpair h.1
   omega
  ·omega
end Go.Proofs.YtpbinloeemebkaaGreat
