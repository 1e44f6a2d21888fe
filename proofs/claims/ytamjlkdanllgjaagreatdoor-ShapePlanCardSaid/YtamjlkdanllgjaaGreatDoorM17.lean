/-
  Go's library: two sorted rows are merged in place.
-/
import Derived.Test.YtamjlkdanllgjaaGreatDoorM16
namespace Go.Proofs.YtamjlkdanllgjaaGreatDoor
open Go.RowKit
attribute [local irreducible] AT bF AX AO Av Kt b8 d9 DA cu
set_option maxRecDepth 8000
theorem jl {A B:List Nat} {i:Nat} (h:A.length≤i):(A++B).getD i 0=B.getD (i - A.length) 0:=by
 rw [List.getD_eq_getElem?_getD,List.getD_eq_getElem?_getD,List.getElem?_append_right h]
theorem rB {A B:List Nat} {i:Nat} (h:i < A.length):(A++B).getD i 0=A.getD i 0:=by
 rw [List.getD_eq_getElem?_getD,List.getD_eq_getElem?_getD,List.getElem?_append_left h]
theorem ud {a b:Int} (h:oz a b < 0):a < b:=by
 unfold oz at h
 split at h
 ·assumption
 ·split at h <;> omega
theorem rd {a b:Int} (h:a < b):oz a b < 0:=by
 unfold oz
 rw [if_pos h]
 decide
theorem un {z:Int} (h0:0≤z) (h1:z≤4000000):IntKind.i64.wrap (IntKind.u64.wrap z / 2 ^ min 1 (IntKind.bits .u64))=z / 2:=by
 have e:IntKind.u64.wrap z=z:=by rw [IntKind.wrap_u64];omega
 rw [e,show z / 2 ^ min 1 (IntKind.bits .u64)=z / 2 from rfl,IntKind.wrap_i64]
 omega
set_option maxHeartbeats 16000000 in
theorem yQ (g:FuncId) (caps:List AV) (key:Nat→Int) (D:Nat→Prop) (hu:z6 (.fn g caps) key D) (b cap:Nat) (pre post:List AV) (N:Nat) (hN6:N≤1000000):∀(K:Nat) (P x y Q:List Nat) (a m c:Int),x.length+y.length≤K→a=P.length→m=a+x.length→c=m+y.length→0 < x.length→0 < y.length→N=P.length+(x.length+(y.length+Q.length))→(∀v∈x,D v)→(∀v∈y,D v)→mp key x→mp key y→(∀a∈x,∀b∈y,key a=key b→a < b)→
  AC Tryz.prog 229 [.sc (.slice (some ⟨b,pre.length,none⟩) N cap),aG a,aG m,aG c,.fn g caps] (ev b pre post (P++(x++(y++Q)))) fun _ L=>∃z,z.Perm (x++y)∧mp key z∧L=ev b pre post (P++(z++Q))
 | 0,P,x,y,Q,a,m,c,hK,_,_,_,hx0,_,_,_,_,_,_,_=>by omega
 | K+1,P,x,y,Q,a,m,c,hK,ha,hm,hc,hx0,hy0,hN,hDx,hDy,hx,hy,ht=>by
  refine aQ Tryz.func229 rfl Tryz.ntmps229 rfl fun B=>?_
  refine W02 ?_
  refine aw rfl (fun h=>?_) (fun h=>?_)
  ·obtain ⟨u,rfl⟩:∃u,x=[u]:=by
    have:=Oy h
    exact List.length_eq_one_iff.1 (by omega)
   clear h
   have hm:m=a+1:=hm
   have hDu:=hDx u (List.mem_cons_self ..)
   refine W03 ?_
   refine aJ [0,1,4] (α:=Nat×Nat) (fun s=>[(10,aG (m+(s.1:Int))),(11,aG (m+(s.2:Int)))]) (fun s=>s.1≤s.2∧s.2≤y.length∧(∀k,k < s.1→key (y.getD k 0) < key u)∧∀k,s.2≤k→k < y.length→key u≤key (y.getD k 0)) (fun _=>ev b pre post (P++([u]++(y++Q)))) (fun s=>s.2 - s.1) (0,y.length) rfl ⟨by rw [show m+((0:Nat):Int)=m by omega];rfl,by rw [←hc];rfl,trivial⟩ ⟨Nat.zero_le _,Nat.le_refl _,(fun k hk=>by omega),fun k h1 h2=>by omega⟩ (fun _ _ h=>h) ?_
   rintro ⟨i,j⟩ ⟨hij,hjl,hlo,hhi⟩
   dsimp only at hij hjl hlo hhi ⊢
   try dsimp only [Oq,Oo,Om,Oh]
   refine W01 ?_
   refine aw rfl (fun h=>?_) (fun h=>?_)
   ·have hlt:i < j:=by have:=Oy h;omega
    clear h
    refine W0c ?_
    refine fG a7 rfl rfl rfl rfl rfl rfl ?_
    repeat' (first|fail)
    refine mI 1 rfl rfl rfl rfl ?_
    repeat' (first|fail)
    refine fG a7 rfl rfl rfl rfl rfl rfl ?_
    rw [un (by omega) (by omega),show (m+(i:Int)+(m+(j:Int))) / 2=m+(((i+j) / 2:Nat):Int) by omega]
    refine W01 ?_
    have hq:(i+j) / 2 < j∧i≤(i+j) / 2:=by omega
    generalize (i+j) / 2=q at *
    have g1:(pre++(di (P++([u]++(y++Q)))++post))[pre.length+(P.length+(1+q))]?=some (aG (y.getD q 0)):=by
     rw [fJ (by simp only [List.length_append,List.length_singleton];omega),jl (by omega),jl (by rw [List.length_singleton];omega),rB (by rw [List.length_singleton];omega)]
     rw [List.length_singleton,show P.length+(1+q) - P.length - 1=q by omega]
    have g2:(pre++(di (P++([u]++(y++Q)))++post))[pre.length+P.length]?=some (aG u):=by
     rw [fJ (by simp only [List.length_append,List.length_singleton];omega),jl (by omega),Nat.sub_self]
     rfl
    refine bk 9 [(0,.v),(1,.v),(2,.v),(3,.v),(4,.l),(5,.v),(6,.v),(7,.v),(8,.l)] none ?_ trivial rfl (by kernel_rfl) (by kernel_rfl) (by kernel_rfl) mixed (by kernel_rfl) rfl
    refine W06 ?_
    refine c5 a7 rfl rfl rfl ⟨by omega,by omega⟩ (by first | trivial | rfl) ?_
    repeat' (first|refine aE ?_|fail)
    refine eu a7 0 _ rfl rfl (by omega) rfl g1 (by first | trivial | rfl) ?_
    refine W06 ?_
    refine c5 a7 rfl rfl rfl ⟨by omega,by omega⟩ (by first | trivial | rfl) ?_
    repeat' (first|refine aE ?_|fail)
    refine eu a7 0 _ rfl rfl (by omega) rfl g2 (by first | trivial | rfl) ?_
    repeat' (first|fail)
    refine OO [0,1,4,10,11,12,40,44,48] KN ?_
    repeat' (first|fail)
    refine ix [] (ev b pre post (P++([u]++(y++Q)))) (hu _ u (hDy _ (gr (by omega))) hDu) rfl rfl (Ok _) rfl rfl fun c1 L1 ⟨hc1,hL⟩=>?_
    subst hc1;subst hL
    refine W01 ?_
    refine aw rfl (fun h=>?_) (fun h=>?_)
    ·have hlt2:key (y.getD q 0) < key u:=ud (Oy h)
     clear h
     refine W02 ?_
     refine aD (q+1,j) rfl ⟨by rw [show m+(q:Int)+1=m+((q+1:Nat):Int) by omega];rfl,rfl,trivial⟩ ⟨by dsimp only;omega,hjl,fun k hk=>?_,hhi⟩ (by dsimp only;omega) (fun _ _ h=>h)
     have:=gO hy (show k≤q by dsimp only at hk;omega) (by omega)
     omega
    ·have hge:¬key (y.getD q 0) < key u:=fun e=>by have:=Ox h;exact this (rd e)
     clear h
     refine W01 ?_
     refine aD (i,q) rfl ⟨rfl,rfl,trivial⟩ ⟨by dsimp only;omega,by dsimp only;omega,hlo,fun k hk h3=>?_⟩ (by dsimp only;omega) (fun _ _ h=>h)
     have:=gO hy (show q≤k from hk) h3
     omega
   ·have hij2:i=j:=by have:=Ox h;omega
    subst hij2
    clear h
    refine W03 ?_
    refine aJ [0,10] (α:=Nat) (fun t=>[(13,aG (a+(t:Int)))]) (fun t=>t≤i) (fun t=>ev b pre post (P++(y.take t++u::(y.drop t++Q)))) (fun t=>i - t) 0 rfl ⟨by rw [show a+((0:Nat):Int)=a by omega];rfl,trivial⟩ (Nat.zero_le _) (fun _ _ h=>h) fun t hti=>?_
    try dsimp only [Oq,Oo,Om,Oh]
    refine W02 ?_
    refine aw rfl (fun h=>?_) (fun h=>?_)
    ·have htl:t < i:=by have:=Oy h;omega
     clear h
     have hst:=Ij P y Q u t (P.length+t) (by omega) rfl
     have hdl:(P++(y.take t++u::(y.drop t++Q))).length=N:=by simp only [List.length_append,List.length_cons,List.length_take,List.length_drop];simp only [List.length_singleton] at hN;omega
     generalize P++(y.take t++u::(y.drop t++Q))=e at *
     have g1:=fJ (pre:=pre) (post:=post) (d:=e) (i:=P.length+t) (by omega)
     have g2:=fJ (pre:=pre) (post:=post) (d:=e) (i:=P.length+t+1) (by omega)
     have hrl:=nQ pre post e
     refine W0z ?_
     refine bk 16 [(0,.v),(1,.v),(2,.v),(3,.v),(4,.v),(5,.v),(6,.v),(7,.v),(8,.v),(9,.l),(10,.v),(11,.v),(12,.v),(13,.l),(14,.v),(15,.e)] none ?_ trivial rfl (by kernel_rfl) (by kernel_rfl) (by kernel_rfl) mixed (by kernel_rfl) rfl
     refine W0q ?_
     refine c5 a7 rfl rfl rfl ⟨by omega,by omega⟩ (by first | trivial | rfl) ?_
     repeat' (first|refine aE ?_|fail)
     refine eu a7 0 _ rfl rfl (by omega) rfl g2 (by first | trivial | rfl) ?_
     refine W06 ?_
     refine c5 a7 rfl rfl rfl ⟨by omega,by omega⟩ (by first | trivial | rfl) ?_
     repeat' (first|refine aE ?_|fail)
     refine eu a7 0 _ rfl rfl (by omega) rfl g1 (by first | trivial | rfl) ?_
     repeat' (first|refine aE ?_|fail)
     refine c5 a7 rfl rfl rfl ⟨by omega,by omega⟩ (by first | trivial | rfl) ?_
     repeat' (first|refine aE ?_|fail)
     refine nf a7 0 (pre.length+(P.length+t)) rfl rfl (by omega) rfl rfl rfl (by omega) (by first | trivial | rfl) fun _=>?_
     repeat' (first|fail)
     refine OO [0,10,13,63,65,74] KN ?_
     refine W0i ?_
     refine gt a7 0 (pre.length+(P.length+t+1)) rfl rfl (by omega) rfl rfl rfl (by rw [List.length_set];omega) ?_
     refine W02 ?_
     rw [kB (by omega),kB (by rw [List.length_set];omega),hst]
     exact aD (t+1) rfl ⟨by rw [show a+(t:Int)+1=a+((t+1:Nat):Int) by omega];rfl,trivial⟩ htl (by omega) (fun _ _ h=>h)
    ·have hti2:t=i:=by have:=Ox h;omega
     subst hti2
     clear h
     repeat' (first|refine O1 ?_|fail)
     have hfin:∃z,z.Perm ([u]++y)∧mp key z∧ev b pre post (P++(y.take t++u::(y.drop t++Q)))=ev b pre post (P++(z++Q)):=⟨y.take t++u::y.drop t,by
      have:=List.perm_middle (a:=u) (l₁:=y.take t) (l₂:=y.drop t)
      rwa [List.take_append_drop] at this,uy hy u t (fun k h1 h2=> .inl (hlo k h1)) (fun k h1 h2=>by
      have:=hhi k h1 h2
      have:=ht u (List.mem_cons_self ..) _ (gr h2)
      unfold lx
      omega),by rw [List.append_assoc,Oq]⟩
     exact n4 rfl hfin
  have hx2:1 < x.length:=by have:=Ox h;omega
  clear h
  refine W02 ?_
  refine aw rfl (fun h=>?_) (fun h=>?_)
  ·obtain ⟨v,rfl⟩:∃v,y=[v]:=by
    have:=Oy h
    exact List.length_eq_one_iff.1 (by omega)
   clear h
   have hc:c=m+1:=hc
   have hDv:=hDy v (List.mem_cons_self ..)
   refine W03 ?_
   refine aJ [0,2,4] (α:=Nat×Nat) (fun s=>[(14,aG (a+(s.1:Int))),(15,aG (a+(s.2:Int)))]) (fun s=>s.1≤s.2∧s.2≤x.length∧(∀k,k < s.1→key (x.getD k 0)≤key v)∧∀k,s.2≤k→k < x.length→key v < key (x.getD k 0)) (fun _=>ev b pre post (P++(x++([v]++Q)))) (fun s=>s.2 - s.1) (0,x.length) rfl ⟨by rw [show a+((0:Nat):Int)=a by omega];rfl,by rw [←hm];rfl,trivial⟩ ⟨Nat.zero_le _,Nat.le_refl _,(fun k hk=>by omega),fun k h1 h2=>by omega⟩ (fun _ _ h=>h) ?_
   rintro ⟨i,j⟩ ⟨hij,hjl,hlo,hhi⟩
   dsimp only at hij hjl hlo hhi ⊢
   try dsimp only [Oq,Oo,Om,Oh]
   refine W01 ?_
   refine aw rfl (fun h=>?_) (fun h=>?_)
   ·have hlt:i < j:=by have:=Oy h;omega
    clear h
    refine W0c ?_
    refine fG a7 rfl rfl rfl rfl rfl rfl ?_
    repeat' (first|fail)
    refine mI 1 rfl rfl rfl rfl ?_
    repeat' (first|fail)
    refine fG a7 rfl rfl rfl rfl rfl rfl ?_
    rw [un (by omega) (by omega),show (a+(i:Int)+(a+(j:Int))) / 2=a+(((i+j) / 2:Nat):Int) by omega]
    refine W01 ?_
    have hq:(i+j) / 2 < j∧i≤(i+j) / 2:=by omega
    generalize (i+j) / 2=q at *
    have hl1:(P++(x++([v]++Q))).length=N:=by simp only [List.length_append,List.length_singleton];simp only [List.length_singleton] at hN;omega
    have g1:(pre++(di (P++(x++([v]++Q)))++post))[pre.length+(P.length+q)]?=some (aG (x.getD q 0)):=by
     rw [fJ (by omega),jl (by omega),rB (by omega),show P.length+q - P.length=q by omega]
    have g2:(pre++(di (P++(x++([v]++Q)))++post))[pre.length+(P.length+x.length)]?=some (aG v):=by
     rw [fJ (by simp only [List.length_singleton] at hN;omega),jl (by omega),jl (by omega),show P.length+x.length - P.length - x.length=0 by omega]
     rfl
    refine bk 9 [(0,.v),(1,.v),(2,.v),(3,.v),(4,.l),(5,.v),(6,.v),(7,.v),(8,.l)] none ?_ trivial rfl (by kernel_rfl) (by kernel_rfl) (by kernel_rfl) mixed (by kernel_rfl) rfl
    refine W06 ?_
    refine c5 a7 rfl rfl rfl ⟨by omega,by omega⟩ (by first | trivial | rfl) ?_
    repeat' (first|refine aE ?_|fail)
    refine eu a7 0 _ rfl rfl (by omega) rfl g2 (by first | trivial | rfl) ?_
    refine W06 ?_
    refine c5 a7 rfl rfl rfl ⟨by omega,by omega⟩ (by first | trivial | rfl) ?_
    repeat' (first|refine aE ?_|fail)
    refine eu a7 0 _ rfl rfl (by omega) rfl g1 (by first | trivial | rfl) ?_
    repeat' (first|fail)
    refine OO [0,2,4,14,15,16,92,96,100] KN ?_
    repeat' (first|fail)
    refine ix [] (ev b pre post (P++(x++([v]++Q)))) (hu v _ hDv (hDx _ (gr (by omega)))) rfl rfl (Ok _) rfl rfl fun c1 L1 ⟨hc1,hL⟩=>?_
    subst hc1;subst hL
    refine W01 ?_
    refine aw rfl (fun h=>?_) (fun h=>?_)
    ·have hge:key (x.getD q 0)≤key v:=by
      refine Int.not_lt.1 fun e=>?_
      have:=rd e
      rw [decide_eq_true this] at h
      cases h
     clear h
     refine W02 ?_
     refine aD (q+1,j) rfl ⟨by rw [show a+(q:Int)+1=a+((q+1:Nat):Int) by omega];rfl,rfl,trivial⟩ ⟨by dsimp only;omega,hjl,fun k hk=>?_,hhi⟩ (by dsimp only;omega) (fun _ _ h=>h)
     have:=gO hx (show k≤q by dsimp only at hk;omega) (by omega)
     omega
    ·have hlt2:key v < key (x.getD q 0):=ud (by simpa using h)
     clear h
     refine W01 ?_
     refine aD (i,q) rfl ⟨rfl,rfl,trivial⟩ ⟨by dsimp only;omega,by dsimp only;omega,hlo,fun k hk h3=>?_⟩ (by dsimp only;omega) (fun _ _ h=>h)
     have:=gO hx (show q≤k from hk) h3
     omega
   ·have hij2:i=j:=by have:=Ox h;omega
    subst hij2
    clear h
    refine W03 ?_
    refine aJ [0,14] (α:=Nat) (fun t=>[(17,aG (a+(t:Int)))]) (fun t=>i≤t∧t≤x.length) (fun t=>ev b pre post (P++(x.take t++v::(x.drop t++Q)))) (fun t=>t - i) x.length rfl ⟨by rw [←hm];rfl,trivial⟩ ⟨hjl,Nat.le_refl _⟩ (fun _ _ h=>by rw [List.take_length,List.drop_length];exact h) fun t ht2=>?_
    try dsimp only [Oq,Oo,Om,Oh]
    refine W01 ?_
    refine aw rfl (fun h=>?_) (fun h=>?_)
    ·obtain ⟨r,rfl⟩:∃r,t=r+1:=⟨t - 1,by have:=Oy h;omega⟩
     have hir:i≤r:=by have:=Oy h;omega
     clear h
     have hst:=CH P x Q v r (P.length+r) (by omega) rfl
     have hdl:(P++(x.take (r+1)++v::(x.drop (r+1)++Q))).length=N:=by simp only [List.length_append,List.length_cons,List.length_take,List.length_drop];simp only [List.length_singleton] at hN;omega
     generalize P++(x.take (r+1)++v::(x.drop (r+1)++Q))=e at *
     have g1:=fJ (pre:=pre) (post:=post) (d:=e) (i:=P.length+r) (by omega)
     have g2:=fJ (pre:=pre) (post:=post) (d:=e) (i:=P.length+r+1) (by omega)
     have hrl:=nQ pre post e
     refine W0z ?_
     refine bk 16 [(0,.v),(1,.v),(2,.v),(3,.v),(4,.v),(5,.v),(6,.v),(7,.v),(8,.v),(9,.l),(10,.v),(11,.v),(12,.v),(13,.l),(14,.v),(15,.e)] none ?_ trivial rfl (by kernel_rfl) (by kernel_rfl) (by kernel_rfl) mixed (by kernel_rfl) rfl
     refine W0q ?_
     refine c5 a7 rfl rfl rfl ⟨by omega,by omega⟩ (by first | trivial | rfl) ?_
     repeat' (first|refine aE ?_|fail)
     refine eu a7 0 _ rfl rfl (by omega) rfl g1 (by first | trivial | rfl) ?_
     refine W06 ?_
     refine c5 a7 rfl rfl rfl ⟨by omega,by omega⟩ (by first | trivial | rfl) ?_
     repeat' (first|refine aE ?_|fail)
     refine eu a7 0 _ rfl rfl (by omega) rfl g2 (by first | trivial | rfl) ?_
     repeat' (first|refine aE ?_|fail)
     refine c5 a7 rfl rfl rfl ⟨by omega,by omega⟩ (by first | trivial | rfl) ?_
     repeat' (first|refine aE ?_|fail)
     refine nf a7 0 (pre.length+(P.length+r+1)) rfl rfl (by omega) rfl rfl rfl (by omega) (by first | trivial | rfl) fun _=>?_
     repeat' (first|fail)
     refine OO [0,14,17,115,117,126] KN ?_
     refine W0i ?_
     refine gt a7 0 (pre.length+(P.length+r)) rfl rfl (by omega) rfl rfl rfl (by rw [List.length_set];omega) ?_
     refine W02 ?_
     rw [kB (by omega),kB (by rw [List.length_set];omega),hst]
     exact aD r rfl ⟨by rw [show a+((r+1:Nat):Int) - 1=a+(r:Int) by omega];rfl,trivial⟩ ⟨hir,by omega⟩ (by omega) (fun _ _ h=>h)
    ·have hti2:t=i:=by have:=Ox h;omega
     subst hti2
     clear h
     repeat' (first|refine O1 ?_|fail)
     have hfin:∃z,z.Perm (x++[v])∧mp key z∧ev b pre post (P++(x.take t++v::(x.drop t++Q)))=ev b pre post (P++(z++Q)):=⟨x.take t++v::x.drop t,by
      have:=List.perm_middle (a:=v) (l₁:=x.take t) (l₂:=x.drop t)
      rw [List.take_append_drop] at this
      exact this.trans (List.perm_append_comm (l₁:=[v])),uy hx v t (fun k h1 h2=>by
      have:=hlo k h1
      have:=ht _ (gr h2) v (List.mem_cons_self ..)
      unfold lx
      omega) (fun k h1 h2=> .inl (hhi k h1 h2)),by rw [List.append_assoc,Oq]⟩
     exact n4 rfl hfin
  ·have hy2:1 < y.length:=by have:=Ox h;omega
   clear h
   refine W02 ?_
   refine fG a7 rfl rfl rfl rfl rfl rfl ?_
   repeat' (first|fail)
   refine mI 1 rfl rfl rfl rfl ?_
   repeat' (first|fail)
   refine fG a7 rfl rfl rfl rfl rfl rfl ?_
   rw [un (by omega) (by omega),show (a+c) / 2=a+(((x.length+y.length) / 2:Nat):Int) by omega]
   have hn:(x.length+y.length) / 2 * 2≤x.length+y.length∧x.length+y.length≤(x.length+y.length) / 2 * 2+1:=by omega
   generalize (x.length+y.length) / 2=n at *
   refine W02 ?_
   refine iu (α:=Nat×Nat) [0,1,2,3,4,18,19,20,21] (fun s=>[(0,.sc (.slice (some ⟨b,pre.length,none⟩) N cap)),(1,aG a),(2,aG m),(3,aG c),(4,.fn g caps),(18,aG (a+(n:Int))),(19,aG (a+(n:Int)+m)),(20,aG (a+(s.1:Int))),(21,aG (a+(s.2:Int)))]) (fun _=>ev b pre post (P++(x++(y++Q)))) (fun s=>s.1≤s.2∧s.2≤x.length∧s.2≤n∧n - s.1≤y.length∧(s.1=0∨n - s.1=y.length)∧(s.2=x.length∨s.2=n)) (fun Q' K=>?_) ?_
   ·refine aw rfl (fun h=>?_) (fun h=>?_)
    ·have hlt:n < x.length:=by have:=Oy h;omega
     clear h
     refine W02 ?_
     rw [show a+(n:Int)+m - c=a+((n - y.length:Nat):Int) by omega]
     exact K (n - y.length,n) _ ⟨by dsimp only;omega,by dsimp only;omega,Nat.le_refl _,by dsimp only;omega,.inr (by dsimp only;omega),.inr rfl⟩ rfl
    ·have hlt:x.length≤n:=by have:=Ox h;omega
     clear h
     refine W01 ?_
     exact K (0,x.length) _ ⟨Nat.zero_le _,Nat.le_refl _,hlt,by dsimp only;omega,.inl rfl,.inl rfl⟩ (by
      dsimp only
      rw [show a+((0:Nat):Int)=a by omega,←hm]
      rfl)
   rintro ⟨lo,hi⟩ ⟨h1,h2,h3,h4,h5,h6⟩
   dsimp only at h1 h2 h3 h4 h5 h6 ⊢
   refine W0c ?_
   refine aJ [0,1,2,3,4,18,19,22] (α:=Nat×Nat) (fun s=>[(20,aG (a+(s.1:Int))),(21,aG (a+(s.2:Int)))]) (fun s=>lo≤s.1∧s.1≤s.2∧s.2≤hi∧(∀k,lo≤k→k < s.1→key (x.getD k 0)≤key (y.getD (n - 1 - k) 0))∧∀k,s.2≤k→k < hi→key (y.getD (n - 1 - k) 0) < key (x.getD k 0)) (fun _=>ev b pre post (P++(x++(y++Q)))) (fun s=>s.2 - s.1) (lo,hi) rfl ⟨rfl,rfl,trivial⟩ ⟨Nat.le_refl _,h1,Nat.le_refl _,(fun k _ hk=>by omega),fun k _ hk=>by omega⟩ (fun _ _ h=>h) ?_
   rintro ⟨s,r⟩ ⟨e1,e2,e3,e4,e5⟩
   dsimp only at e1 e2 e3 e4 e5 ⊢
   try dsimp only [Oq,Oo,Om,Oh]
   refine W01 ?_
   refine aw rfl (fun h=>?_) (fun h=>?_)
   ·have hlt:s < r:=by have:=Oy h;omega
    clear h
    refine W0c ?_
    refine fG a7 rfl rfl rfl rfl rfl rfl ?_
    repeat' (first|fail)
    refine mI 1 rfl rfl rfl rfl ?_
    repeat' (first|fail)
    refine fG a7 rfl rfl rfl rfl rfl rfl ?_
    rw [un (by omega) (by omega),show (a+(s:Int)+(a+(r:Int))) / 2=a+(((s+r) / 2:Nat):Int) by omega]
    refine W01 ?_
    have hq:(s+r) / 2 < r∧s≤(s+r) / 2:=by omega
    generalize (s+r) / 2=q at *
    have hl1:(P++(x++(y++Q))).length=N:=by simp only [List.length_append];omega
    have g1:(pre++(di (P++(x++(y++Q)))++post))[pre.length+(P.length+q)]?=some (aG (x.getD q 0)):=by
     rw [fJ (by omega),jl (by omega),rB (by omega),show P.length+q - P.length=q by omega]
    have g2:(pre++(di (P++(x++(y++Q)))++post))[pre.length+(P.length+(x.length+(n - 1 - q)))]?=some (aG (y.getD (n - 1 - q) 0)):=by
     rw [fJ (by omega),jl (by omega),jl (by omega),rB (by omega),show P.length+(x.length+(n - 1 - q)) - P.length - x.length=n - 1 - q by omega]
    refine bk 11 [(0,.v),(1,.v),(2,.v),(3,.v),(4,.v),(5,.v),(6,.l),(7,.v),(8,.v),(9,.v),(10,.l)] none ?_ trivial rfl (by kernel_rfl) (by kernel_rfl) (by kernel_rfl) mixed (by kernel_rfl) rfl
    refine W0q ?_
    refine c5 a7 rfl rfl rfl ⟨by omega,by omega⟩ (by first | trivial | rfl) ?_
    repeat' (first|refine aE ?_|fail)
    refine eu a7 0 _ rfl rfl (by omega) rfl g2 (by first | trivial | rfl) ?_
    refine W06 ?_
    refine c5 a7 rfl rfl rfl ⟨by omega,by omega⟩ (by first | trivial | rfl) ?_
    repeat' (first|refine aE ?_|fail)
    refine eu a7 0 _ rfl rfl (by omega) rfl g1 (by first | trivial | rfl) ?_
    repeat' (first|fail)
    refine OO [0,1,2,3,4,18,19,20,21,22,23,158,164,168] KN ?_
    repeat' (first|fail)
    refine ix [] (ev b pre post (P++(x++(y++Q)))) (hu _ _ (hDy _ (gr (by omega))) (hDx _ (gr (by omega)))) rfl rfl (Ok _) rfl rfl fun c1 L1 ⟨hc1,hL⟩=>?_
    subst hc1;subst hL
    refine W01 ?_
    refine aw rfl (fun h=>?_) (fun h=>?_)
    ·have hge:key (x.getD q 0)≤key (y.getD (n - 1 - q) 0):=by
      refine Int.not_lt.1 fun e=>?_
      have:=rd e
      rw [decide_eq_true this] at h
      cases h
     clear h
     refine W02 ?_
     refine aD (q+1,r) rfl ⟨by rw [show a+(q:Int)+1=a+((q+1:Nat):Int) by omega];rfl,rfl,trivial⟩ ⟨by dsimp only;omega,by dsimp only;omega,e3,fun k hk1 hk2=>?_,e5⟩ (by dsimp only;omega) (fun _ _ h=>h)
     dsimp only at hk2
     have:=gO hx (show k≤q by omega) (by omega)
     have:=gO hy (show n - 1 - q≤n - 1 - k by omega) (by omega)
     omega
    ·have hlt2:key (y.getD (n - 1 - q) 0) < key (x.getD q 0):=ud (by simpa using h)
     clear h
     refine W01 ?_
     refine aD (s,q) rfl ⟨rfl,rfl,trivial⟩ ⟨e1,by dsimp only;omega,by dsimp only;omega,e4,fun k hk1 hk2=>?_⟩ (by dsimp only;omega) (fun _ _ h=>h)
     dsimp only at hk1
     have:=gO hx (show q≤k by omega) (by omega)
     have:=gO hy (show n - 1 - k≤n - 1 - q by omega) (by omega)
     omega
   have hsr:s=r:=by have:=Ox h;omega
   subst hsr
   clear h e2
   obtain ⟨hA,hB⟩:=KG hx hy ht (s:=s) (n:=n) (by omega) (by omega) (by omega) (fun k hk1 hk2=>e4 k (by omega) hk1) (fun k hk1 hk2 hk3=>e5 k hk1 (by omega))
   have hxs:=List.take_append_drop s x
   have hys:=List.take_append_drop (n - s) y
   have l1:(x.take s).length=s:=by rw [List.length_take];omega
   have l2:(x.drop s).length=x.length - s:=List.length_drop
   have l3:(y.take (n - s)).length=n - s:=by rw [List.length_take];omega
   have l4:(y.drop (n - s)).length=y.length - (n - s):=List.length_drop
   have s1:mp key (x.take s):=hx.sublist (List.take_sublist ..)
   have s2:mp key (x.drop s):=hx.sublist (List.drop_sublist ..)
   have s3:mp key (y.take (n - s)):=hy.sublist (List.take_sublist ..)
   have s4:mp key (y.drop (n - s)):=hy.sublist (List.drop_sublist ..)
   have m1:∀v∈x.take s,v∈x:=fun v=>List.mem_of_mem_take
   have m2:∀v∈x.drop s,v∈x:=fun v=>List.mem_of_mem_drop
   have m3:∀v∈y.take (n - s),v∈y:=fun v=>List.mem_of_mem_take
   have m4:∀v∈y.drop (n - s),v∈y:=fun v=>List.mem_of_mem_drop
   clear e4 e5
   generalize x.take s=X1 at *
   generalize x.drop s=X2 at *
   generalize y.take (n - s)=Y1 at *
   generalize y.drop (n - s)=Y2 at *
   subst hxs;subst hys
   simp only [List.length_append] at hK hm hc hx0 hy0 hN hx2 hy2 hn h2 h4 h5 h6 l2 l4
   refine W02 ?_
   refine da (t:=185) [0,1,2,3,4,18,20,24] (0 < X2.length∧0 < Y1.length) rfl (fun Q' KK=>?_) ?_
   ·repeat' (first|refine O1 ?_|refine OE a7 KN ?_|refine ON KN ?_|refine OP OA ?_|refine OR NZ (fun _=>?_) (fun _=>?_))
    all_goals exact KK _ _ rfl rfl (by clear KK hA hB ht hx hy s1 s2 s3 s4 m1 m2 m3 m4 hDx hDy hu;simp only [Bool.not_true,decide_eq_true_eq,decide_eq_false_iff_not,Bool.false_eq_true,false_iff] at *;omega)
   refine a8 ?_
   refine iu (α:=Unit) [0,1,3,4,18,20,24] (fun _=>[(0,.sc (.slice (some ⟨b,pre.length,none⟩) N cap)),(1,aG a),(3,aG c),(4,.fn g caps),(18,aG (a+(n:Int))),(20,aG (a+(s:Int))),(24,aG (a+(n:Int)+m - (a+(s:Int))))]) (fun _=>ev b pre post (P++(X1++(Y1++(X2++(Y2++Q)))))) (fun _=>True) (fun Q' KK=>?_) (fun _ _=>?_)
   ·refine aw rfl (fun h=>?_) (fun h=>?_)
    ·obtain ⟨k1,k2⟩:=Oy h
     clear h
     refine W01 ?_
     refine bh (ev b pre post ((P++X1)++(X2++(Y1++(Y2++Q))))) [] (Cm g caps b cap pre post (P++X1) X2 Y1 (Y2++Q) _ _ _ (by simp only [List.length_append];omega) (by omega) (by omega) k1 k2 N (by simp only [List.length_append];omega) hN6) rfl rfl (List.Perm.of_eq (by simp)) rfl fun c1 L1 hL=>?_
     rw [List.append_assoc] at hL
     subst hL
     repeat' (first|refine O1 ?_|fail)
     exact KK () _ trivial rfl
    ·have hn2:X2=[]∨Y1=[]:=by
      have:=Ox h
      by_cases e:X2.length=0
      ·exact .inl (List.eq_nil_of_length_eq_zero e)
      ·exact .inr (List.eq_nil_of_length_eq_zero (by omega))
     clear h
     repeat' (first|refine O1 ?_|fail)
     rw [show P++(X1++X2++(Y1++Y2++Q))=P++(X1++(Y1++(X2++(Y2++Q)))) by rcases hn2 with rfl | rfl <;> simp]
     exact KK () _ trivial rfl
   refine W01 ?_
   refine da (t:=199) [0,1,3,4,18,20,24] (0 < X1.length∧0 < Y1.length) rfl (fun Q' KK=>?_) ?_
   ·repeat' (first|refine O1 ?_|refine OE a7 KN ?_|refine ON KN ?_|refine OP OA ?_|refine OR NZ (fun _=>?_) (fun _=>?_))
    all_goals exact KK _ _ rfl rfl (by clear KK hA hB ht hx hy s1 s2 s3 s4 m1 m2 m3 m4 hDx hDy hu;simp only [Bool.not_true,decide_eq_true_eq,decide_eq_false_iff_not,Bool.false_eq_true,false_iff] at *;omega)
   refine a8 ?_
   refine iu (α:=List Nat) [0,3,4,18,24] (fun _=>[(0,.sc (.slice (some ⟨b,pre.length,none⟩) N cap)),(3,aG c),(4,.fn g caps),(18,aG (a+(n:Int))),(24,aG (a+(n:Int)+m - (a+(s:Int))))]) (fun z=>ev b pre post (P++(z++(X2++(Y2++Q))))) (fun z=>z.Perm (X1++Y1)∧mp key z) (fun Q' KK=>?_) ?_
   ·refine aw rfl (fun h=>?_) (fun h=>?_)
    ·obtain ⟨k1,k2⟩:=Oy h
     clear h
     refine W01 ?_
     refine bh (ev b pre post (P++(X1++(Y1++(X2++(Y2++Q)))))) [] (yQ g caps key D hu b cap pre post N hN6 K P X1 Y1 (X2++(Y2++Q)) _ _ _ (by omega) ha (by omega) (by omega) k1 k2 (by simp only [List.length_append];omega) (fun v hv=>hDx v (m1 v hv)) (fun v hv=>hDy v (m3 v hv)) s1 s3 (fun u hu v hv=>ht u (m1 u hu) v (m3 v hv))) rfl rfl (by rw [List.append_nil]) rfl fun c1 L1 ⟨z,z1,z2,hL⟩=>?_
     subst hL
     repeat' (first|refine O1 ?_|fail)
     exact KK z _ ⟨z1,z2⟩ rfl
    ·have hn2:X1=[]∨Y1=[]:=by
      have:=Ox h
      by_cases e:X1.length=0
      ·exact .inl (List.eq_nil_of_length_eq_zero e)
      ·exact .inr (List.eq_nil_of_length_eq_zero (by omega))
     clear h
     repeat' (first|refine O1 ?_|fail)
     have hz:mp key (X1++Y1):=by
      rcases hn2 with rfl | rfl
      ·exact s3
      ·rw [List.append_nil];exact s1
     rw [show P++(X1++(Y1++(X2++(Y2++Q))))=P++((X1++Y1)++(X2++(Y2++Q))) by rw [List.append_assoc]]
     exact KK (X1++Y1) _ ⟨Ok _,hz⟩ rfl
   rintro z ⟨p1,p2⟩
   have pl:=p1.length_eq
   rw [List.length_append] at pl
   refine W01 ?_
   refine da (t:=213) [0,3,4,18,24] (0 < X2.length∧0 < Y2.length) rfl (fun Q' KK=>?_) ?_
   ·repeat' (first|refine O1 ?_|refine OE a7 KN ?_|refine ON KN ?_|refine OP OA ?_|refine OR NZ (fun _=>?_) (fun _=>?_))
    all_goals exact KK _ _ rfl rfl (by clear KK hA hB ht hx hy s1 s2 s3 s4 m1 m2 m3 m4 hDx hDy hu;simp only [Bool.not_true,decide_eq_true_eq,decide_eq_false_iff_not,Bool.false_eq_true,false_iff] at *;omega)
   refine a8 ?_
   have hfin:∀w,w.Perm (X2++Y2)→mp key w→∃z',z'.Perm (X1++X2++(Y1++Y2))∧mp key z'∧ev b pre post (P++(z++(w++Q)))=ev b pre post (P++(z'++Q)):=fun w w1 w2=>by
    refine ⟨z++w,?_,zW p2 w2 fun u hu v hv=>?_,by rw [List.append_assoc]⟩
    ·refine (p1.append w1).trans ?_
     rw [List.append_assoc,List.append_assoc]
     exact (List.perm_append_comm_assoc Y1 X2 Y2).append_left X1
    ·rcases Oj (p1.mem_iff.1 hu) with hu | hu <;> rcases Oj (w1.mem_iff.1 hv) with hv | hv
     ·exact (List.pairwise_append.1 hx).2.2 u hu v hv
     ·exact hA u hu v hv
     ·exact hB u hu v hv
     ·exact (List.pairwise_append.1 hy).2.2 u hu v hv
   refine aw rfl (fun h=>?_) (fun h=>?_)
   ·obtain ⟨k1,k2⟩:=Oy h
    clear h
    refine W01 ?_
    refine bh (ev b pre post ((P++z)++(X2++(Y2++Q)))) [] (yQ g caps key D hu b cap pre post N hN6 K (P++z) X2 Y2 Q _ _ _ (by omega) (by simp only [List.length_append];omega) (by omega) (by omega) k1 k2 (by simp only [List.length_append];omega) (fun v hv=>hDx v (m2 v hv)) (fun v hv=>hDy v (m4 v hv)) s2 s4 (fun u hu v hv=>ht u (m2 u hu) v (m4 v hv))) rfl rfl (List.Perm.of_eq (by simp)) rfl fun c1 L1 ⟨w,w1,w2,hL⟩=>?_
    rw [List.append_assoc] at hL
    subst hL
    repeat' (first|refine O1 ?_|fail)
    exact cN rfl (hfin w w1 w2)
   ·have hn2:X2=[]∨Y2=[]:=by
     have:=Ox h
     by_cases e:X2.length=0
     ·exact .inl (List.eq_nil_of_length_eq_zero e)
     ·exact .inr (List.eq_nil_of_length_eq_zero (by omega))
    clear h
    repeat' (first|refine O1 ?_|fail)
    have:=hfin (X2++Y2) (Ok _) (by
     rcases hn2 with rfl | rfl
     ·exact s4
     ·rw [List.append_nil];exact s2)
    rw [show P++(z++((X2++Y2)++Q))=P++(z++(X2++(Y2++Q))) by rw [List.append_assoc X2]] at this
    exact cN rfl this
end Go.Proofs.YtamjlkdanllgjaaGreatDoor
