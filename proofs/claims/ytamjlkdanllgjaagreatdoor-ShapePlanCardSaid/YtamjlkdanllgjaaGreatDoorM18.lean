/-
  Go's library: a stable sort of at most forty places, in blocks.
-/
import Derived.Test.YtamjlkdanllgjaaGreatDoorM17
namespace Go.Proofs.YtamjlkdanllgjaaGreatDoor
open Go.RowKit
attribute [local irreducible] AT bF AX AO Av Kt b8 d9 DA cu
set_option maxRecDepth 8000
theorem Ap {pre post:List AV} {P R Q:List Nat} {k v:Nat} (h:R[k]?=some v):(pre++(di (P++(R++Q))++post))[pre.length+(P.length+k)]?=some (aG v):=by
 have hk:=(Ol h).1
 rw [fJ (by simp only [List.length_append];omega),jl (by omega),rB (by omega),show P.length+k - P.length=k by omega,List.getD_eq_getElem?_getD,h]
 rfl
theorem Aq {pre post:List AV} {P R Q:List Nat} {k v:Nat} (h:k < R.length):(pre++(di (P++(R++Q))++post)).set (pre.length+(P.length+k)) (aG v)=pre++(di (P++(R.set k v++Q))++post):=by
 rw [kB (by simp only [List.length_append];omega),List.set_append_right _ _ (by omega),Nat.add_sub_cancel_left,List.set_append_left _ _ h]
set_option maxHeartbeats 4000000 in
theorem mD (g:FuncId) (caps:List AV) (key:Nat→Int) (D:Nat→Prop) (hu:z6 (.fn g caps) key D) (b cap:Nat) (pre post:List AV) (P l Q:List Nat) (N:Nat) (a c:Int) (ha:a=P.length) (hc:c=a+l.length) (hN:N=P.length+(l.length+Q.length)) (hD:∀x∈l,D x) (hl:N≤1000000):
  AC Tryz.prog 228 [.sc (.slice (some ⟨b,pre.length,none⟩) N cap),aG a,aG c,.fn g caps] (ev b pre post (P++(l++Q))) fun _ L=>L=ev b pre post (P++(dh key l++Q)):=by
 refine aQ Tryz.func228 rfl Tryz.ntmps228 rfl fun B=>?_
 have h0:dh key (l.take 1)++l.drop 1=l:=by
  cases l with
  | nil=>rfl
  | cons x r=>rfl
 refine W0c ?_
 refine aJ [0,1,2,3] (α:=Nat) (fun i=>[(8,aG (a+(i:Int)))]) (fun i=>1≤i∧i≤max l.length 1) (fun i=>ev b pre post (P++((dh key (l.take i)++l.drop i)++Q))) (fun i=>l.length+1 - i) 1 rfl ⟨rfl,trivial⟩ ⟨Nat.le_refl _,by omega⟩ (fun _ _ h=>by rw [h0];exact h) fun i hi=>?_
 try dsimp only [Oq,Oo,Om,Oh]
 refine W01 ?_
 refine aw rfl (fun h=>?_) (fun h=>?_)
 ·have hil:i < l.length:=by have:=Oy h;omega
  obtain ⟨x,hx⟩:∃x,l[i]?=some x:=⟨_,Oz hil⟩
  have hdx:D x:=hD x (Ow hx)
  have hsucc:dh key (l.take (i+1))=sJ key (dh key (l.take i)) x:=by
   unfold dh
   rw [List.take_add_one,hx,List.foldl_append]
   rfl
  have hpl:(dh key (l.take i)).length=i:=by rw [(dy _ _).length_eq,List.length_take];omega
  have hpD:∀y∈dh key (l.take i),D y:=fun y hy=>hD y (List.mem_of_mem_take ((dy _ _).mem_iff.1 hy))
  have hdr:l.drop i=x::l.drop (i+1):=by
   rw [List.drop_eq_getElem_cons hil]
   congr 1
   rw [Oz hil] at hx
   exact Option.some.inj hx
  have hrl:(l.drop (i+1)).length=l.length - (i+1):=List.length_drop ..
  rw [hdr]
  generalize dh key (l.take i)=p at *
  generalize hrest:l.drop (i+1)=rest at *
  clear h
  refine W03 ?_
  refine aJ [0,1,2,3,8] (α:=Nat) (fun j=>[(9,aG (a+(j:Int)))]) (fun j=>j≤i∧jF key x p j=jF key x p p.length) (fun j=>ev b pre post (P++(iz p rest x j++Q))) (fun j=>j) i rfl ⟨rfl,trivial⟩ ⟨Nat.le_refl _,by rw [hpl]⟩ (fun _ _ h=>by rw [←hpl,Fx];exact h) fun j hj=>?_
  try dsimp only [Oq,Oo,Om,Oh]
  have hrow:(iz p rest x j).length=l.length:=by rw [nW,hpl,hrl];omega
  obtain ⟨hji,hins⟩:=hj
  cases j with
  | zero=>
   repeat' (first|refine O1 ?_|fail)
   refine bk 17 [(0,.v),(1,.v),(2,.v),(3,.v),(4,.v),(5,.v),(6,.v),(7,.v),(8,.v),(9,.v),(10,.v),(11,.v),(12,.v),(13,.v),(14,.v),(15,.v),(16,.v)] none ?_ trivial rfl (by kernel_rfl) (by kernel_rfl) (by kernel_rfl) mixed (by kernel_rfl) rfl
   refine W06 ?_
   rw [decide_eq_false (show ¬a < a+((0:Nat):Int) by omega)]
   refine W16 ?_
   refine OO [0,1,2,3,8,34] KN ?_
   repeat' (first|refine O1 ?_|refine aa ?_|refine OE a7 KN ?_|(apply aS;refine aR ?_)|refine bj rfl ?_)
   have hj1:jF key x p p.length=0:=by rw [←hins];rfl
   refine aD (i+1) rfl ⟨by rw [show a+(i:Int)+1=a+((i+1:Nat):Int) by omega];rfl,trivial⟩ ⟨by omega,by omega⟩ (by omega) (fun _ _ h=>?_)
   rw [hsucc,hrest,←wN,hj1]
   exact h
  | succ j=>
   obtain ⟨y,hy⟩:∃y,p[j]?=some y:=⟨_,Oz (by omega)⟩
   have hdy:D y:=hpD y (Ow hy)
   have g1:=Ap (pre:=pre) (post:=post) (P:=P) (Q:=Q) (R:=iz p rest x (j+1)) (k:=j+1) (v:=x) (An (by omega))
   have g2:=Ap (pre:=pre) (post:=post) (P:=P) (Q:=Q) (R:=iz p rest x (j+1)) (k:=j) (v:=y) (by rw [yC (by omega)];exact hy)
   repeat' (first|refine O1 ?_|fail)
   refine bk 14 [(0,.v),(1,.v),(2,.v),(3,.v),(4,.v),(5,.v),(6,.v),(7,.v),(8,.l),(9,.v),(10,.v),(11,.v),(12,.v),(13,.l)] none ?_ trivial rfl (by kernel_rfl) (by kernel_rfl) (by kernel_rfl) mixed (by kernel_rfl) rfl
   refine W06 ?_
   rw [decide_eq_true (show a < a+((j+1:Nat):Int) by omega)]
   refine W06 ?_
   refine c5 a7 rfl rfl rfl ⟨by omega,by omega⟩ (by first | trivial | rfl) ?_
   repeat' (first|refine aE ?_|fail)
   refine eu a7 0 (pre.length+(P.length+(j+1))) rfl rfl (by omega) rfl g1 (by first | trivial | rfl) ?_
   refine W0q ?_
   refine c5 a7 rfl rfl rfl ⟨by omega,by omega⟩ (by first | trivial | rfl) ?_
   repeat' (first|refine aE ?_|fail)
   refine eu a7 0 (pre.length+(P.length+j)) rfl rfl (by omega) rfl g2 (by first | trivial | rfl) ?_
   repeat' (first|fail)
   refine OO [0,1,2,3,8,9,21,22,26,31] KN ?_
   repeat' (first|refine ON KN ?_)
   refine ix [] (ev b pre post (P++(iz p rest x (j+1)++Q))) (hu x y hdx hdy) rfl rfl (Ok _) rfl rfl fun c L1 ⟨hc,hL⟩=>?_
   subst hc;subst hL
   refine W0y ?_
   refine aw rfl (fun h=>?_) (fun h=>?_)
   ·have hlt:key x < key y:=by
     have:=Oy h
     unfold oz at this
     split at this
     ·assumption
     ·split at this <;> omega
    clear h
    refine W0z ?_
    refine bk 16 [(0,.v),(1,.v),(2,.v),(3,.v),(4,.v),(5,.v),(6,.v),(7,.v),(8,.v),(9,.l),(10,.v),(11,.v),(12,.v),(13,.l),(14,.v),(15,.e)] none ?_ trivial rfl (by kernel_rfl) (by kernel_rfl) (by kernel_rfl) mixed (by kernel_rfl) rfl
    refine W0q ?_
    refine c5 a7 rfl rfl rfl ⟨by omega,by omega⟩ (by first | trivial | rfl) ?_
    repeat' (first|refine aE ?_|fail)
    refine eu a7 0 (pre.length+(P.length+j)) rfl rfl (by omega) rfl g2 (by first | trivial | rfl) ?_
    refine W06 ?_
    refine c5 a7 rfl rfl rfl ⟨by omega,by omega⟩ (by first | trivial | rfl) ?_
    repeat' (first|refine aE ?_|fail)
    refine eu a7 0 (pre.length+(P.length+(j+1))) rfl rfl (by omega) rfl g1 (by first | trivial | rfl) ?_
    repeat' (first|refine aE ?_|fail)
    refine c5 a7 rfl rfl rfl ⟨by omega,by omega⟩ (by first | trivial | rfl) ?_
    repeat' (first|refine aE ?_|fail)
    refine nf a7 0 (pre.length+(P.length+(j+1))) rfl rfl (by omega) rfl rfl rfl (by rw [nQ];simp only [List.length_append];omega) (by first | trivial | rfl) fun _=>?_
    repeat' (first|fail)
    refine OO [0,1,2,3,8,9,39,41,50] KN ?_
    refine W0i ?_
    refine gt a7 0 (pre.length+(P.length+j)) rfl rfl (by omega) rfl rfl rfl (by rw [List.length_set,nQ];simp only [List.length_append];omega) ?_
    refine W02 ?_
    have hsw:((pre++(di (P++(iz p rest x (j+1)++Q))++post)).set (pre.length+(P.length+(j+1))) (aG y)).set (pre.length+(P.length+j)) (aG x)=pre++(di (P++(iz p rest x j++Q))++post):=by
     rw [Aq (by omega),Aq (by rw [List.length_set];omega),Co hy]
    rw [hsw]
    refine aD j rfl ⟨?_,trivial⟩ ⟨by omega,?_⟩ (by omega) (fun _ _ h=>h)
    ·rw [show a+((j+1:Nat):Int) - 1=a+(j:Int) by omega];rfl
    ·rw [←hins,jF,if_pos (by rw [List.getD_eq_getElem?_getD,hy];exact hlt)]
   ·have hlt:¬key x < key y:=by
     have:=Ox h
     unfold oz at this
     intro hc
     rw [if_pos hc] at this
     omega
    clear h
    have hj1:jF key x p p.length=j+1:=by rw [←hins,jF,if_neg (by rw [List.getD_eq_getElem?_getD,hy];exact hlt)]
    refine W02 ?_
    refine aD (i+1) rfl ⟨by rw [show a+(i:Int)+1=a+((i+1:Nat):Int) by omega];rfl,trivial⟩ ⟨by omega,by omega⟩ (by omega) (fun _ _ h=>?_)
    rw [hsucc,hrest,←wN,hj1]
    exact h
 ·have hil:l.length≤i:=by have:=Ox h;omega
  rw [List.take_of_length_le hil,List.drop_of_length_le hil,List.append_nil]
  repeat' (first|refine O1 ?_|fail)
  exact cN rfl rfl
set_option maxHeartbeats 8000000 in
theorem yN (g:FuncId) (caps:List AV) (key:Nat→Int) (D:Nat→Prop) (hu:z6 (.fn g caps) key D) (b cap:Nat) (pre post:List AV) (l:List Nat) (hD:∀x∈l,D x) (hl:l.length≤39) (hs:l.Pairwise (· < ·)):
    AC Tryz.prog 147 [.sc (.slice (some ⟨b,pre.length,none⟩) l.length cap),aG l.length,.fn g caps] [(b,.box (pre++(di l++post)) 3)] fun _ L=>L=[(b,.box (pre++(di (dh key l)++post)) 3)]:=by
  refine aQ Tryz.func147 rfl Tryz.ntmps147 rfl fun B=>?_
  refine W03 ?_
  refine aJ [0,1,2,6] (α:=Bool) (fun k=>[(7,aG (if k then 20 else 0)),(8,aG (if k then 40 else 20))]) (fun k=>k=true→20≤l.length) (fun k=>ev b pre post (if k then dh key (l.take 20)++l.drop 20 else l)) (fun k=>if k then 0 else 1) false rfl ⟨rfl,rfl,trivial⟩ (fun h=>by cases h) (fun _ _ h=>h) fun k hk=>?_
  try dsimp only [Oq,Oo,Om,Oh]
  refine W01 ?_
  cases k with
  | false=>
    simp only [Bool.false_eq_true,if_false]
    repeat' (first|fail)
    refine aw rfl (fun h=>?_) (fun h=>?_)
    · have hn:20≤l.length:=by have:=Oy h;omega
      have ht:(l.take 20).length=20:=by rw [List.length_take];omega
      have hdr:(l.drop 20).length=l.length - 20:=List.length_drop
      clear h
      refine W03 ?_
      refine bh (ev b pre post ([]++(l.take 20++l.drop 20))) [] (mD g caps key D hu b cap pre post [] (l.take 20) (l.drop 20) l.length 0 20 rfl (by omega) (by simp only [List.length_nil];omega) (fun x hx=>hD x (List.mem_of_mem_take hx)) (by omega)) rfl rfl (List.Perm.of_eq (by rw [Oo,List.take_append_drop,List.append_nil])) rfl fun c L1 hL=>?_
      subst hL
      refine W02 ?_
      exact aD true rfl ⟨rfl,rfl,trivial⟩ (fun _=>hn) (by decide) (fun _ _ h=>h)
    · have hn:¬(20:Int)≤l.length:=Ox h
      refine W01 ?_
      refine bh (ev b pre post ([]++(l++[]))) [] (mD g caps key D hu b cap pre post [] l [] l.length 0 l.length rfl (by omega) (by simp only [List.length_nil];omega) hD (by omega)) rfl rfl (List.Perm.of_eq (by rw [Oo,List.append_nil,List.append_nil])) rfl fun c L1 hL=>?_
      rw [Oo,List.append_nil] at hL
      subst hL
      refine W1g ?_
      refine aJ [0,1,2] (α:=Unit) (fun _=>[(6,aG 20)]) (fun _=>True) (fun _=>ev b pre post (dh key l)) (fun _=>0) () rfl ⟨rfl,trivial⟩ trivial (fun _ _ h=>h) fun _ _=>?_
      try dsimp only [Oq,Oo,Om,Oh]
      refine W01 ?_
      refine aw rfl (fun h=>by have:=Oy h;omega) (fun _=>?_)
      repeat' (first|refine O1 ?_|fail)
      exact cN rfl rfl
  | true=>
    have hn:=hk rfl
    have ht:(dh key (l.take 20)).length=20:=by rw [(dy _ _).length_eq,List.length_take];omega
    have hdr:(l.drop 20).length=l.length - 20:=List.length_drop
    have hdr2:(dh key (l.drop 20)).length=l.length - 20:=by rw [(dy _ _).length_eq,hdr]
    simp only [if_true]
    repeat' (first|fail)
    refine aw rfl (fun h=>by have:=Oy h;omega) (fun _=>?_)
    refine W01 ?_
    refine bh (ev b pre post (dh key (l.take 20)++(l.drop 20++[]))) [] (mD g caps key D hu b cap pre post (dh key (l.take 20)) (l.drop 20) [] l.length 20 l.length (by omega) (by omega) (by simp only [List.length_nil];omega) (fun x hx=>hD x (List.mem_of_mem_drop hx)) (by omega)) rfl rfl (List.Perm.of_eq (by rw [List.append_nil,List.append_nil])) rfl fun c L1 hL=>?_
    rw [List.append_nil] at hL
    subst hL
    have hpa:=List.take_append_drop 20 l
    have hs2:=hs
    rw [←hpa] at hs2
    obtain ⟨q1,q2,q3⟩:=List.pairwise_append.1 hs2
    refine W1g ?_
    refine aJ [0,1,2] (α:=Bool) (fun w=>[(6,aG (if w then 40 else 20))]) (fun _=>True) (fun w=>ev b pre post (if w then dh key l else dh key (l.take 20)++dh key (l.drop 20))) (fun w=>if w then 0 else 1) false rfl ⟨rfl,trivial⟩ trivial (fun _ _ h=>h) fun w _=>?_
    try dsimp only [Oq,Oo,Om,Oh]
    refine W01 ?_
    have hall:∀z:List Nat,z.Perm (dh key (l.take 20)++dh key (l.drop 20))→mp key z→z=dh key l:=fun z h1 h2=>by
      refine HD (h1.trans ?_) h2 (o0 hs)
      refine ((dy key _).append (dy key _)).trans ?_
      rw [hpa]
      exact (dy key l).symm
    cases w with
    | false=>
      simp only [Bool.false_eq_true,if_false]
      repeat' (first|fail)
      refine aw rfl (fun h=>?_) (fun h=>?_)
      · have hn2:20 < l.length:=by have:=Oy h;omega
        clear h
        refine W0c ?_
        refine aJ [0,1,2,6] (α:=Unit) (fun _=>[(7,aG 0),(8,aG 40)]) (fun _=>True) (fun _=>ev b pre post (dh key (l.take 20)++dh key (l.drop 20))) (fun _=>0) () rfl ⟨rfl,rfl,trivial⟩ trivial (fun _ _ h=>h) fun _ _=>?_
        try dsimp only [Oq,Oo,Om,Oh]
        refine W01 ?_
        refine aw rfl (fun h=>by have:=Oy h;omega) (fun _=>?_)
        refine W02 ?_
        refine aw rfl (fun h=>?_) (fun h=>by have:=Ox h;omega)
        clear h
        refine W01 ?_
        refine bh (ev b pre post ([]++(dh key (l.take 20)++(dh key (l.drop 20)++[])))) [] (yQ g caps key D hu b cap pre post l.length (by omega) _ [] (dh key (l.take 20)) (dh key (l.drop 20)) [] 0 20 l.length (Nat.le_refl _) rfl (by omega) (by omega) (by omega) (by omega) (by simp only [List.length_nil];omega) (fun v hv=>hD v (List.mem_of_mem_take ((dy key _).mem_iff.1 hv))) (fun v hv=>hD v (List.mem_of_mem_drop ((dy key _).mem_iff.1 hv))) (o0 q1) (o0 q2) (fun u h1 v h2 _=>q3 u ((dy key _).mem_iff.1 h1) v ((dy key _).mem_iff.1 h2))) rfl rfl (List.Perm.of_eq (by rw [Oo,List.append_nil,List.append_nil])) rfl fun c L1 ⟨z,z1,z2,hL⟩=>?_
        rw [Oo,List.append_nil,hall z z1 z2] at hL
        subst hL
        refine W02 ?_
        exact aD true rfl ⟨rfl,trivial⟩ trivial (by decide) (fun _ _ h=>h)
      · have hn2:l.length=20:=by have:=Ox h;omega
        clear h
        have h20:dh key (l.drop 20)=[]:=List.eq_nil_of_length_eq_zero (by omega)
        rw [h20,List.append_nil,List.take_of_length_le (by omega)]
        repeat' (first|refine O1 ?_|fail)
        exact cN rfl rfl
    | true=>
      simp only [if_true]
      repeat' (first|fail)
      refine aw rfl (fun h=>by have:=Oy h;omega) (fun _=>?_)
      repeat' (first|refine O1 ?_|fail)
      exact cN rfl rfl
set_option maxRecDepth 8000
theorem y9 (v u:AV) (a c:Int) (h:c≤a+1) (ha:0≤a∧a≤1000000) (L:AL):AC Tryz.prog 228 [v,aG a,aG c,u] L fun _ L'=>L'=L:=by
 refine aQ Tryz.func228 rfl Tryz.ntmps228 rfl fun B=>?_
 refine W0c ?_
 refine aJ [0,1,2,3] (α:=Unit) (fun _=>[(8,aG (a+1))]) (fun _=>True) (fun _=>L) (fun _=>0) () rfl ⟨rfl,trivial⟩ trivial (fun _ _ h=>h) fun _ _=>?_
 try dsimp only [Oq,Oo,Om,Oh]
 refine W01 ?_
 refine aw rfl (fun h=>by have:=Oy h;omega) (fun _=>?_)
 repeat' (first|refine O1 ?_|fail)
 exact cN rfl rfl
theorem mj (g:FuncId) (caps:List AV) (key:Nat→Int) (D:Nat→Prop) (hu:z6 (.fn g caps) key D) (b cap:Nat) (pre post:List AV) (l:List Nat) (hD:∀x∈l,D x) (hl:l.length≤39) (hs:l.Pairwise (· < ·)):
    AC Tryz.prog 65 [.sc (.slice (some ⟨b,pre.length,none⟩) l.length cap),.fn g caps] [(b,.box (pre++(di l++post)) 3)] fun _ L=>L=[(b,.box (pre++(di (dh key l)++post)) 3)]:=by
  refine aQ Tryz.func65 rfl Tryz.ntmps65 rfl fun B=>?_
  refine W01 ?_
  refine bh [(b,.box (pre++(di l++post)) 3)] [] (yN g caps key D hu b cap pre post l hD hl hs) rfl rfl (Ok _) rfl fun c L1 hL=>?_
  subst hL
  repeat' (first|refine O1 ?_|fail)
  exact cN rfl rfl
set_option maxRecDepth 8000
theorem y6 (rs:List Int):bH Tryz.prog 39 [.imm 1 (aL rs)] (.fn 64 [.iptr [.imm 1 (aL rs)]]):=by
 refine aQ Tryz.func39 rfl Tryz.ntmps39 rfl fun B=>?_
 refine W07 ?_
 exact OL NZ
instance (rs:List Int):AD Tryz.prog 39 [.imm 1 (aL rs)] (.fn 64 [.iptr [.imm 1 (aL rs)]]):=⟨y6 rs⟩
theorem t7 {α:Type} {l:List α} {k:Nat} {x:α} {r:List α} (h:l.drop k=x::r):l[k]?=some x∧l.drop (k+1)=r:=by
 have h1:(l.drop k)[0]?=some x:=by rw [h];rfl
 rw [List.getElem?_drop,Nat.add_zero] at h1
 refine ⟨h1,?_⟩
 rw [←List.drop_drop,h]
 rfl
set_option maxHeartbeats 4000000 in
theorem El {α:Type} {σ0:cm} {l:Nat} (rs:List Int) (hr:rs.length≤1000000) (E:α→AL) (J:Nat→α→Prop) (hy:∀(k:Nat) x (g:Nat×Nat),J k x→(dJ rs)[k]?=some g→AY Tryz.prog σ0 l [.agg [aG g.1,aG g.2]] (E x) fun c L=>c=cU true∧∃x',J (k+1) x'∧L=E x') (x0:α) (h0:J 0 x0):
  Iv Tryz.prog σ0 64 [.sc (.func (.yield l) #[] #[]),.iptr [.imm 1 (aL rs)]] (E x0) fun _ L=>∃x,J (dJ rs).length x∧L=E x:=by
 refine xg Tryz.func64 rfl Tryz.ntmps64 rfl fun B hB=>?_
 have hil:=aP rs
 refine W03 ?_
 refine aJ [0,1,6,7] (α:=Nat×Nat×Nat×α) (fun y=>[(3,aG y.2.1),(8,aG y.1)]) (fun y=>y.1≤rs.length∧y.2.1≤y.1∧kQ rs (rs.length - y.1) y.2.1 y.1=(dJ rs).drop y.2.2.1∧y.2.2.1≤(dJ rs).length∧J y.2.2.1 y.2.2.2) (fun y=>E y.2.2.2) (fun y=>rs.length - y.1) (0,0,0,x0) rfl ⟨rfl,rfl,trivial⟩ ⟨Nat.zero_le _,Nat.le_refl _,rfl,Nat.zero_le _,h0⟩ (fun _ _ h=>h) ?_
 rintro ⟨i,a,k,x⟩ ⟨hi,ha,hg,hkk,hj⟩
 dsimp only at hi ha hg hkk hj ⊢
 try dsimp only [Oq,Oo,Om,Oh]
 refine W01 ?_
 refine aw rfl (fun h=>?_) (fun h=>?_)
 ·have hil2:i < rs.length:=by have:=Oy h;omega
  have h1:=bD (dk hil2)
  rw [show rs.length - i=(rs.length - (i+1))+1 by omega,kQ] at hg
  clear h
  refine W08 ?_
  refine cH [0,1,3,4,6,7,8] (i=a∨bQ (rs.getD i 0)=3) rfl (fun Q' K=>?_) (fun hC=>?_) (fun hC=>?_)
  ·repeat' (first|refine O1 ?_|refine OE a7 KN ?_|refine ON KN ?_|refine OP OA ?_|(apply bg;refine b9 ?_)|refine OR NZ (fun _=>?_) (fun _=>?_))
   all_goals exact K _ _ rfl rfl (by simp_all <;> omega)
  ·rw [if_pos hC] at hg
   refine W02 ?_
   exact aD (i+1,a,k,x) rfl ⟨rfl,by rw [Ov];rfl,trivial⟩ ⟨by dsimp only;omega,by dsimp only;omega,hg,hkk,hj⟩ (by dsimp only;omega) (fun _ _ h=>h)
  ·rw [if_neg hC] at hg
   obtain ⟨hk1,hk2⟩:=t7 hg.symm
   refine W01 ?_
   refine qy (E x) [] hB (hy k x (a,i) hj hk1) rfl rfl rfl (by rw [List.append_nil]) rfl rfl fun c L1 ⟨hc,x',hj',hL⟩=>?_
   subst hc;subst hL
   rw [List.append_nil]
   refine W0L ?_
   exact aD (i+1,i,k+1,x') rfl ⟨rfl,by rw [Ov];rfl,trivial⟩ ⟨by dsimp only;omega,by dsimp only;omega,hk2.symm,(Ol hk1).1,hj'⟩ (by dsimp only;omega) (fun _ _ h=>h)
 ·have hil2:i=rs.length:=by have:=Ox h;omega
  subst hil2
  rw [Nat.sub_self,kQ] at hg
  clear h
  refine W01 ?_
  refine aw rfl (fun h=>?_) (fun h=>?_)
  ·have hlt:a < rs.length:=by have:=Oy h;omega
   rw [if_pos hlt] at hg
   obtain ⟨hk1,hk2⟩:=t7 hg.symm
   have hkl:(dJ rs).length=k+1:=by
    have h2:=congrArg List.length hk2
    have h3:=(Ol hk1).1
    rw [List.length_drop,List.length_nil] at h2
    omega
   clear h
   refine W01 ?_
   rw [hil]
   refine qy (E x) [] hB (hy k x (a,rs.length) hj hk1) rfl rfl rfl (by rw [List.append_nil]) rfl rfl fun c L1 ⟨hc,x',hj',hL⟩=>?_
   subst hc;subst hL
   rw [List.append_nil]
   repeat' (first|refine O1 ?_|fail)
   exact cN rfl ⟨x',by rw [hkl];exact hj',rfl⟩
  ·have hlt:¬a < rs.length:=by have:=Ox h;omega
   rw [if_neg hlt] at hg
   have hkl:(dJ rs).length≤k:=by
    have:=congrArg List.length hg
    rw [List.length_drop] at this
    simp at this
    omega
   have hkl:(dJ rs).length=k:=by omega
   repeat' (first|refine O1 ?_|fail)
   exact cN rfl ⟨x,by rw [hkl];exact hj,rfl⟩
theorem yO (g:FuncId) (caps:List AV) (a:Option Addr) (cap:Nat) (L:AL):AC Tryz.prog 147 [.sc (.slice a 0 cap),aG 0,.fn g caps] L fun _ L'=>L'=L:=by
 refine aQ Tryz.func147 rfl Tryz.ntmps147 rfl fun B=>?_
 refine W03 ?_
 refine aJ [0,1,2,6] (α:=Unit) (fun _=>[(7,aG 0),(8,aG 20)]) (fun _=>True) (fun _=>L) (fun _=>0) () rfl ⟨rfl,rfl,trivial⟩ trivial (fun _ _ h=>h) fun _ _=>?_
 try dsimp only [Oq,Oo,Om,Oh]
 refine W0m ?_
 refine bh L [] (y9 _ _ 0 0 (by omega) (by omega) L) rfl rfl (by rw [List.append_nil]) rfl fun c L1 hL=>?_
 subst hL
 rw [List.append_nil]
 refine W1g ?_
 refine aJ [0,1,2] (α:=Unit) (fun _=>[(6,aG 20)]) (fun _=>True) (fun _=>L1) (fun _=>0) () rfl ⟨rfl,trivial⟩ trivial (fun _ _ h=>h) fun _ _=>?_
 try dsimp only [Oq,Oo,Om,Oh]
 refine W0m ?_
 exact cN rfl rfl
theorem lC (g:FuncId) (caps:List AV) (a:Option Addr) (cap:Nat) (L:AL):AC Tryz.prog 65 [.sc (.slice a 0 cap),.fn g caps] L fun _ L'=>L'=L:=by
 refine aQ Tryz.func65 rfl Tryz.ntmps65 rfl fun B=>?_
 refine W01 ?_
 refine bh L [] (yO _ _ _ _ L) rfl rfl (by rw [List.append_nil]) rfl fun c L1 hL=>?_
 subst hL
 repeat' (first|refine O1 ?_|fail)
 exact cN rfl (List.append_nil _)
def qI (o:List Nat) (cs:List AV):Prop:=cs.take o.length=di o∧o.length≤cs.length
theorem lw (a b:List Nat):di (a++b)=di a++di b:=by simp [di]
theorem qI.split {o:List Nat} {cs:List AV} (h:qI o cs):cs=di o++cs.drop o.length:=by
 rw [←h.1,List.take_append_drop]
theorem uP {o:List Nat} {cs:List AV}:qI o (di o++cs):=by
 refine ⟨?_,by rw [List.length_append,dM];omega⟩
 rw [←dM o,List.take_left']
 rfl
def G7 (rs:List Int) (g:Nat×Nat):Nat:=if g.1 < g.2∧bQ (rs.getD g.1 0)≠3 then g.2 - (g.1+1) else g.2 - g.1
def FH (b n:Nat) (o:List Nat) (c:AV) (L:AL):Prop:=∃cs,qI o cs∧cs.length=n∧c= .sc (.slice (some ⟨b,0,none⟩) o.length n)∧L=[(b,.box cs 3)]
set_option maxHeartbeats 8000000 in
theorem v6 (rs:List Int) (b0:Nat) (cs0:List AV) (o:List Nat) (g:Nat×Nat) (hg1:g.1≤g.2) (hg2:g.2≤rs.length) (hm:G7 rs g≤39) (ho:qI o cs0) (hol:o.length+(g.2 - g.1)≤cs0.length) (hrl:cs0.length≤1000000) (hrs:rs.length≤1000000):
  AC Tryz.prog 41 [.sc (.slice (some ⟨b0,0,none⟩) o.length cs0.length),.imm 1 (aL rs),.agg [aG g.1,aG g.2]] [(b0,.box cs0 3)] (FH b0 cs0.length (o++cq rs g)):=by
 obtain ⟨a,c⟩:=g
 dsimp only at hg1 hg2 hm hol ⊢
 generalize hcap:cs0.length=cap at *
 refine aQ Tryz.func41 rfl Tryz.ntmps41 rfl fun B=>?_
 refine W0C ?_
 refine aJ [4,5,7] (α:=Nat×List AV) (fun s=>[(0,.sc (.slice (some ⟨b0,0,none⟩) (o.length+s.1) cap)),(8,aG ((a+s.1:Nat):Int))]) (fun s=>s.1≤c - a∧qI (o++List.range' a s.1) s.2∧s.2.length=cap) (fun s=>[(b0,.box s.2 3)]) (fun s=>c - a - s.1) (0,cs0) rfl ⟨rfl,rfl,trivial⟩ ⟨Nat.zero_le _,by simpa using ho,hcap⟩ (fun _ _ h=>h) ?_
 clear ho hcap
 rintro ⟨k,cs⟩ ⟨hk,hP,hcap⟩
 dsimp only at hk hP hcap ⊢
 have hPl:=hP.2
 rw [List.length_append,List.length_range'] at hPl
 try dsimp only [Oq,Oo,Om,Oh]
 refine W01 ?_
 refine aw rfl (fun h=>?_) (fun h=>?_)
 ·have hkc:a+k < c:=by have:=Oy h;omega
  clear h
  refine W1b ?_
  refine tH a7 0 rfl rfl rfl rfl (gy rfl rfl) rfl (by omega) (by omega) (by unfold maxLen;omega) (by simp only [List.length_cons,List.length_nil];unfold maxLen;omega) (by simp only [List.length_cons,List.length_nil];omega) rfl fun b' cs' cap' e1 e2 e3 e4 e5=>?_
  obtain ⟨rfl,rfl,h1⟩:=e5 (by simp only [List.length_cons,List.length_nil];omega)
  clear e1 e2 e3 e4 e5
  have hn1:(o++List.range' a (k+1)).length=o.length+k+1:=by rw [List.length_append,List.length_range'];omega
  have hcs:cs'=di (o++List.range' a (k+1))++cs.drop (o.length+k+1):=by
   rw [h1]
   have h3:=hP.1
   rw [List.length_append,List.length_range'] at h3
   simp only [List.length_cons,List.length_nil,Nat.mul_one]
   rw [h3,List.range'_1_concat,←List.append_assoc,lw (o++_) [a+k]]
   rfl
  clear h1
  subst hcs
  refine W02 ?_
  refine aD (k+1,di (o++List.range' a (k+1))++cs.drop (o.length+k+1)) rfl ⟨rfl,by rw [show a+(k+1)=(a+k)+1 by omega,Ov];rfl,trivial⟩ ⟨by dsimp only;omega,uP,?_⟩ (by dsimp only;omega) (fun _ _ h=>h)
  dsimp only
  rw [List.length_append,dM,hn1,List.length_drop]
  omega
 ·have hkc:k=c - a:=by have:=Ox h;omega
  subst hkc
  clear h
  refine W01 ?_
  subst hcap
  refine wl a7 o.length rfl rfl rfl rfl (by omega) (by omega) rfl ?_
  rw [Nat.add_sub_cancel_left]
  refine W01 ?_
  by_cases hac:a < c
  ·have hg:=bD (dk (show a < rs.length by omega))
   rw [if_neg (by omega),show 0+o.length * 1=o.length by omega,decide_eq_true (show (0:Int) < ((c - a:Nat):Int) by omega)]
   have hcs:=hP.split
   rw [List.length_append,List.length_range'] at hcs
   generalize cs.drop (o.length+(c - a))=post at hcs
   subst hcs
   repeat' (first|refine O1 ?_|refine OE a7 KN ?_|refine ON KN ?_|(apply aV;first|refine aU a7 ?_|refine aN a7 ?_)|(apply bg;refine b9 ?_)|fail)
   refine aw rfl (fun h=>?_) (fun h=>?_)
   ·have hk3:bQ (rs.getD a 0)≠3:=Oy h
    have hmk:c - (a+1)≤39:=by unfold G7 at hm;rwa [if_pos ⟨hac,hk3⟩] at hm
    clear h
    refine W01 ?_
    refine wl a7 1 rfl rfl rfl rfl (by omega) (by omega) rfl ?_
    have hpl:cq rs (a,c)=a::dh (gF rs) (List.range' (a+1) (c - (a+1))):=by
     unfold cq
     rw [if_pos ⟨hac,hk3⟩]
    have hsp:=nS hac
    rw [hsp] at hP hPl ⊢
    have hlen:(di (o++a::List.range' (a+1) (c - (a+1)))++post).length=o.length+(c - a)+post.length:=by
     rw [List.length_append,dM,List.length_append,List.length_cons,List.length_range']
     omega
    have hcell:di (o++a::List.range' (a+1) (c - (a+1)))++post=di (o++[a])++(di (List.range' (a+1) (c - (a+1)))++post):=by
     rw [←List.append_assoc,←lw,List.append_assoc]
     rfl
    by_cases h1:c=a+1
    ·subst h1
     rw [show a+1 - a - 1=0 by omega]
     rw [show a+1 - (a+1)=0 by omega] at *
     refine W01 ?_
     refine bh [(b0,.box (di (o++a::List.range' (a+1) 0)++post) 3)] [] (lC 66 [.iptr [.imm 1 (aL rs)]] _ _ _) rfl rfl (Ok _) rfl fun c1 L1 hL=>?_
     subst hL
     refine W01 ?_
     refine OK KN ⟨_,?_,rfl,?_,rfl⟩
     ·rw [hpl];exact hP
     ·rw [hpl];simp [dh]
    ·have hl2:(List.range' (a+1) (c - (a+1))).length=c - (a+1):=List.length_range' ..
     have hpre:(di (o++[a])).length=o.length+1:=by rw [dM,List.length_append];rfl
     have hsort:=mj 66 [.iptr [.imm 1 (aL rs)]] (gF rs) (fun x=>x < rs.length) (fun x y hx hy=>ju.fn (zw rs x y hx hy).nil) b0 ((di (o++a::List.range' (a+1) (c - (a+1)))++post).length - o.length - 1) (di (o++[a])) post (List.range' (a+1) (c - (a+1))) (fun x hx=>by rw [List.mem_range'_1] at hx;omega) (by omega) (List.pairwise_lt_range' ..)
     rw [←hcell,hl2,hpre] at hsort
     rw [if_neg (by omega),show o.length+1 * 1=o.length+1 by omega,show c - a - 1=c - (a+1) by omega]
     refine W01 ?_
     refine bh [(b0,.box (di (o++a::List.range' (a+1) (c - (a+1)))++post) 3)] [] hsort rfl rfl (Ok _) rfl fun c1 L1 hL=>?_
     subst hL
     refine W01 ?_
     have hfin:di (o++[a])++(di (dh (gF rs) (List.range' (a+1) (c - (a+1))))++post)=di (o++cq rs (a,c))++post:=by
      rw [hpl,←List.append_assoc,←lw,List.append_assoc]
      rfl
     rw [hfin]
     refine OK KN ⟨_,uP,?_,?_,rfl⟩
     ·rw [hlen,List.length_append,dM,List.length_append,eE]
     ·rw [show (o++cq rs (a,c)).length=o.length+(c - a) by rw [List.length_append,eE]]
   ·have hk3:bQ (rs.getD a 0)=3:=Decidable.not_not.1 (Ox h)
    have hmk:c - a≤39:=by unfold G7 at hm;rwa [if_neg (fun hc=>hc.2 hk3)] at hm
    clear h
    have hpl:cq rs (a,c)=dh (gF rs) (List.range' a (c - a)):=by
     unfold cq
     rw [if_neg (fun hc=>hc.2 hk3)]
    have hcell:di (o++List.range' a (c - a))++post=di o++(di (List.range' a (c - a))++post):=by
     rw [lw,List.append_assoc]
    have hl2:(List.range' a (c - a)).length=c - a:=List.length_range' ..
    have hsort:=mj 66 [.iptr [.imm 1 (aL rs)]] (gF rs) (fun x=>x < rs.length) (fun x y hx hy=>ju.fn (zw rs x y hx hy).nil) b0 ((di (o++List.range' a (c - a))++post).length - o.length) (di o) post (List.range' a (c - a)) (fun x hx=>by rw [List.mem_range'_1] at hx;omega) (by omega) (List.pairwise_lt_range' ..)
    rw [←hcell,hl2,dM o] at hsort
    refine W01 ?_
    refine bh [(b0,.box (di (o++List.range' a (c - a))++post) 3)] [] hsort rfl rfl (Ok _) rfl fun c1 L1 hL=>?_
    subst hL
    refine W01 ?_
    have hfin:di o++(di (dh (gF rs) (List.range' a (c - a)))++post)=di (o++cq rs (a,c))++post:=by
     rw [hpl,lw,List.append_assoc]
    rw [hfin]
    refine OK KN ⟨_,uP,?_,?_,rfl⟩
    ·rw [List.length_append,dM,List.length_append,eE,List.length_append,dM,List.length_append,List.length_range']
    ·rw [show (o++cq rs (a,c)).length=o.length+(c - a) by rw [List.length_append,eE]]
  ·have hpl:cq rs (a,c)=[]:=List.length_eq_zero_iff.1 (by rw [eE];dsimp only;omega)
   rw [show c - a=0 by omega] at *
   refine W0Q ?_
   refine bh [(b0,.box cs 3)] [] (lC 66 [.iptr [.imm 1 (aL rs)]] _ _ _) rfl rfl (Ok _) rfl fun c1 L1 hL=>?_
   subst hL
   refine W01 ?_
   refine OK KN ⟨cs,?_,rfl,?_,rfl⟩
   ·rw [hpl];exact hP
   ·rw [hpl,List.append_nil];rfl
end Go.Proofs.YtamjlkdanllgjaaGreatDoor
