/-
  The program: the lookups that can be done.
-/
import Derived.Test.YtjjpkibjffmceaaGreatM19
namespace Go.Proofs.YtjjpkibjffmceaaGreat
open Go.RowKit
attribute [local irreducible] AT bW AX AO Av Kt bA eI DA dl
open Go.MapKept
def iZ (l:List ByteArray):Value→Option AV
 | .string s=>if gk l s then some (cx true) else none
 | _=>none
theorem wo:(fun _=>none)=iZ ([]:List ByteArray):=by
 funext v
 unfold iZ
 split <;> rfl
theorem wn {l:List ByteArray} {i:Nat} {s:ByteArray} (h:l[i]?=some s):iZ (l.take (i+1)) (.string s)=some (cx true):=by
 unfold iZ
 simp only
 rw [if_pos (qe.2 (by rw [List.take_add_one,h];simp))]
theorem uD {l:List ByteArray} {i:Nat} {s:ByteArray} (h:l[i]?=some s) (q:Value) (hq:q≠ .string s):iZ (l.take (i+1)) q=iZ (l.take i) q:=by
 unfold iZ
 split
 ·rename_i t
  have:gk (l.take (i+1)) t=gk (l.take i) t:=by
   rw [Bool.eq_iff_iff,qe,qe,List.take_add_one,h,List.mem_append]
   constructor
   ·rintro (h | h)
    ·exact h
    ·simp at h;subst h;exact absurd rfl hq
   ·exact Or.inl
  rw [this]
 ·rfl
theorem f7 (n:Nat) (l a b:List Int):di n (di n l a) b=di n l (a++b):=by unfold di;rw [List.foldl_append]
theorem lX {n:Nat} {l:List Int} {z y:Int}:y∈addOne n l z↔y∈l∨(y=z∧0≤z∧z < n):=by
 unfold addOne
 split
 ·rename_i h
  rw [List.mem_append,List.mem_singleton]
  constructor
  ·rintro (h1 | h1)
   ·exact Or.inl h1
   ·exact Or.inr ⟨h1,h.1,h.2.1⟩
  ·rintro (h1 | h1)
   ·exact Or.inl h1
   ·exact Or.inr h1.1
 ·rename_i h
  constructor
  ·exact Or.inl
  ·rintro (h1 | ⟨h1,h2,h3⟩)
   ·exact h1
   ·subst h1;exact Classical.byContradiction fun hn=>h ⟨h2,h3,hn⟩
theorem gy {n:Nat} {l ns:List Int} {y:Int}:y∈di n l ns↔y∈l∨(y∈ns∧0≤y∧y < n):=by
 unfold di
 induction ns generalizing l with
 | nil=>simp
 | cons z ns ih=>
  rw [List.foldl_cons,ih,lX,List.mem_cons]
  constructor
  ·rintro ((h | ⟨h1,h2,h3⟩) | ⟨h1,h2,h3⟩)
   ·exact Or.inl h
   ·subst h1;exact Or.inr ⟨Or.inl rfl,h2,h3⟩
   ·exact Or.inr ⟨Or.inr h1,h2,h3⟩
  ·rintro (h | ⟨h1 | h1,h2,h3⟩)
   ·exact Or.inl (Or.inl h)
   ·subst h1;exact Or.inl (Or.inr ⟨rfl,h2,h3⟩)
   ·exact Or.inr ⟨h1,h2,h3⟩
theorem gx.start2 {f:aL} {fs:List ByteArray}:gx f fs (di f.Lookups.length [] (pK fs f.Features)) 0 where
 reach z hz:=by
  rcases gy.1 hz with h | ⟨h1,h2,h3⟩
  ·cases h
  ·obtain ⟨t,ht,h4,h5⟩:=tQ.1 h1
   exact .base ht h4 h5 h2 h3
 nodup:=(ci.nil.add _).nodup
 base z hz h0 h1:=gy.2 (Or.inr ⟨hz,h0,h1⟩)
 done j hj:=absurd hj (Nat.not_lt_zero _)
theorem gx.addOne {f:aL} {fs:List ByteArray} {l:List Int} {i m:Nat} {n:Int} (h:gx f fs l i) (hn:lI f fs n) (hi:i≤l.length):gx f fs (addOne m l n) i:=by
 unfold Go.Proofs.YtjjpkibjffmceaaGreat.addOne
 split
 ·rename_i hc
  exact h.add hn hc.2.2 hi
 ·exact h
theorem vq {l:List Int} {m i:Nat} {n z:Int} (h:l[i]?=some z):(addOne m l n)[i]?=some z:=by
 unfold addOne
 split
 ·rw [List.getElem?_append_left (Io h).1];exact h
 ·exact h
theorem C0 {rec:Loop} (h1:rec.state= .ready) (h2:rec.pending=none):({ ({ rec with state:= .busy }:Loop) with state:= .ready,pending:=none }:Loop)=rec:=by cases rec;simp_all
set_option maxHeartbeats 4000000 in
theorem iG (f:aL) (fs:List ByteArray) (hs:ev f):bV Tryz.prog 13 [cr f,.imm 1 (gg fs)] (.imm 1 (aZ (cW f fs))):=by
 refine pC Tryz.func13 rfl Tryz.ntmps13 rfl fun B=>?_
 have hF:=hs.features
 have hLk:=hs.lookups
 refine cH 1 rfl rfl fun hlen=>?_
 rw [fk] at hlen
 repeat' (first|refine go ?_|refine HK a6 FS ?_|refine bh ?_|fail)
 refine eQ .string fun bm=>?_
 rw [wo]
 repeat' (first|refine go ?_|refine ak ?_|refine HK a6 FS ?_)
 refine aJ [2,5,17,18] (α:=Nat) (fun i=>[(19,aP i)]) (fun i=>i≤fs.length) (fun i=>[(bm,cj .string (iZ (fs.take i)))]) (fun i=>fs.length - i) 0 rfl ⟨rfl,trivial⟩ (Nat.zero_le _) (fun _ _ h=>h) fun i hi=>?_
 try dsimp only [Ir,Iq,Ip,Ij]
 repeat' (first|refine go ?_|refine HK a6 FS ?_)
 refine ay rfl (fun h=>?_) (fun h=>?_)
 ·have hil:i < fs.length:=by have:=Iy h;simp [fk] at this;omega
  obtain ⟨z,hz⟩:∃z,fs[i]?=some z:=⟨_,Iz hil⟩
  have hzg:=vb hz
  repeat' (first|refine go ?_|refine ak ?_|refine HK a6 FS ?_|(apply aU;first|refine aT a6 ?_|refine aM a6 ?_)|fail)
  refine dB 0 (iZ (fs.take (i+1))) Tryz.underlying132 Tryz.underlying9 rfl rfl trivial rfl rfl (wn hz) (uD hz) ?_
  repeat' (first|refine go ?_|refine HK a6 FS ?_|(apply aW;refine aV ?_)|fail)
  exact aB (i+1) rfl ⟨by rw [Iv];rfl,trivial⟩ (by omega) (by omega) (fun _ _ h=>h)
 have hil:i=fs.length:=by have:=Ix h;simp [fk] at this;omega
 subst hil
 rw [List.take_length]
 clear h
 repeat' (first|refine go ?_|refine HK a6 FS ?_)
 refine ba [] [(bm,cj .string (iZ fs))] (Ez (f.Lookups.map bj).length (by simpa using by omega)) rfl rfl (Im _) rfl fun c L1 ⟨p,b,hc,hL1⟩=>?_
 subst hc;subst hL1
 rw [It]
 refine aO (aK List.perm_append_comm) ?_
 repeat' (first|refine go ?_|refine ak ?_|refine HK a6 FS ?_|(apply aG;first|refine HN 8 a6 0 HJ ?_|refine HN 8 a6 1 HJ ?_|refine HN 8 a6 2 HJ ?_|refine HN 10 a6 0 HJ ?_|refine HN 10 a6 1 HJ ?_|refine HN 10 a6 2 HJ ?_|refine HN 13 a6 0 HJ ?_|refine HN 13 a6 1 HJ ?_|refine HN 13 a6 2 HJ ?_|refine HN 15 a6 0 HJ ?_|refine HN 15 a6 1 HJ ?_|refine HN 15 a6 2 HJ ?_|refine HM a6 0 HH ?_|refine HM a6 1 HH ?_|refine HM a6 2 HH ?_|refine HM a6 3 HH ?_|fail)|refine aX a6 fun _=>?_|fail)
 refine aJ [2,5,8,31,32] (α:=Nat×Option (Nat×Nat)) (fun x=>[(33,aP x.1)]) (fun x=>x.1≤f.Features.length) (fun x=>[(bm,cj .string (iZ fs))]++dV p b f.Lookups.length x.2 (di f.Lookups.length [] (pK fs (f.Features.take x.1)))) (fun x=>f.Features.length - x.1) (0,none) rfl ⟨rfl,trivial⟩ (Nat.zero_le _) (fun _ _ h=>h) ?_
 rintro ⟨i,k⟩ hi
 dsimp only at hi ⊢
 have hok:=(ci.nil (n:=f.Lookups.length)).add (pK fs (f.Features.take i))
 try dsimp only [Ir,Iq,Ip,Ij]
 repeat' (first|refine go ?_|refine HK a6 FS ?_)
 refine ay rfl (fun h=>?_) (fun h=>?_)
 ·have hil:i < f.Features.length:=by have:=Iy h;simp at this;omega
  obtain ⟨t,ht⟩:∃z,f.Features[i]?=some z:=⟨_,Iz hil⟩
  have htg:=bi (c:=bt) ht
  have had:=Al fs f.Features i ht
  repeat' (first|refine go ?_|refine ak ?_|refine HK a6 FS ?_|(apply aU;first|refine aT a6 ?_|refine aM a6 ?_)|(apply aG;first|refine HN 8 a6 0 HJ ?_|refine HN 8 a6 1 HJ ?_|refine HN 8 a6 2 HJ ?_|refine HN 10 a6 0 HJ ?_|refine HN 10 a6 1 HJ ?_|refine HN 10 a6 2 HJ ?_|refine HN 13 a6 0 HJ ?_|refine HN 13 a6 1 HJ ?_|refine HN 13 a6 2 HJ ?_|refine HN 15 a6 0 HJ ?_|refine HN 15 a6 1 HJ ?_|refine HN 15 a6 2 HJ ?_|refine HM a6 0 HH ?_|refine HM a6 1 HH ?_|refine HM a6 2 HH ?_|refine HM a6 3 HH ?_|fail)|refine aX a6 fun _=>?_|fail)
  refine qu 0 (.bool false) Tryz.underlying132 Tryz.underlying9 rfl rfl trivial rfl (by kernel_rfl) rfl ?_
  have hM:((iZ fs (.string t.Name)).getD (.sc (.bool false)))=cx (gk fs t.Name):=by
   unfold iZ
   simp only
   cases gk fs t.Name <;> rfl
  rw [hM]
  repeat' (first|refine go ?_|fail)
  refine ay rfl (fun h2=>?_) (fun h2=>?_)
  ·rw [if_pos h2] at had
   repeat' (first|refine go ?_|refine HK a6 FS ?_)
   refine ba (dV p b f.Lookups.length k (di f.Lookups.length [] (pK fs (f.Features.take i)))) [(bm,cj .string (iZ fs))] (zY p b f.Lookups.length k _ t.Lookups (by omega) hok) rfl rfl (List.perm_append_comm (l₁:=[(bm,cj .string (iZ fs))])) rfl fun c L1 ⟨k',hL1⟩=>?_
   subst hL1
   rw [f7,←had]
   refine aO (aK List.perm_append_comm) ?_
   repeat' (first|refine go ?_|refine HK a6 FS ?_|(apply aW;refine aV ?_)|fail)
   exact aB (i+1,k') rfl ⟨by rw [Iv];rfl,trivial⟩ (by dsimp only;omega) (by dsimp only;omega) (fun _ _ h=>h)
  ·rw [h2] at had
   simp only [Bool.false_eq_true,if_false,List.append_nil] at had
   repeat' (first|refine go ?_|refine HK a6 FS ?_|(apply aW;refine aV ?_)|fail)
   exact aB (i+1,k) rfl ⟨by rw [Iv];rfl,trivial⟩ (by dsimp only;omega) (by dsimp only;omega) (fun _ _ h=>by dsimp only;rw [had];exact h)
 have hil:i=f.Features.length:=by have:=Ix h;simp at this;omega
 subst hil
 rw [List.take_length]
 rw [List.take_length] at hok
 clear h
 repeat' (first|refine go ?_|refine ak ?_|refine HK a6 FS ?_|(apply bq;refine bg ?_)|fail)
 refine jT (fr':=[(47,.fn 91 [.iptr [g9 p]]),(2,.iptr (cb f)),(8,.iptr [g9 p])]) (L':=dV p b f.Lookups.length k (di f.Lookups.length [] (pK fs f.Features))) ⟨rfl,rfl,rfl,trivial⟩ (fun _ _ h=>h.sublist (List.sublist_cons_self ..)) ?_
 refine kI (ps:=[48]) rfl fun σ0 l db rec hrec=>?_
 have hy:∀(i:Nat) (x:List Int×Option (Nat×Nat)) (z:Int),(i≤x.1.length∧ci f.Lookups.length x.1∧gx f fs x.1 i)→x.1[i]?=some z→AY Tryz.prog σ0 l [aP z] (dV p b f.Lookups.length x.2 x.1++([(db,iF)]++[(l,gZ rec)])) fun c L=>c=cx true∧∃x':List Int×Option (Nat×Nat),(i+1≤x'.1.length∧ci f.Lookups.length x'.1∧gx f fs x'.1 (i+1))∧L=dV p b f.Lookups.length x'.2 x'.1++([(db,iF)]++[(l,gZ rec)]):=by
  rintro i ⟨l1,k1⟩ z ⟨hi1,hok1,hw1⟩ hz
  dsimp only at hi1 hok1 hw1 hz ⊢
  rw [←List.append_assoc]
  refine tU hrec rfl rfl fun B1 hB1=>?_
  repeat' (first|refine go ?_|refine HK a6 FS ?_)
  refine kK hrec.state ?_
  have hil:=(Io hz).1
  have hzr:=(hw1.reach z (Iw hz)).in
  obtain ⟨x,hx⟩:∃x,f.Lookups[z.toNat]?=some x:=⟨_,Iz (by omega)⟩
  have hxg:=bi (c:=bj) hx
  repeat' (first|refine go ?_|refine ak ?_|refine HK a6 FS ?_|(apply aU;first|refine aT a6 ?_|refine aM a6 ?_)|fail)
  have hrr:=C0 hrec.state hrec.pending
  refine ay rfl (fun h=>?_) (fun h=>?_)
  ·have hK:=Iy h
   repeat' (first|refine go ?_|fail)
   refine pM ?_
   rw [hrr]
   exact ⟨rfl,(l1,k1),⟨hil,hok1,hw1.next hz hx fun e=>absurd e hK⟩,List.append_assoc ..⟩
  have hK:x.Kind=4:=Decidable.not_not.1 (Ix h)
  clear h
  have hRl:=hs.rulesL (Iw hx)
  repeat' (first|refine go ?_|refine ak ?_|refine HK a6 FS ?_|(apply aU;first|refine aT a6 ?_|refine aM a6 ?_)|fail)
  refine aJ [2,8,48,61,62] (α:=List Int×Nat×Option (Nat×Nat)) (fun y=>[(63,aP y.2.1)]) (fun y=>y.2.1≤x.Rules.length∧i < y.1.length∧y.1[i]?=some z∧ci f.Lookups.length y.1∧gx f fs y.1 i∧jP f y.1 (x.Rules.take y.2.1)) (fun y=>dV p b f.Lookups.length y.2.2 y.1++[(db,iF)]++[(l,gZ { rec with state:= .busy })]) (fun y=>x.Rules.length - y.2.1) (l1,0,k1) rfl ⟨rfl,trivial⟩ ⟨Nat.zero_le _,hil,hz,hok1,hw1,fun r hr=>by cases hr⟩ (fun _ _ h=>h) ?_
  clear hil hz hok1 hw1 hi1
  rintro ⟨l1,j,k1⟩ ⟨hj,hil,hz,hok1,hw1,hR⟩
  dsimp only at hj hil hz hok1 hw1 hR ⊢
  try dsimp only [Ir,Iq,Ip,Ij]
  repeat' (first|refine go ?_|refine HK a6 FS ?_)
  refine ay rfl (fun h=>?_) (fun h=>?_)
  ·have hjl:j < x.Rules.length:=by have:=Iy h;simp at this;omega
   obtain ⟨r,hr⟩:∃r,x.Rules[j]?=some r:=⟨_,Iz hjl⟩
   have hrg:=bi (c:=bI) hr
   have hCl:=hs.calls (Iw hx) (Iw hr)
   clear h
   repeat' (first|refine go ?_|refine ak ?_|refine HK a6 FS ?_|(apply aU;first|refine aT a6 ?_|refine aM a6 ?_)|(apply aG;first|refine HN 8 a6 0 HJ ?_|refine HN 8 a6 1 HJ ?_|refine HN 8 a6 2 HJ ?_|refine HN 10 a6 0 HJ ?_|refine HN 10 a6 1 HJ ?_|refine HN 10 a6 2 HJ ?_|refine HN 13 a6 0 HJ ?_|refine HN 13 a6 1 HJ ?_|refine HN 13 a6 2 HJ ?_|refine HN 15 a6 0 HJ ?_|refine HN 15 a6 1 HJ ?_|refine HN 15 a6 2 HJ ?_|refine HM a6 0 HH ?_|refine HM a6 1 HH ?_|refine HM a6 2 HH ?_|refine HM a6 3 HH ?_|fail)|refine aX a6 fun _=>?_|fail)
   refine aJ [2,8,48,61,62,63,68,69] (α:=List Int×Nat×Option (Nat×Nat)) (fun y=>[(70,aP y.2.1)]) (fun y=>y.2.1≤r.Calls.length∧i < y.1.length∧y.1[i]?=some z∧ci f.Lookups.length y.1∧gx f fs y.1 i∧jP f y.1 (x.Rules.take j)∧CallsIn f y.1 (r.Calls.take y.2.1)) (fun y=>dV p b f.Lookups.length y.2.2 y.1++[(db,iF)]++[(l,gZ { rec with state:= .busy })]) (fun y=>r.Calls.length - y.2.1) (l1,0,k1) rfl ⟨rfl,trivial⟩ ⟨Nat.zero_le _,hil,hz,hok1,hw1,hR,fun c hc=>by cases hc⟩ (fun _ _ h=>h) ?_
   clear hil hz hok1 hw1 hR
   rintro ⟨l1,c,k1⟩ ⟨hc,hil,hz,hok1,hw1,hR,hCs⟩
   dsimp only at hc hil hz hok1 hw1 hR hCs ⊢
   try dsimp only [Ir,Iq,Ip,Ij]
   repeat' (first|refine go ?_|refine HK a6 FS ?_)
   refine ay rfl (fun h=>?_) (fun h=>?_)
   ·have hcl:c < r.Calls.length:=by have:=Iy h;simp at this;omega
    obtain ⟨q,hq⟩:∃q,r.Calls[c]?=some q:=⟨_,Iz hcl⟩
    have hqg:=bi (c:=dI) hq
    clear h
    repeat' (first|refine go ?_|refine ak ?_|refine HK a6 FS ?_|(apply aU;first|refine aT a6 ?_|refine aM a6 ?_)|(apply aG;first|refine HN 8 a6 0 HJ ?_|refine HN 8 a6 1 HJ ?_|refine HN 8 a6 2 HJ ?_|refine HN 10 a6 0 HJ ?_|refine HN 10 a6 1 HJ ?_|refine HN 10 a6 2 HJ ?_|refine HN 13 a6 0 HJ ?_|refine HN 13 a6 1 HJ ?_|refine HN 13 a6 2 HJ ?_|refine HN 15 a6 0 HJ ?_|refine HN 15 a6 1 HJ ?_|refine HN 15 a6 2 HJ ?_|refine HM a6 0 HH ?_|refine HM a6 1 HH ?_|refine HM a6 2 HH ?_|refine HM a6 3 HH ?_|fail)|refine aX a6 fun _=>?_|(apply bq;refine bg ?_)|fail)
    refine ay rfl (fun h=>?_) (fun h=>?_)
    ·repeat' (first|refine go ?_|refine HK a6 FS ?_|refine bG a6 ?_|fail)
     refine ba (dV p b f.Lookups.length k1 l1) ([(db,iF)]++[(l,gZ { rec with state:= .busy })]) (zY p b f.Lookups.length k1 l1 [q.Lookup] (by omega) hok1) rfl rfl (by rw [←List.append_assoc];exact Im _) rfl fun c' L1 ⟨k',hL1⟩=>?_
     subst hL1
     rw [←List.append_assoc]
     repeat' (first|refine go ?_|refine HK a6 FS ?_|(apply aW;refine aV ?_)|fail)
     have hsub:∀z∈l1,z∈addOne f.Lookups.length l1 q.Lookup:=fun z hz=>lX.2 (Or.inl hz)
     have hge:=vq (m:=f.Lookups.length) (n:=q.Lookup) hz
     refine aB (addOne f.Lookups.length l1 q.Lookup,c+1,k') rfl ⟨by rw [Iv];rfl,trivial⟩ ⟨by dsimp only;omega,(Io hge).1,hge,hok1.one _,hw1.addOne (.call (hw1.reach z (Iw hz)) hx hK (Iw hr) (Iw hq) h) (by omega),hR.mono hsub,?_⟩ (by dsimp only;omega) (fun _ _ h=>h)
     intro y hy hyn
     dsimp only at hy ⊢
     rw [List.take_add_one,hq] at hy
     rcases Il hy with hy | hy
     ·exact hsub _ (hCs y hy hyn)
     ·simp at hy
      subst hy
      have:=tY hyn
      exact lX.2 (Or.inr ⟨rfl,this.1,this.2⟩)
    ·repeat' (first|refine go ?_|refine HK a6 FS ?_|(apply aW;refine aV ?_)|fail)
     refine aB (l1,c+1,k1) rfl ⟨by rw [Iv];rfl,trivial⟩ ⟨by dsimp only;omega,hil,hz,hok1,hw1,hR,?_⟩ (by dsimp only;omega) (fun _ _ h=>h)
     intro y hy hyn
     dsimp only at hy ⊢
     rw [List.take_add_one,hq] at hy
     rcases Il hy with hy | hy
     ·exact hCs y hy hyn
     ·simp at hy;subst hy;rw [h] at hyn;cases hyn
   ·have hcl:c=r.Calls.length:=by have:=Ix h;simp at this;omega
    subst hcl
    rw [List.take_length] at hCs
    repeat' (first|refine go ?_|refine HK a6 FS ?_|(apply aW;refine aV ?_)|fail)
    refine aB (l1,j+1,k1) rfl ⟨by rw [Iv];rfl,trivial⟩ ⟨by dsimp only;omega,hil,hz,hok1,hw1,fun y hy=>?_⟩ (by dsimp only;omega) (fun _ _ h=>h)
    dsimp only at hy ⊢
    rw [List.take_add_one,hr] at hy
    rcases Il hy with hy | hy
    ·exact hR y hy
    ·simp at hy;subst hy;exact hCs
  ·have hjl:j=x.Rules.length:=by have:=Ix h;simp at this;omega
   subst hjl
   rw [List.take_length] at hR
   repeat' (first|refine go ?_|fail)
   refine pM ?_
   rw [hrr]
   exact ⟨rfl,(l1,k1),⟨hil,hok1,hw1.next hz hx fun _=>hR⟩,List.append_assoc ..⟩
 have hp:=BV (n:=f.Lookups.length) (α:=List Int×Option (Nat×Nat)) (·.1) (·.2) (fun _=>[(db,iF)]++[(l,gZ rec)]) (fun i x=>i≤x.1.length∧ci f.Lookups.length x.1∧gx f fs x.1 i) (by omega) (fun i x hj=>⟨hj.1,hj.2.1.len⟩) hy (_,k) ⟨Nat.zero_le _,hok,gx.start2⟩
 dsimp only at hp
 rw [←List.append_assoc] at hp
 refine ⟨_,hp,?_⟩
 ·rintro c L' ⟨⟨l1,k1⟩,⟨_,hok1,hw1⟩,hL'⟩
  dsimp only at hok1 hw1 hL'
  refine ⟨rec,dV p b f.Lookups.length k1 l1++[(db,iF)],by rw [hL',List.append_assoc],(by rw [hrec.state];intro e;cases e),?_⟩
  rw [hrec.pending]
  show AX _ _ _ _ _ _ _ _
  repeat' (first|refine go ?_|refine HK a6 FS ?_)
  refine ba (dV p b f.Lookups.length k1 l1) [(db,iF)] (C3 p b f.Lookups.length k1 l1 (by have:=hok1.len;omega)) rfl rfl (Im _) rfl fun c L1 ⟨hc,hL1⟩=>?_
  subst hc;subst hL1
  rw [mx hok1,hw1.end]
  repeat' (first|refine go ?_|refine HK a6 FS ?_)
  exact jU [db] (dV p b f.Lookups.length k1 l1) rfl (Im _) (cs:=[.imm 1 (aZ (cW f fs))]) (show cw _ 4=some _∧True from ⟨rfl,trivial⟩) rfl
end Go.Proofs.YtjjpkibjffmceaaGreat
namespace Go.Proofs.YtjjpkibjffmceaaGreat
open Go.RowKit
attribute [local irreducible] AT bW AX AO Av Kt bA eI DA dl
def Eu (n:Nat) (l:List Int) (z:Int):Bool:=decide (0≤z∧z < n) && l.contains z
theorem Gq (p b n:Nat) (k:Option (Nat×Nat)) (l:List Int) (z:Int):AC Tryz.prog 87 [g9 p,aP z] (bJ p b n k l) fun c L=>c=cx (Eu n l z)∧L=bJ p b n k l:=by
 refine aS Tryz.func87 rfl Tryz.ntmps87 rfl fun B=>?_
 unfold Eu
 by_cases h0:0≤z
 ·by_cases h1:z < n
  ·have hfg:=nZ l n h0 h1
   rw [decide_eq_true (And.intro h0 h1)]
   unfold bJ
   repeat' (first|refine go ?_|refine HK a6 FS ?_)
   rw [decide_eq_true h0]
   repeat' (first|refine HK a6 FS ?_|refine HV FS ?_|(apply bK;first|refine HO a6 0 HG ?_|refine HO a6 1 HG ?_|refine HO a6 2 HG ?_|refine HO a6 3 HG ?_|refine HP a6 0 HG ?_|refine HP a6 1 HG ?_|refine HP a6 2 HG ?_|refine HR a6 1 HE (by assumption) rfl ?_|refine HR a6 0 HE (by assumption) rfl ?_|fail)|fail)
   rw [decide_eq_true h1]
   repeat' (first|refine go ?_|refine HK a6 FS ?_|refine HV FS ?_|(apply bK;first|refine HO a6 0 HG ?_|refine HO a6 1 HG ?_|refine HO a6 2 HG ?_|refine HO a6 3 HG ?_|refine HP a6 0 HG ?_|refine HP a6 1 HG ?_|refine HP a6 2 HG ?_|refine HR a6 1 HE (by assumption) rfl ?_|refine HR a6 0 HE (by assumption) rfl ?_|fail)|(apply aU;first|refine aT a6 ?_|refine aM a6 ?_)|fail)
   exact HS FS ⟨rfl,rfl⟩
  ·rw [decide_eq_false (fun h=>h1 h.2)]
   unfold bJ
   repeat' (first|refine go ?_|refine HK a6 FS ?_)
   rw [decide_eq_true h0]
   repeat' (first|refine HK a6 FS ?_|refine HV FS ?_|(apply bK;first|refine HO a6 0 HG ?_|refine HO a6 1 HG ?_|refine HO a6 2 HG ?_|refine HO a6 3 HG ?_|refine HP a6 0 HG ?_|refine HP a6 1 HG ?_|refine HP a6 2 HG ?_|refine HR a6 1 HE (by assumption) rfl ?_|refine HR a6 0 HE (by assumption) rfl ?_|fail)|fail)
   rw [decide_eq_false h1]
   repeat' (first|refine go ?_|refine HK a6 FS ?_|refine HW HF ?_)
   exact HS FS ⟨rfl,rfl⟩
 ·rw [decide_eq_false (fun h=>h0 h.1)]
  unfold bJ
  repeat' (first|refine go ?_|refine HK a6 FS ?_)
  rw [decide_eq_false h0]
  repeat' (first|refine go ?_|refine HK a6 FS ?_|refine HW HF ?_)
  exact HS FS ⟨rfl,rfl⟩
theorem Fm {g:FuncId} {caps:List AV} {u:AV} [bN Tryz.prog g] (hu:jN u=some (g,caps)) (l:List Int) (p:Int→Bool) (L0:AL) (hw:∀z,AC Tryz.prog g ([aP z]++caps) L0 fun c L'=>c=cx (p z)∧L'=L0):AC Tryz.prog 201 [.imm 1 (aZ l),u] L0 fun c L=>(∃z:Int,c=aP z∧(0≤z↔l.any p=true))∧L=L0:=by
 refine aS Tryz.func201 rfl Tryz.ntmps201 rfl fun B=>?_
 have hll:=aQ l
 refine cH 0 rfl rfl fun hlen=>?_
 rw [aQ] at hlen
 repeat' (first|refine go ?_|refine ak ?_|refine HK a6 FS ?_)
 refine aJ [0,1,7] (α:=Nat) (fun i=>[(8,aP i)]) (fun i=>i≤l.length∧(l.take i).any p=false) (fun _=>L0) (fun i=>l.length - i) 0 rfl ⟨rfl,trivial⟩ ⟨Nat.zero_le _,by simp⟩ (fun _ _ h=>h) fun i ⟨hi,ha⟩=>?_
 try dsimp only [Ir,Iq,Ip,Ij]
 repeat' (first|refine go ?_|refine HK a6 FS ?_)
 refine ay rfl (fun h=>?_) (fun h=>?_)
 ·have hil:i < l.length:=by have:=Iy h;rw [aQ] at this;omega
  obtain ⟨z,hz⟩:∃z,l[i]?=some z:=⟨_,Iz hil⟩
  have hzg:=bT hz
  repeat' (first|refine go ?_|refine ak ?_|refine HK a6 FS ?_|(apply aU;first|refine aT a6 ?_|refine aM a6 ?_)|fail)
  refine dw L0 [] (hw z) rfl hu rfl (bR rfl) rfl rfl fun c L1 ⟨hc,hL⟩=>?_
  subst hc;subst hL
  rw [List.append_nil]
  repeat' (first|refine go ?_|fail)
  refine ay rfl (fun h2=>?_) (fun h2=>?_)
  ·repeat' (first|refine go ?_|refine HK a6 FS ?_)
   refine HS FS ⟨⟨i,rfl,?_⟩,rfl⟩
   exact ⟨fun _=>List.any_eq_true.2 ⟨z,Iw hz,h2⟩,fun _=>by omega⟩
  ·repeat' (first|refine go ?_|refine HK a6 FS ?_|(apply aW;refine aV ?_)|fail)
   refine aB (i+1) rfl ⟨by rw [Iv];rfl,trivial⟩ ⟨by omega,?_⟩ (by omega) (fun _ _ h=>h)
   rw [List.take_add_one,hz,List.any_append,ha]
   simpa using h2
 ·have hil:i=l.length:=by have:=Ix h;rw [aQ] at this;omega
  subst hil
  rw [List.take_length] at ha
  repeat' (first|refine go ?_|refine HK a6 FS ?_)
  refine HS FS ⟨⟨-1,rfl,?_⟩,rfl⟩
  rw [ha]
  exact ⟨fun h=>absurd h (by decide),fun h=>by cases h⟩
theorem y4 {g:FuncId} {caps:List AV} {u:AV} [bN Tryz.prog g] (hu:jN u=some (g,caps)) (l:List Int) (p:Int→Bool) (L0:AL) (hw:∀z,AC Tryz.prog g ([aP z]++caps) L0 fun c L'=>c=cx (p z)∧L'=L0):AC Tryz.prog 148 [.imm 1 (aZ l),u] L0 fun c L=>c=cx (l.any p)∧L=L0:=by
 refine aS Tryz.func148 rfl Tryz.ntmps148 rfl fun B=>?_
 repeat' (first|refine go ?_|refine HK a6 FS ?_)
 refine ba L0 [] (Fm hu l p L0 hw) rfl (fS hu) (bR rfl) rfl fun c L1 ⟨⟨z,hc,hz⟩,hL⟩=>?_
 subst hc;subst hL
 rw [List.append_nil]
 repeat' (first|refine go ?_|refine HK a6 FS ?_)
 refine HS FS ⟨?_,rfl⟩
 refine congrArg (fun b=>cx b) ?_
 rw [Bool.eq_iff_iff,decide_eq_true_eq]
 exact hz
end Go.Proofs.YtjjpkibjffmceaaGreat
