/-
  The program: the lookups that can be done.
-/
import Derived.Test.YtjjpkibjffmceaaGreatM18
namespace Go.Proofs.YtjjpkibjffmceaaGreat
open Go.RowKit
attribute [local irreducible] AT cg AX AO Av Kt bJ eC DA du
open Go.MapKept
def j6 (l:List ByteArray):Value→Option AV
 | .string s=>if fR l s then some (cM true) else none
 | _=>none
theorem wk:(fun _=>none)=j6 ([]:List ByteArray):=by
 funext v
 unfold j6
 split <;> rfl
theorem wj {l:List ByteArray} {i:Nat} {s:ByteArray} (h:l[i]?=some s):j6 (l.take (i+1)) (.string s)=some (cM true):=by
 unfold j6
 simp only
 rw [if_pos (pZ.2 (by rw [List.take_add_one,h];simp))]
theorem uE {l:List ByteArray} {i:Nat} {s:ByteArray} (h:l[i]?=some s) (q:Value) (hq:q≠ .string s):j6 (l.take (i+1)) q=j6 (l.take i) q:=by
 unfold j6
 split
 ·rename_i t
  have:fR (l.take (i+1)) t=fR (l.take i) t:=by
   rw [Bool.eq_iff_iff,pZ,pZ,List.take_add_one,h,List.mem_append]
   constructor
   ·rintro (h | h)
    ·exact h
    ·simp at h;subst h;exact absurd rfl hq
   ·exact Or.inl
  rw [this]
 ·rfl
theorem fp (n:Nat) (l a b:List Int):dJ n (dJ n l a) b=dJ n l (a++b):=by unfold dJ;rw [List.foldl_append]
theorem lY {n:Nat} {l:List Int} {z y:Int}:y∈addOne n l z↔y∈l∨(y=z∧0≤z∧z < n):=by
 unfold addOne
 split
 ·rename_i h
  rw [List.mem_append,List.mem_singleton]
  constructor
  ·rintro (h1 | h1)
   ·exact Or.inl h1
   ·exact Or.inr ⟨h1,h.1,h.2.1⟩
  ·rintro (h1 | h1)
   ·exact Or.inl h1
   ·exact Or.inr h1.1
 ·rename_i h
  constructor
  ·exact Or.inl
  ·rintro (h1 | ⟨h1,h2,h3⟩)
   ·exact h1
   ·subst h1;exact Classical.byContradiction fun hn=>h ⟨h2,h3,hn⟩
theorem gD {n:Nat} {l ns:List Int} {y:Int}:y∈dJ n l ns↔y∈l∨(y∈ns∧0≤y∧y < n):=by
 unfold dJ
 induction ns generalizing l with
 | nil=>simp
 | cons z ns ih=>
  rw [List.foldl_cons,ih,lY,List.mem_cons]
  constructor
  ·rintro ((h | ⟨h1,h2,h3⟩) | ⟨h1,h2,h3⟩)
   ·exact Or.inl h
   ·subst h1;exact Or.inr ⟨Or.inl rfl,h2,h3⟩
   ·exact Or.inr ⟨Or.inr h1,h2,h3⟩
  ·rintro (h | ⟨h1 | h1,h2,h3⟩)
   ·exact Or.inl (Or.inl h)
   ·subst h1;exact Or.inl (Or.inr ⟨rfl,h2,h3⟩)
   ·exact Or.inr ⟨h1,h2,h3⟩
theorem gC.start2 {f:aL} {fs:List ByteArray}:gC f fs (dJ f.Lookups.length [] (pC fs f.Features)) 0 where
 reach z hz:=by
  rcases gD.1 hz with h | ⟨h1,h2,h3⟩
  ·cases h
  ·obtain ⟨t,ht,h4,h5⟩:=tK.1 h1
   exact .base ht h4 h5 h2 h3
 nodup:=(cJ.nil.add _).nodup
 base z hz h0 h1:=gD.2 (Or.inr ⟨hz,h0,h1⟩)
 done j hj:=absurd hj (Nat.not_lt_zero _)
theorem gC.addOne {f:aL} {fs:List ByteArray} {l:List Int} {i m:Nat} {n:Int} (h:gC f fs l i) (hn:lN f fs n) (hi:i≤l.length):gC f fs (addOne m l n) i:=by
 unfold Go.Proofs.YtjjpkibjffmceaaGreat.addOne
 split
 ·rename_i hc
  exact h.add hn hc.2.2 hi
 ·exact h
theorem vl {l:List Int} {m i:Nat} {n z:Int} (h:l[i]?=some z):(addOne m l n)[i]?=some z:=by
 unfold addOne
 split
 ·rw [List.getElem?_append_left (Jo h).1];exact h
 ·exact h
theorem Cj {rec:Loop} (h1:rec.state= .ready) (h2:rec.pending=none):({ ({ rec with state:= .busy }:Loop) with state:= .ready,pending:=none }:Loop)=rec:=by cases rec;simp_all
set_option maxHeartbeats 4000000 in
theorem ku (f:aL) (fs:List ByteArray) (hs:dP f):bZ Tryz.prog 13 [cr f,.imm 1 (gP fs)] (.imm 1 (aS (dG f fs))):=by
 refine lX Tryz.func13 rfl Tryz.ntmps13 rfl fun B=>?_
 have hF:=hs.features
 have hLk:=hs.lookups
 refine cN 1 rfl rfl fun hlen=>?_
 rw [gh] at hlen
 repeat' (first|refine go ?_|refine IG a6 EV ?_|refine bD ?_|fail)
 refine eG .string fun bm=>?_
 rw [wk]
 repeat' (first|refine go ?_|refine am ?_|refine IG a6 EV ?_)
 refine aO [2,5,17,18] (α:=Nat) (fun i=>[(19,aP i)]) (fun i=>i≤fs.length) (fun i=>[(bm,cn .string (j6 (fs.take i)))]) (fun i=>fs.length - i) 0 rfl ⟨rfl,trivial⟩ (Nat.zero_le _) (fun _ _ h=>h) fun i hi=>?_
 try dsimp only [Jr,Jq,Jp,Jk]
 repeat' (first|refine go ?_|refine IG a6 EV ?_)
 refine au rfl (fun h=>?_) (fun h=>?_)
 ·have hil:i < fs.length:=by have:=Jy h;simp [gh] at this;omega
  obtain ⟨z,hz⟩:∃z,fs[i]?=some z:=⟨_,Jz hil⟩
  have hzg:=jT hz
  repeat' (first|refine go ?_|refine am ?_|refine IG a6 EV ?_|(apply aV;first|refine aU a6 ?_|refine aN a6 ?_)|fail)
  refine dl 0 (j6 (fs.take (i+1))) Tryz.underlying132 Tryz.underlying9 rfl rfl trivial rfl rfl (wj hz) (uE hz) ?_
  repeat' (first|refine go ?_|refine IG a6 EV ?_|(apply aW;refine aT ?_)|fail)
  exact aB (i+1) rfl ⟨by rw [Jv];rfl,trivial⟩ (by omega) (by omega) (fun _ _ h=>h)
 have hil:i=fs.length:=by have:=Jx h;simp [gh] at this;omega
 subst hil
 rw [List.take_length]
 clear h
 repeat' (first|refine go ?_|refine IG a6 EV ?_)
 refine bn [] [(bm,cn .string (j6 fs))] (Fa (f.Lookups.map bi).length (by simpa using by omega)) rfl rfl (Jn _) rfl fun c L1 ⟨p,b,hc,hL1⟩=>?_
 subst hc;subst hL1
 rw [Jt]
 refine aK (aM List.perm_append_comm) ?_
 repeat' (first|refine go ?_|refine am ?_|refine IG a6 EV ?_|(apply aJ;first|refine II 8 a6 0 IF ?_|refine II 8 a6 1 IF ?_|refine II 8 a6 2 IF ?_|refine II 10 a6 0 IF ?_|refine II 10 a6 1 IF ?_|refine II 10 a6 2 IF ?_|refine II 13 a6 0 IF ?_|refine II 13 a6 1 IF ?_|refine II 13 a6 2 IF ?_|refine II 15 a6 0 IF ?_|refine II 15 a6 1 IF ?_|refine II 15 a6 2 IF ?_|refine IH a6 0 IE ?_|refine IH a6 1 IE ?_|refine IH a6 2 IE ?_|refine IH a6 3 IE ?_|fail)|refine bc a6 fun _=>?_|fail)
 refine aO [2,5,8,31,32] (α:=Nat×Option (Nat×Nat)) (fun x=>[(33,aP x.1)]) (fun x=>x.1≤f.Features.length) (fun x=>[(bm,cn .string (j6 fs))]++ei p b f.Lookups.length x.2 (dJ f.Lookups.length [] (pC fs (f.Features.take x.1)))) (fun x=>f.Features.length - x.1) (0,none) rfl ⟨rfl,trivial⟩ (Nat.zero_le _) (fun _ _ h=>h) ?_
 rintro ⟨i,k⟩ hi
 dsimp only at hi ⊢
 have hok:=(cJ.nil (n:=f.Lookups.length)).add (pC fs (f.Features.take i))
 try dsimp only [Jr,Jq,Jp,Jk]
 repeat' (first|refine go ?_|refine IG a6 EV ?_)
 refine au rfl (fun h=>?_) (fun h=>?_)
 ·have hil:i < f.Features.length:=by have:=Jy h;simp at this;omega
  obtain ⟨t,ht⟩:∃z,f.Features[i]?=some z:=⟨_,Jz hil⟩
  have htg:=bA (c:=bv) ht
  have had:=AQ fs f.Features i ht
  repeat' (first|refine go ?_|refine am ?_|refine IG a6 EV ?_|(apply aV;first|refine aU a6 ?_|refine aN a6 ?_)|(apply aJ;first|refine II 8 a6 0 IF ?_|refine II 8 a6 1 IF ?_|refine II 8 a6 2 IF ?_|refine II 10 a6 0 IF ?_|refine II 10 a6 1 IF ?_|refine II 10 a6 2 IF ?_|refine II 13 a6 0 IF ?_|refine II 13 a6 1 IF ?_|refine II 13 a6 2 IF ?_|refine II 15 a6 0 IF ?_|refine II 15 a6 1 IF ?_|refine II 15 a6 2 IF ?_|refine IH a6 0 IE ?_|refine IH a6 1 IE ?_|refine IH a6 2 IE ?_|refine IH a6 3 IE ?_|fail)|refine bc a6 fun _=>?_|fail)
  refine jJ 0 (.bool false) Tryz.underlying132 Tryz.underlying9 rfl rfl trivial rfl (by kernel_rfl) rfl ?_
  have hM:((j6 fs (.string t.Name)).getD (.sc (.bool false)))=cM (fR fs t.Name):=by
   unfold j6
   simp only
   cases fR fs t.Name <;> rfl
  rw [hM]
  repeat' (first|refine go ?_|fail)
  refine au rfl (fun h2=>?_) (fun h2=>?_)
  ·rw [if_pos h2] at had
   repeat' (first|refine go ?_|refine IG a6 EV ?_)
   refine bn (ei p b f.Lookups.length k (dJ f.Lookups.length [] (pC fs (f.Features.take i)))) [(bm,cn .string (j6 fs))] (AG p b f.Lookups.length k _ t.Lookups (by omega) hok) rfl rfl (List.perm_append_comm (l₁:=[(bm,cn .string (j6 fs))])) rfl fun c L1 ⟨k',hL1⟩=>?_
   subst hL1
   rw [fp,←had]
   refine aK (aM List.perm_append_comm) ?_
   repeat' (first|refine go ?_|refine IG a6 EV ?_|(apply aW;refine aT ?_)|fail)
   exact aB (i+1,k') rfl ⟨by rw [Jv];rfl,trivial⟩ (by dsimp only;omega) (by dsimp only;omega) (fun _ _ h=>h)
  ·rw [h2] at had
   simp only [Bool.false_eq_true,if_false,List.append_nil] at had
   repeat' (first|refine go ?_|refine IG a6 EV ?_|(apply aW;refine aT ?_)|fail)
   exact aB (i+1,k) rfl ⟨by rw [Jv];rfl,trivial⟩ (by dsimp only;omega) (by dsimp only;omega) (fun _ _ h=>by dsimp only;rw [had];exact h)
 have hil:i=f.Features.length:=by have:=Jx h;simp at this;omega
 subst hil
 rw [List.take_length]
 rw [List.take_length] at hok
 clear h
 repeat' (first|refine go ?_|refine am ?_|refine IG a6 EV ?_|(apply bB;refine bq ?_)|fail)
 refine iG (fr':=[(47,.fn 91 [.iptr [gj p]]),(2,.iptr (ci f)),(8,.iptr [gj p])]) (L':=ei p b f.Lookups.length k (dJ f.Lookups.length [] (pC fs f.Features))) ⟨rfl,rfl,rfl,trivial⟩ (fun _ _ h=>h.sublist (List.sublist_cons_self ..)) ?_
 refine ib (ps:=[48]) rfl fun σ0 l db rec hrec=>?_
 have hy:∀(i:Nat) (x:List Int×Option (Nat×Nat)) (z:Int),(i≤x.1.length∧cJ f.Lookups.length x.1∧gC f fs x.1 i)→x.1[i]?=some z→AY Tryz.prog σ0 l [aP z] (ei p b f.Lookups.length x.2 x.1++([(db,g8)]++[(l,fY rec)])) fun c L=>c=cM true∧∃x':List Int×Option (Nat×Nat),(i+1≤x'.1.length∧cJ f.Lookups.length x'.1∧gC f fs x'.1 (i+1))∧L=ei p b f.Lookups.length x'.2 x'.1++([(db,g8)]++[(l,fY rec)]):=by
  rintro i ⟨l1,k1⟩ z ⟨hi1,hok1,hw1⟩ hz
  dsimp only at hi1 hok1 hw1 hz ⊢
  rw [←List.append_assoc]
  refine ox hrec rfl rfl fun B1 hB1=>?_
  repeat' (first|refine go ?_|refine IG a6 EV ?_)
  refine ic hrec.state ?_
  have hil:=(Jo hz).1
  have hzr:=(hw1.reach z (Jw hz)).in
  obtain ⟨x,hx⟩:∃x,f.Lookups[z.toNat]?=some x:=⟨_,Jz (by omega)⟩
  have hxg:=bA (c:=bi) hx
  repeat' (first|refine go ?_|refine am ?_|refine IG a6 EV ?_|(apply aV;first|refine aU a6 ?_|refine aN a6 ?_)|fail)
  have hrr:=Cj hrec.state hrec.pending
  refine au rfl (fun h=>?_) (fun h=>?_)
  ·have hK:=Jy h
   repeat' (first|refine go ?_|fail)
   refine js ?_
   rw [hrr]
   exact ⟨rfl,(l1,k1),⟨hil,hok1,hw1.next hz hx fun e=>absurd e hK⟩,List.append_assoc ..⟩
  have hK:x.Kind=4:=Decidable.not_not.1 (Jx h)
  clear h
  have hRl:=hs.rulesL (Jw hx)
  repeat' (first|refine go ?_|refine am ?_|refine IG a6 EV ?_|(apply aV;first|refine aU a6 ?_|refine aN a6 ?_)|fail)
  refine aO [2,8,48,61,62] (α:=List Int×Nat×Option (Nat×Nat)) (fun y=>[(63,aP y.2.1)]) (fun y=>y.2.1≤x.Rules.length∧i < y.1.length∧y.1[i]?=some z∧cJ f.Lookups.length y.1∧gC f fs y.1 i∧jZ f y.1 (x.Rules.take y.2.1)) (fun y=>ei p b f.Lookups.length y.2.2 y.1++[(db,g8)]++[(l,fY { rec with state:= .busy })]) (fun y=>x.Rules.length - y.2.1) (l1,0,k1) rfl ⟨rfl,trivial⟩ ⟨Nat.zero_le _,hil,hz,hok1,hw1,fun r hr=>by cases hr⟩ (fun _ _ h=>h) ?_
  clear hil hz hok1 hw1 hi1
  rintro ⟨l1,j,k1⟩ ⟨hj,hil,hz,hok1,hw1,hR⟩
  dsimp only at hj hil hz hok1 hw1 hR ⊢
  try dsimp only [Jr,Jq,Jp,Jk]
  repeat' (first|refine go ?_|refine IG a6 EV ?_)
  refine au rfl (fun h=>?_) (fun h=>?_)
  ·have hjl:j < x.Rules.length:=by have:=Jy h;simp at this;omega
   obtain ⟨r,hr⟩:∃r,x.Rules[j]?=some r:=⟨_,Jz hjl⟩
   have hrg:=bA (c:=bE) hr
   have hCl:=hs.calls (Jw hx) (Jw hr)
   clear h
   repeat' (first|refine go ?_|refine am ?_|refine IG a6 EV ?_|(apply aV;first|refine aU a6 ?_|refine aN a6 ?_)|(apply aJ;first|refine II 8 a6 0 IF ?_|refine II 8 a6 1 IF ?_|refine II 8 a6 2 IF ?_|refine II 10 a6 0 IF ?_|refine II 10 a6 1 IF ?_|refine II 10 a6 2 IF ?_|refine II 13 a6 0 IF ?_|refine II 13 a6 1 IF ?_|refine II 13 a6 2 IF ?_|refine II 15 a6 0 IF ?_|refine II 15 a6 1 IF ?_|refine II 15 a6 2 IF ?_|refine IH a6 0 IE ?_|refine IH a6 1 IE ?_|refine IH a6 2 IE ?_|refine IH a6 3 IE ?_|fail)|refine bc a6 fun _=>?_|fail)
   refine aO [2,8,48,61,62,63,68,69] (α:=List Int×Nat×Option (Nat×Nat)) (fun y=>[(70,aP y.2.1)]) (fun y=>y.2.1≤r.Calls.length∧i < y.1.length∧y.1[i]?=some z∧cJ f.Lookups.length y.1∧gC f fs y.1 i∧jZ f y.1 (x.Rules.take j)∧CallsIn f y.1 (r.Calls.take y.2.1)) (fun y=>ei p b f.Lookups.length y.2.2 y.1++[(db,g8)]++[(l,fY { rec with state:= .busy })]) (fun y=>r.Calls.length - y.2.1) (l1,0,k1) rfl ⟨rfl,trivial⟩ ⟨Nat.zero_le _,hil,hz,hok1,hw1,hR,fun c hc=>by cases hc⟩ (fun _ _ h=>h) ?_
   clear hil hz hok1 hw1 hR
   rintro ⟨l1,c,k1⟩ ⟨hc,hil,hz,hok1,hw1,hR,hCs⟩
   dsimp only at hc hil hz hok1 hw1 hR hCs ⊢
   try dsimp only [Jr,Jq,Jp,Jk]
   repeat' (first|refine go ?_|refine IG a6 EV ?_)
   refine au rfl (fun h=>?_) (fun h=>?_)
   ·have hcl:c < r.Calls.length:=by have:=Jy h;simp at this;omega
    obtain ⟨q,hq⟩:∃q,r.Calls[c]?=some q:=⟨_,Jz hcl⟩
    have hqg:=bA (c:=dI) hq
    clear h
    repeat' (first|refine go ?_|refine am ?_|refine IG a6 EV ?_|(apply aV;first|refine aU a6 ?_|refine aN a6 ?_)|(apply aJ;first|refine II 8 a6 0 IF ?_|refine II 8 a6 1 IF ?_|refine II 8 a6 2 IF ?_|refine II 10 a6 0 IF ?_|refine II 10 a6 1 IF ?_|refine II 10 a6 2 IF ?_|refine II 13 a6 0 IF ?_|refine II 13 a6 1 IF ?_|refine II 13 a6 2 IF ?_|refine II 15 a6 0 IF ?_|refine II 15 a6 1 IF ?_|refine II 15 a6 2 IF ?_|refine IH a6 0 IE ?_|refine IH a6 1 IE ?_|refine IH a6 2 IE ?_|refine IH a6 3 IE ?_|fail)|refine bc a6 fun _=>?_|(apply bB;refine bq ?_)|fail)
    refine au rfl (fun h=>?_) (fun h=>?_)
    ·repeat' (first|refine go ?_|refine IG a6 EV ?_|refine bG a6 ?_|fail)
     refine bn (ei p b f.Lookups.length k1 l1) ([(db,g8)]++[(l,fY { rec with state:= .busy })]) (AG p b f.Lookups.length k1 l1 [q.Lookup] (by omega) hok1) rfl rfl (by rw [←List.append_assoc];exact Jn _) rfl fun c' L1 ⟨k',hL1⟩=>?_
     subst hL1
     rw [←List.append_assoc]
     repeat' (first|refine go ?_|refine IG a6 EV ?_|(apply aW;refine aT ?_)|fail)
     have hsub:∀z∈l1,z∈addOne f.Lookups.length l1 q.Lookup:=fun z hz=>lY.2 (Or.inl hz)
     have hge:=vl (m:=f.Lookups.length) (n:=q.Lookup) hz
     refine aB (addOne f.Lookups.length l1 q.Lookup,c+1,k') rfl ⟨by rw [Jv];rfl,trivial⟩ ⟨by dsimp only;omega,(Jo hge).1,hge,hok1.one _,hw1.addOne (.call (hw1.reach z (Jw hz)) hx hK (Jw hr) (Jw hq) h) (by omega),hR.mono hsub,?_⟩ (by dsimp only;omega) (fun _ _ h=>h)
     intro y hy hyn
     dsimp only at hy ⊢
     rw [List.take_add_one,hq] at hy
     rcases Jm hy with hy | hy
     ·exact hsub _ (hCs y hy hyn)
     ·simp at hy
      subst hy
      have:=tP hyn
      exact lY.2 (Or.inr ⟨rfl,this.1,this.2⟩)
    ·repeat' (first|refine go ?_|refine IG a6 EV ?_|(apply aW;refine aT ?_)|fail)
     refine aB (l1,c+1,k1) rfl ⟨by rw [Jv];rfl,trivial⟩ ⟨by dsimp only;omega,hil,hz,hok1,hw1,hR,?_⟩ (by dsimp only;omega) (fun _ _ h=>h)
     intro y hy hyn
     dsimp only at hy ⊢
     rw [List.take_add_one,hq] at hy
     rcases Jm hy with hy | hy
     ·exact hCs y hy hyn
     ·simp at hy;subst hy;rw [h] at hyn;cases hyn
   ·have hcl:c=r.Calls.length:=by have:=Jx h;simp at this;omega
    subst hcl
    rw [List.take_length] at hCs
    repeat' (first|refine go ?_|refine IG a6 EV ?_|(apply aW;refine aT ?_)|fail)
    refine aB (l1,j+1,k1) rfl ⟨by rw [Jv];rfl,trivial⟩ ⟨by dsimp only;omega,hil,hz,hok1,hw1,fun y hy=>?_⟩ (by dsimp only;omega) (fun _ _ h=>h)
    dsimp only at hy ⊢
    rw [List.take_add_one,hr] at hy
    rcases Jm hy with hy | hy
    ·exact hR y hy
    ·simp at hy;subst hy;exact hCs
  ·have hjl:j=x.Rules.length:=by have:=Jx h;simp at this;omega
   subst hjl
   rw [List.take_length] at hR
   repeat' (first|refine go ?_|fail)
   refine js ?_
   rw [hrr]
   exact ⟨rfl,(l1,k1),⟨hil,hok1,hw1.next hz hx fun _=>hR⟩,List.append_assoc ..⟩
 have hp:=Cd (n:=f.Lookups.length) (α:=List Int×Option (Nat×Nat)) (·.1) (·.2) (fun _=>[(db,g8)]++[(l,fY rec)]) (fun i x=>i≤x.1.length∧cJ f.Lookups.length x.1∧gC f fs x.1 i) (by omega) (fun i x hj=>⟨hj.1,hj.2.1.len⟩) hy (_,k) ⟨Nat.zero_le _,hok,gC.start2⟩
 dsimp only at hp
 rw [←List.append_assoc] at hp
 refine ⟨_,hp,?_⟩
 ·rintro c L' ⟨⟨l1,k1⟩,⟨_,hok1,hw1⟩,hL'⟩
  dsimp only at hok1 hw1 hL'
  refine ⟨rec,ei p b f.Lookups.length k1 l1++[(db,g8)],by rw [hL',List.append_assoc],(by rw [hrec.state];intro e;cases e),?_⟩
  rw [hrec.pending]
  show AX _ _ _ _ _ _ _ _
  repeat' (first|refine go ?_|refine IG a6 EV ?_)
  refine bn (ei p b f.Lookups.length k1 l1) [(db,g8)] (Cq p b f.Lookups.length k1 l1 (by have:=hok1.len;omega)) rfl rfl (Jn _) rfl fun c L1 ⟨hc,hL1⟩=>?_
  subst hc;subst hL1
  rw [mx hok1,hw1.end]
  repeat' (first|refine go ?_|refine IG a6 EV ?_)
  exact i8 [db] (ei p b f.Lookups.length k1 l1) rfl (Jn _) (cs:=[.imm 1 (aS (dG f fs))]) (show cF _ 4=some _∧True from ⟨rfl,trivial⟩) rfl
end Go.Proofs.YtjjpkibjffmceaaGreat
namespace Go.Proofs.YtjjpkibjffmceaaGreat
open Go.RowKit
attribute [local irreducible] AT cg AX AO Av Kt bJ eC DA du
def F5 (n:Nat) (l:List Int) (z:Int):Bool:=decide (0≤z∧z < n) && l.contains z
theorem Hh (p b n:Nat) (k:Option (Nat×Nat)) (l:List Int) (z:Int):AC Tryz.prog 87 [gj p,aP z] (ca p b n k l) fun c L=>c=cM (F5 n l z)∧L=ca p b n k l:=by
 refine aX Tryz.func87 rfl Tryz.ntmps87 rfl fun B=>?_
 unfold F5
 by_cases h0:0≤z
 ·by_cases h1:z < n
  ·have hfg:=nW l n h0 h1
   rw [decide_eq_true (And.intro h0 h1)]
   unfold ca
   repeat' (first|refine go ?_|refine IG a6 EV ?_)
   rw [decide_eq_true h0]
   repeat' (first|refine IG a6 EV ?_|refine IR EV ?_|(apply bH;first|refine IJ a6 0 ID ?_|refine IJ a6 1 ID ?_|refine IJ a6 2 ID ?_|refine IJ a6 3 ID ?_|refine IK a6 0 ID ?_|refine IK a6 1 ID ?_|refine IK a6 2 ID ?_|refine IL a6 1 IB (by assumption) rfl ?_|refine IL a6 0 IB (by assumption) rfl ?_|fail)|fail)
   rw [decide_eq_true h1]
   repeat' (first|refine go ?_|refine IG a6 EV ?_|refine IR EV ?_|(apply bH;first|refine IJ a6 0 ID ?_|refine IJ a6 1 ID ?_|refine IJ a6 2 ID ?_|refine IJ a6 3 ID ?_|refine IK a6 0 ID ?_|refine IK a6 1 ID ?_|refine IK a6 2 ID ?_|refine IL a6 1 IB (by assumption) rfl ?_|refine IL a6 0 IB (by assumption) rfl ?_|fail)|(apply aV;first|refine aU a6 ?_|refine aN a6 ?_)|fail)
   exact IM EV ⟨rfl,rfl⟩
  ·rw [decide_eq_false (fun h=>h1 h.2)]
   unfold ca
   repeat' (first|refine go ?_|refine IG a6 EV ?_)
   rw [decide_eq_true h0]
   repeat' (first|refine IG a6 EV ?_|refine IR EV ?_|(apply bH;first|refine IJ a6 0 ID ?_|refine IJ a6 1 ID ?_|refine IJ a6 2 ID ?_|refine IJ a6 3 ID ?_|refine IK a6 0 ID ?_|refine IK a6 1 ID ?_|refine IK a6 2 ID ?_|refine IL a6 1 IB (by assumption) rfl ?_|refine IL a6 0 IB (by assumption) rfl ?_|fail)|fail)
   rw [decide_eq_false h1]
   repeat' (first|refine go ?_|refine IG a6 EV ?_|refine IT IC ?_)
   exact IM EV ⟨rfl,rfl⟩
 ·rw [decide_eq_false (fun h=>h0 h.1)]
  unfold ca
  repeat' (first|refine go ?_|refine IG a6 EV ?_)
  rw [decide_eq_false h0]
  repeat' (first|refine go ?_|refine IG a6 EV ?_|refine IT IC ?_)
  exact IM EV ⟨rfl,rfl⟩
theorem G6 {g:FuncId} {caps:List AV} {u:AV} [bT Tryz.prog g] (hu:jV u=some (g,caps)) (l:List Int) (p:Int→Bool) (L0:AL) (hw:∀z,AC Tryz.prog g ([aP z]++caps) L0 fun c L'=>c=cM (p z)∧L'=L0):AC Tryz.prog 201 [.imm 1 (aS l),u] L0 fun c L=>(∃z:Int,c=aP z∧(0≤z↔l.any p=true))∧L=L0:=by
 refine aX Tryz.func201 rfl Tryz.ntmps201 rfl fun B=>?_
 have hll:=aF l
 refine cN 0 rfl rfl fun hlen=>?_
 rw [aF] at hlen
 repeat' (first|refine go ?_|refine am ?_|refine IG a6 EV ?_)
 refine aO [0,1,7] (α:=Nat) (fun i=>[(8,aP i)]) (fun i=>i≤l.length∧(l.take i).any p=false) (fun _=>L0) (fun i=>l.length - i) 0 rfl ⟨rfl,trivial⟩ ⟨Nat.zero_le _,by simp⟩ (fun _ _ h=>h) fun i ⟨hi,ha⟩=>?_
 try dsimp only [Jr,Jq,Jp,Jk]
 repeat' (first|refine go ?_|refine IG a6 EV ?_)
 refine au rfl (fun h=>?_) (fun h=>?_)
 ·have hil:i < l.length:=by have:=Jy h;rw [aF] at this;omega
  obtain ⟨z,hz⟩:∃z,l[i]?=some z:=⟨_,Jz hil⟩
  have hzg:=bQ hz
  repeat' (first|refine go ?_|refine am ?_|refine IG a6 EV ?_|(apply aV;first|refine aU a6 ?_|refine aN a6 ?_)|fail)
  refine dx L0 [] (hw z) rfl hu rfl (ck rfl) rfl rfl fun c L1 ⟨hc,hL⟩=>?_
  subst hc;subst hL
  rw [List.append_nil]
  repeat' (first|refine go ?_|fail)
  refine au rfl (fun h2=>?_) (fun h2=>?_)
  ·repeat' (first|refine go ?_|refine IG a6 EV ?_)
   refine IM EV ⟨⟨i,rfl,?_⟩,rfl⟩
   exact ⟨fun _=>List.any_eq_true.2 ⟨z,Jw hz,h2⟩,fun _=>by omega⟩
  ·repeat' (first|refine go ?_|refine IG a6 EV ?_|(apply aW;refine aT ?_)|fail)
   refine aB (i+1) rfl ⟨by rw [Jv];rfl,trivial⟩ ⟨by omega,?_⟩ (by omega) (fun _ _ h=>h)
   rw [List.take_add_one,hz,List.any_append,ha]
   simpa using h2
 ·have hil:i=l.length:=by have:=Jx h;rw [aF] at this;omega
  subst hil
  rw [List.take_length] at ha
  repeat' (first|refine go ?_|refine IG a6 EV ?_)
  refine IM EV ⟨⟨-1,rfl,?_⟩,rfl⟩
  rw [ha]
  exact ⟨fun h=>absurd h (by decide),fun h=>by cases h⟩
theorem yB {g:FuncId} {caps:List AV} {u:AV} [bT Tryz.prog g] (hu:jV u=some (g,caps)) (l:List Int) (p:Int→Bool) (L0:AL) (hw:∀z,AC Tryz.prog g ([aP z]++caps) L0 fun c L'=>c=cM (p z)∧L'=L0):AC Tryz.prog 148 [.imm 1 (aS l),u] L0 fun c L=>c=cM (l.any p)∧L=L0:=by
 refine aX Tryz.func148 rfl Tryz.ntmps148 rfl fun B=>?_
 repeat' (first|refine go ?_|refine IG a6 EV ?_)
 refine bn L0 [] (G6 hu l p L0 hw) rfl (fQ hu) (ck rfl) rfl fun c L1 ⟨⟨z,hc,hz⟩,hL⟩=>?_
 subst hc;subst hL
 rw [List.append_nil]
 repeat' (first|refine go ?_|refine IG a6 EV ?_)
 refine IM EV ⟨?_,rfl⟩
 refine congrArg (fun b=>cM b) ?_
 rw [Bool.eq_iff_iff,decide_eq_true_eq]
 exact hz
end Go.Proofs.YtjjpkibjffmceaaGreat
