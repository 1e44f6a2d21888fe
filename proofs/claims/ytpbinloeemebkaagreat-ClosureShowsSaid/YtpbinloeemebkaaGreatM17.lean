/-
  The program: sets of glyphs (printed by tools/glyphsets.py).
-/
import Derived.Test.YtpbinloeemebkaaGreatM16
import Derived.Test.YtpbinloeemebkaaGreatM08
import Derived.Test.YtpbinloeemebkaaGreatM06
namespace Go.Proofs.YtpbinloeemebkaaGreat
open Go.RowKit
attribute [local irreducible] AT bO AX AO Av Kt bo dU DA cT
def bg (p b n:Nat) (k:Option (Nat×Nat)) (l:List Int):AL:=(p,.box [.sc (.slice (some ⟨b,0,none⟩) n n),.vec k 1 (aS l)] 106)::(b,.box (gk l n) 4)::tok k 99 1 (aS l).length
theorem DU (n:Nat) (hn:n≤1000000):AC Tryz.prog 54 [aH n] [] fun c L=>∃p b,c=fg p∧L=bg p b n none []:=by
 refine aT Tryz.func54 rfl Tryz.ntmps54 rfl fun B=>?_
 repeat' (first|refine go ?_|refine HF a1 F8 ?_)
 refine jb a1 n rfl rfl rfl rfl rfl rfl rfl (by omega) (by omega) rfl fun b=>?_
 rw [show (List.replicate n (List.map AV.sc [Value.bool false])).flatten=gk [] n from rm n]
 repeat' (first|refine go ?_|refine HF a1 F8 ?_|refine rF fun _=>?_|fail)
 refine bk (bE 0 (cs':=[.sc (.slice (some ⟨b,0,none⟩) n n),.vec none 1 []]) rfl fun σ vs h=>?_) (HN F8 ⟨_,b,rfl,rfl⟩)
 obtain ⟨v,ws,rfl,h1,h2⟩:=h.inv
 obtain ⟨v',ws',rfl,h3,h4⟩:=h2.inv
 exact .cons h1 (.cons (dg 1 h3) h4)
theorem mz (p b n:Nat) (k:Option (Nat×Nat)) (l ns:List Int) (hn:n≤1000000) (hl:cE n l):AC Tryz.prog 36 [fg p,.imm 1 (aS ns)] (bg p b n k l) fun _ L=>∃k',L=bg p b n k' (cg n l ns):=by
 refine aT Tryz.func36 rfl Tryz.ntmps36 rfl fun B=>?_
 refine cF 1 rfl rfl fun hlen=>?_
 rw [aN] at hlen
 repeat' (first|refine go ?_|refine ak ?_|refine HF a1 F8 ?_)
 refine aR [0,6,7] (α:=Nat×Option (Nat×Nat)) (fun x=>[(8,aH x.1)]) (fun x=>x.1≤ns.length) (fun x=>bg p b n x.2 (cg n l (ns.take x.1))) (fun x=>ns.length - x.1) (0,k) rfl ⟨rfl,trivial⟩ (Nat.zero_le _) (fun _ _ h=>h) ?_
 rintro ⟨i,k⟩ hi
 dsimp only at hi ⊢
 have hok:=hl.add (ns.take i)
 have hok1:=hok.len
 try dsimp only [Hs,Hr,Hq,Hl]
 repeat' (first|refine go ?_|refine HF a1 F8 ?_)
 refine ay rfl (fun h=>?_) (fun h=>?_)
 ·have hil:i < ns.length:=by have:=Hy h;simp [aN] at this;omega
  obtain ⟨z,hz⟩:∃z,ns[i]?=some z:=⟨_,Hz hil⟩
  have hzg:=bG hz
  have had:=r7 (n:=n) (l:=l) hz
  generalize cg n l (ns.take i)=l1 at *
  repeat' (first|refine go ?_|refine ak ?_|refine HF a1 F8 ?_|(apply aX;first|refine aU a1 ?_|refine aK a1 ?_)|fail)
  refine cN [0,5,6,7,8] (0≤z∧z < n∧z∉l1) rfl (fun Q' K=>?_) (fun hC=>?_) (fun hC=>?_)
  ·by_cases hin:0≤z∧z < n
   ·obtain ⟨hz0,hz1⟩:=hin
    have hfg:=nK l1 n hz0 hz1
    clear had hok hl
    repeat' (first|refine go ?_|refine HF a1 F8 ?_|refine HO F8 ?_|refine HS HB ?_|(apply bh;first|refine HJ a1 0 HC ?_|refine HJ a1 1 HC ?_|refine HJ a1 2 HC ?_|refine HJ a1 3 HC ?_|refine HK a1 0 HC ?_|refine HK a1 1 HC ?_|refine HK a1 2 HC ?_|refine HM a1 1 HA (by assumption) rfl ?_|refine HM a1 0 HA (by assumption) rfl ?_|fail)|(apply aX;first|refine aU a1 ?_|refine aK a1 ?_)|refine be rfl rfl rfl (fun _=>?_) (fun _=>?_))
    all_goals exact K _ _ rfl rfl (by simp_all)
   ·clear had hok hl
    repeat' (first|refine go ?_|refine HF a1 F8 ?_|refine HO F8 ?_|refine HS HB ?_|(apply bh;first|refine HJ a1 0 HC ?_|refine HJ a1 1 HC ?_|refine HJ a1 2 HC ?_|refine HJ a1 3 HC ?_|refine HK a1 0 HC ?_|refine HK a1 1 HC ?_|refine HK a1 2 HC ?_|refine HM a1 1 HA (by assumption) rfl ?_|refine HM a1 0 HA (by assumption) rfl ?_|fail)|refine be rfl rfl rfl (fun _=>?_) (fun _=>?_))
    all_goals first
     | (refine K _ _ rfl rfl ?_;exact ⟨fun e=>(by cases e),fun hh=>absurd (And.intro hh.1 hh.2.1) hin⟩)
     | (rename_i e1 e2;exact absurd ⟨Hy e1,Hy e2⟩ hin)
  ·obtain ⟨hz0,hz1,hz2⟩:=hC
   have had':cg n l (ns.take (i+1))=l1++[z]:=by rw [had];unfold addOne;rw [if_pos ⟨hz0,hz1,hz2⟩]
   repeat' (first|refine go ?_|refine HF a1 F8 ?_|(apply bh;first|refine HJ a1 0 HC ?_|refine HJ a1 1 HC ?_|refine HJ a1 2 HC ?_|refine HJ a1 3 HC ?_|refine HK a1 0 HC ?_|refine HK a1 1 HC ?_|refine HK a1 2 HC ?_|refine HM a1 1 HA (by assumption) rfl ?_|refine HM a1 0 HA (by assumption) rfl ?_|fail)|(apply aX;first|refine aU a1 ?_|refine aK a1 ?_)|fail)
   refine ah a1 1 rfl rfl rfl rfl rfl rfl (by rw [Nat.ble_eq,nL];show _+1≤n;omega) ?_
   rw [gh,ro l1 n hz0 hz1]
   repeat' (first|refine go ?_|refine HF a1 F8 ?_|(apply bh;first|refine HJ a1 0 HC ?_|refine HJ a1 1 HC ?_|refine HJ a1 2 HC ?_|refine HJ a1 3 HC ?_|refine HK a1 0 HC ?_|refine HK a1 1 HC ?_|refine HK a1 2 HC ?_|refine HM a1 1 HA (by assumption) rfl ?_|refine HM a1 0 HA (by assumption) rfl ?_|fail)|refine bI a1 ?_|fail)
   refine cj a1 [(p,.box [.sc (.slice (some ⟨b,0,none⟩) n n),.vec k 1 (aS l1)] 106),(b,.box (gk (l1++[z]) n) 4)] rfl rfl rfl rfl (List.perm_append_comm (l₁:=[(p,AB.box [.sc (.slice (some ⟨b,0,none⟩) n n),.vec k 1 (aS l1)] 106),(b,AB.box (gk (l1++[z]) n) 4)])) (by rw [aN];simp;omega) (by rw [aN];simp;omega) rfl fun k'=>?_
   refine aV (aJ List.perm_append_comm) ?_
   repeat' (first|refine go ?_|refine HF a1 F8 ?_|(apply aZ;refine aY ?_)|(apply aQ;first|refine HG a1 0 HD ?_|refine HG a1 1 HD ?_|refine HG a1 2 HD ?_|refine HG a1 3 HD ?_|fail))
   rw [show aS l1++[[aH z]]=aS (l1++[z]) from mM l1 [z],←had']
   refine aF (i+1,k') rfl ⟨by rw [Hv];rfl,trivial⟩ (by dsimp only;omega) (by dsimp only;omega) (fun _ _ h=>h)
  ·have had':cg n l (ns.take (i+1))=l1:=by rw [had];unfold addOne;rw [if_neg hC]
   repeat' (first|refine go ?_|refine HF a1 F8 ?_|(apply aZ;refine aY ?_)|fail)
   refine aF (i+1,k) rfl ⟨by rw [Hv];rfl,trivial⟩ (by dsimp only;omega) (by dsimp only;omega) (fun _ _ h=>by dsimp only;rw [had'];exact h)
 ·have hil:i=ns.length:=by have:=Hx h;simp [aN] at this;omega
  subst hil
  rw [List.take_length]
  repeat' (first|refine go ?_|fail)
  exact ce rfl ⟨k,rfl⟩
theorem BC (p b n:Nat) (k:Option (Nat×Nat)) (l:List Int) (hl:l.length≤1000000):AC Tryz.prog 39 [fg p] (bg p b n k l) fun c L=>c= .imm 1 (aS (dt l))∧L=bg p b n k l:=by
 refine aT Tryz.func39 rfl Tryz.ntmps39 rfl fun B=>?_
 repeat' (first|refine go ?_|refine HF a1 F8 ?_|(apply bh;first|refine HJ a1 0 HC ?_|refine HJ a1 1 HC ?_|refine HJ a1 2 HC ?_|refine HJ a1 3 HC ?_|refine HK a1 0 HC ?_|refine HK a1 1 HC ?_|refine HK a1 2 HC ?_|refine HM a1 1 HA (by assumption) rfl ?_|refine HM a1 0 HA (by assumption) rfl ?_|fail)|fail)
 refine jb a1 l.length rfl rfl rfl rfl rfl (by rw [aN]) (by rw [aN]) (by omega) (by omega) rfl fun b3=>?_
 rw [show (List.replicate l.length (List.map AV.sc [Value.int .i64 0])).flatten=eD l 0 from oX l _ rfl]
 repeat' (first|refine go ?_|refine ak ?_|refine HF a1 F8 ?_|(apply bh;first|refine HJ a1 0 HC ?_|refine HJ a1 1 HC ?_|refine HJ a1 2 HC ?_|refine HJ a1 3 HC ?_|refine HK a1 0 HC ?_|refine HK a1 1 HC ?_|refine HK a1 2 HC ?_|refine HM a1 1 HA (by assumption) rfl ?_|refine HM a1 0 HA (by assumption) rfl ?_|fail)|fail)
 refine aR [3,15,16] (α:=Nat) (fun i=>[(17,aH i)]) (fun i=>i≤l.length) (fun i=>(b3,.box (eD l i) 3)::bg p b n k l) (fun i=>l.length - i) 0 rfl ⟨rfl,trivial⟩ (Nat.zero_le _) (fun _ _ h=>h) fun i hi=>?_
 try dsimp only [Hs,Hr,Hq,Hl]
 repeat' (first|refine go ?_|refine HF a1 F8 ?_)
 refine ay rfl (fun h=>?_) (fun h=>?_)
 ·have hil:i < l.length:=by have:=Hy h;simp [aN] at this;omega
  obtain ⟨z,hz⟩:∃z,l[i]?=some z:=⟨_,Hz hil⟩
  have hzg:=bG hz
  repeat' (first|refine go ?_|refine ak ?_|refine HF a1 F8 ?_|(apply aX;first|refine aU a1 ?_|refine aK a1 ?_)|fail)
  refine ah a1 0 rfl rfl rfl rfl rfl rfl (by rw [Nat.ble_eq,sd l hi];show _+1≤l.length;omega) ?_
  rw [gh,se hz]
  repeat' (first|refine go ?_|refine HF a1 F8 ?_|(apply aZ;refine aY ?_)|fail)
  exact aF (i+1) rfl ⟨by rw [Hv];rfl,trivial⟩ (by omega) (by omega) (fun _ _ h=>h)
 ·have hil:i=l.length:=by have:=Hx h;simp [aN] at this;omega
  subst hil
  rw [sb]
  repeat' (first|refine go ?_|refine HF a1 F8 ?_)
  refine bb [(b3,.box (l.map aH) 3)] (bg p b n k l) (xp b3 l.length l rfl hl) rfl rfl (Ho _) rfl fun c L1 hL1=>?_
  subst hL1
  repeat' (first|refine go ?_|refine HF a1 F8 ?_)
  refine bk (qG (t:=2) (sz:=1) (l:=aS (dt l)) 0 rfl rfl (lu _).symm (by simp [aS]) (by rw [aN,iJ]) (by omega)) ?_
  exact eY (List.sublist_cons_self ..) (pn rfl rfl rfl ⟨rfl,rfl⟩)
theorem EW {α:Type} {σ0:ci} {l p b n:Nat} (S:α→List Int) (K:α→Option (Nat×Nat)) (E:α→AL) (J:Nat→α→Prop) (hn:n≤1000000) (hJ:∀i x,J i x→i≤(S x).length∧(S x).length≤n)
  (hy:∀i x z,J i x→(S x)[i]?=some z→AY Tryz.prog σ0 l [aH z] (bg p b n (K x) (S x)++E x) fun c L=>c=c9 true∧∃x',J (i+1) x'∧L=bg p b n (K x') (S x')++E x') (x0:α) (h0:J 0 x0):
  zt Tryz.prog σ0 68 [.sc (.func (.yield l) #[] #[]),.iptr [fg p]] (bg p b n (K x0) (S x0)++E x0) fun _ L=>∃x,J (S x).length x∧L=bg p b n (K x) (S x)++E x:=by
 refine nu Tryz.func68 rfl Tryz.ntmps68 rfl fun B hB=>?_
 repeat' (first|refine go ?_|refine ak ?_|refine HF a1 F8 ?_)
 refine aR [0,1] (α:=Nat×α) (fun y=>[(3,aH y.1)]) (fun y=>J y.1 y.2) (fun y=>bg p b n (K y.2) (S y.2)++E y.2) (fun y=>n - y.1) (0,x0) rfl ⟨rfl,trivial⟩ h0 (fun _ _ h=>h) ?_
 rintro ⟨i,x⟩ hj
 dsimp only at hj ⊢
 obtain ⟨hi,hl⟩:=hJ i x hj
 try dsimp only [Hs,Hr,Hq,Hl]
 repeat' (first|refine go ?_|refine HF a1 F8 ?_|(apply bh;first|refine HJ a1 0 HC ?_|refine HJ a1 1 HC ?_|refine HJ a1 2 HC ?_|refine HJ a1 3 HC ?_|refine HK a1 0 HC ?_|refine HK a1 1 HC ?_|refine HK a1 2 HC ?_|refine HM a1 1 HA (by assumption) rfl ?_|refine HM a1 0 HA (by assumption) rfl ?_|fail)|fail)
 refine ay rfl (fun h=>?_) (fun h=>?_)
 ·have hil:i < (S x).length:=by have:=Hy h;simp [aN] at this;omega
  obtain ⟨z,hz⟩:∃z,(S x)[i]?=some z:=⟨_,Hz hil⟩
  have hzg:=bG hz
  repeat' (first|refine go ?_|refine ak ?_|refine HF a1 F8 ?_|(apply bh;first|refine HJ a1 0 HC ?_|refine HJ a1 1 HC ?_|refine HJ a1 2 HC ?_|refine HJ a1 3 HC ?_|refine HK a1 0 HC ?_|refine HK a1 1 HC ?_|refine HK a1 2 HC ?_|refine HM a1 1 HA (by assumption) rfl ?_|refine HM a1 0 HA (by assumption) rfl ?_|fail)|(apply aX;first|refine aU a1 ?_|refine aK a1 ?_)|fail)
  refine jV (bg p b n (K x) (S x)++E x) [] hB (hy i x z hj hz) rfl rfl rfl (by rw [List.append_nil]) rfl rfl fun c L1 ⟨hc,x',hj',hL⟩=>?_
  subst hc;subst hL
  rw [List.append_nil]
  repeat' (first|refine go ?_|refine HF a1 F8 ?_|(apply aZ;refine aY ?_)|refine bL rfl ?_)
  have:=hJ _ _ hj'
  exact aF (i+1,x') rfl ⟨by rw [Hv];rfl,trivial⟩ hj' (by dsimp only;omega) (fun _ _ h=>h)
 ·have hil:i=(S x).length:=by have:=Hx h;simp [aN] at this;omega
  subst hil
  repeat' (first|refine go ?_|fail)
  exact ce rfl ⟨x,hj,rfl⟩
theorem yJ (p:Nat):bM Tryz.prog 46 [fg p] (.fn 68 [.iptr [fg p]]):=by
 refine aT Tryz.func46 rfl Tryz.ntmps46 rfl fun B=>?_
 repeat' (first|refine go ?_|refine HF a1 F8 ?_|refine bC ?_|fail)
 exact HP HA
instance (p:Nat):AD Tryz.prog 46 [fg p] (.fn 68 [.iptr [fg p]]):=⟨yJ p⟩
end Go.Proofs.YtpbinloeemebkaaGreat
namespace Go.Proofs.YtpbinloeemebkaaGreat
open Go.RowKit
attribute [local irreducible] AT bO AX AO Av Kt bo dU DA cT
open Go.MapKept
def iB (l:List ByteArray):Value→Option AV
 | .string s=>if j8 l s then some (c9 true) else none
 | _=>none
theorem w7:(fun _=>none)=iB ([]:List ByteArray):=by
 funext v
 unfold iB
 split <;> rfl
theorem w6 {l:List ByteArray} {i:Nat} {s:ByteArray} (h:l[i]?=some s):iB (l.take (i+1)) (.string s)=some (c9 true):=by
 unfold iB
 simp only
 rw [if_pos (pO.2 (by rw [List.take_add_one,h];simp))]
theorem uc {l:List ByteArray} {i:Nat} {s:ByteArray} (h:l[i]?=some s) (q:Value) (hq:q≠ .string s):iB (l.take (i+1)) q=iB (l.take i) q:=by
 unfold iB
 split
 ·rename_i t
  have:j8 (l.take (i+1)) t=j8 (l.take i) t:=by
   rw [Bool.eq_iff_iff,pO,pO,List.take_add_one,h,List.mem_append]
   constructor
   ·rintro (h | h)
    ·exact h
    ·simp at h;subst h;exact absurd rfl hq
   ·exact Or.inl
  rw [this]
 ·rfl
theorem eI (n:Nat) (l a b:List Int):cg n (cg n l a) b=cg n l (a++b):=by unfold cg;rw [List.foldl_append]
theorem lX {n:Nat} {l:List Int} {z y:Int}:y∈addOne n l z↔y∈l∨(y=z∧0≤z∧z < n):=by
 unfold addOne
 split
 ·rename_i h
  rw [List.mem_append,List.mem_singleton]
  constructor
  ·rintro (h1 | h1)
   ·exact Or.inl h1
   ·exact Or.inr ⟨h1,h.1,h.2.1⟩
  ·rintro (h1 | h1)
   ·exact Or.inl h1
   ·exact Or.inr h1.1
 ·rename_i h
  constructor
  ·exact Or.inl
  ·rintro (h1 | ⟨h1,h2,h3⟩)
   ·exact h1
   ·subst h1;exact Classical.byContradiction fun hn=>h ⟨h2,h3,hn⟩
theorem f3 {n:Nat} {l ns:List Int} {y:Int}:y∈cg n l ns↔y∈l∨(y∈ns∧0≤y∧y < n):=by
 unfold cg
 induction ns generalizing l with
 | nil=>simp
 | cons z ns ih=>
  rw [List.foldl_cons,ih,lX,List.mem_cons]
  constructor
  ·rintro ((h | ⟨h1,h2,h3⟩) | ⟨h1,h2,h3⟩)
   ·exact Or.inl h
   ·subst h1;exact Or.inr ⟨Or.inl rfl,h2,h3⟩
   ·exact Or.inr ⟨Or.inr h1,h2,h3⟩
  ·rintro (h | ⟨h1 | h1,h2,h3⟩)
   ·exact Or.inl (Or.inl h)
   ·subst h1;exact Or.inl (Or.inr ⟨rfl,h2,h3⟩)
   ·exact Or.inr ⟨h1,h2,h3⟩
theorem fW.start2 {f:aL} {fs:List ByteArray}:fW f fs (cg f.Lookups.length [] (pm fs f.Features)) 0 where
 reach z hz:=by
  rcases f3.1 hz with h | ⟨h1,h2,h3⟩
  ·cases h
  ·obtain ⟨t,ht,h4,h5⟩:=tg.1 h1
   exact .base ht h4 h5 h2 h3
 nodup:=(cE.nil.add _).nodup
 base z hz h0 h1:=f3.2 (Or.inr ⟨hz,h0,h1⟩)
 done j hj:=absurd hj (Nat.not_lt_zero _)
theorem fW.addOne {f:aL} {fs:List ByteArray} {l:List Int} {i m:Nat} {n:Int} (h:fW f fs l i) (hn:fX f fs n) (hi:i≤l.length):fW f fs (addOne m l n) i:=by
 unfold Go.Proofs.YtpbinloeemebkaaGreat.addOne
 split
 ·rename_i hc
  exact h.add hn hc.2.2 hi
 ·exact h
theorem uW {l:List Int} {m i:Nat} {n z:Int} (h:l[i]?=some z):(addOne m l n)[i]?=some z:=by
 unfold addOne
 split
 ·rw [List.getElem?_append_left (Hp h).1];exact h
 ·exact h
theorem By {rec:Loop} (h1:rec.state= .ready) (h2:rec.pending=none):({ ({ rec with state:= .busy }:Loop) with state:= .ready,pending:=none }:Loop)=rec:=by cases rec;simp_all
set_option maxHeartbeats 4000000 in
theorem jT (f:aL) (fs:List ByteArray) (hs:dM f):bM Tryz.prog 13 [cx f,.imm 1 (jZ fs)] (.imm 1 (aS (dT f fs))):=by
 refine kB Tryz.func13 rfl Tryz.ntmps13 rfl fun B=>?_
 have hF:=hs.features
 have hLk:=hs.lookups
 refine cF 1 rfl rfl fun hlen=>?_
 rw [ju] at hlen
 repeat' (first|refine go ?_|refine HF a1 F8 ?_|refine bC ?_|fail)
 refine gz .string fun bm=>?_
 rw [w7]
 repeat' (first|refine go ?_|refine ak ?_|refine HF a1 F8 ?_)
 refine aR [2,5,17,18] (α:=Nat) (fun i=>[(19,aH i)]) (fun i=>i≤fs.length) (fun i=>[(bm,dc .string (iB (fs.take i)))]) (fun i=>fs.length - i) 0 rfl ⟨rfl,trivial⟩ (Nat.zero_le _) (fun _ _ h=>h) fun i hi=>?_
 try dsimp only [Hs,Hr,Hq,Hl]
 repeat' (first|refine go ?_|refine HF a1 F8 ?_)
 refine ay rfl (fun h=>?_) (fun h=>?_)
 ·have hil:i < fs.length:=by have:=Hy h;simp [ju] at this;omega
  obtain ⟨z,hz⟩:∃z,fs[i]?=some z:=⟨_,Hz hil⟩
  have hzg:=uI hz
  repeat' (first|refine go ?_|refine ak ?_|refine HF a1 F8 ?_|(apply aX;first|refine aU a1 ?_|refine aK a1 ?_)|fail)
  refine ee 0 (iB (fs.take (i+1))) Tryz.underlying78 Tryz.underlying9 rfl rfl trivial rfl rfl (w6 hz) (uc hz) ?_
  repeat' (first|refine go ?_|refine HF a1 F8 ?_|(apply aZ;refine aY ?_)|fail)
  exact aF (i+1) rfl ⟨by rw [Hv];rfl,trivial⟩ (by omega) (by omega) (fun _ _ h=>h)
 have hil:i=fs.length:=by have:=Hx h;simp [ju] at this;omega
 subst hil
 rw [List.take_length]
 clear h
 repeat' (first|refine go ?_|refine HF a1 F8 ?_)
 refine bb [] [(bm,dc .string (iB fs))] (DW (f.Lookups.map bF).length (by simpa using by omega)) rfl rfl (Ho _) rfl fun c L1 ⟨p,b,hc,hL1⟩=>?_
 subst hc;subst hL1
 rw [Hu]
 refine aV (aJ List.perm_append_comm) ?_
 repeat' (first|refine go ?_|refine ak ?_|refine HF a1 F8 ?_|(apply aQ;first|refine HH 8 a1 0 HE ?_|refine HH 8 a1 1 HE ?_|refine HH 8 a1 2 HE ?_|refine HH 10 a1 0 HE ?_|refine HH 10 a1 1 HE ?_|refine HH 10 a1 2 HE ?_|refine HH 13 a1 0 HE ?_|refine HH 13 a1 1 HE ?_|refine HH 13 a1 2 HE ?_|refine HH 15 a1 0 HE ?_|refine HH 15 a1 1 HE ?_|refine HH 15 a1 2 HE ?_|refine HG a1 0 HD ?_|refine HG a1 1 HD ?_|refine HG a1 2 HD ?_|refine HG a1 3 HD ?_|fail)|refine bl a1 fun _=>?_|fail)
 refine aR [2,5,8,31,32] (α:=Nat×Option (Nat×Nat)) (fun x=>[(33,aH x.1)]) (fun x=>x.1≤f.Features.length) (fun x=>[(bm,dc .string (iB fs))]++dp p b f.Lookups.length x.2 (cg f.Lookups.length [] (pm fs (f.Features.take x.1)))) (fun x=>f.Features.length - x.1) (0,none) rfl ⟨rfl,trivial⟩ (Nat.zero_le _) (fun _ _ h=>h) ?_
 rintro ⟨i,k⟩ hi
 dsimp only at hi ⊢
 have hok:=(cE.nil (n:=f.Lookups.length)).add (pm fs (f.Features.take i))
 try dsimp only [Hs,Hr,Hq,Hl]
 repeat' (first|refine go ?_|refine HF a1 F8 ?_)
 refine ay rfl (fun h=>?_) (fun h=>?_)
 ·have hil:i < f.Features.length:=by have:=Hy h;simp at this;omega
  obtain ⟨t,ht⟩:∃z,f.Features[i]?=some z:=⟨_,Hz hil⟩
  have htg:=bA (c:=c8) ht
  have had:=zV fs f.Features i ht
  repeat' (first|refine go ?_|refine ak ?_|refine HF a1 F8 ?_|(apply aX;first|refine aU a1 ?_|refine aK a1 ?_)|(apply aQ;first|refine HH 8 a1 0 HE ?_|refine HH 8 a1 1 HE ?_|refine HH 8 a1 2 HE ?_|refine HH 10 a1 0 HE ?_|refine HH 10 a1 1 HE ?_|refine HH 10 a1 2 HE ?_|refine HH 13 a1 0 HE ?_|refine HH 13 a1 1 HE ?_|refine HH 13 a1 2 HE ?_|refine HH 15 a1 0 HE ?_|refine HH 15 a1 1 HE ?_|refine HH 15 a1 2 HE ?_|refine HG a1 0 HD ?_|refine HG a1 1 HD ?_|refine HG a1 2 HD ?_|refine HG a1 3 HD ?_|fail)|refine bl a1 fun _=>?_|fail)
  refine u9 0 (.bool false) Tryz.underlying78 Tryz.underlying9 rfl rfl trivial rfl (by kernel_rfl) rfl ?_
  have hM:((iB fs (.string t.Name)).getD (.sc (.bool false)))=c9 (j8 fs t.Name):=by
   unfold iB
   simp only
   cases j8 fs t.Name <;> rfl
  rw [hM]
  repeat' (first|refine go ?_|fail)
  refine ay rfl (fun h2=>?_) (fun h2=>?_)
  ·rw [if_pos h2] at had
   repeat' (first|refine go ?_|refine HF a1 F8 ?_)
   refine bb (dp p b f.Lookups.length k (cg f.Lookups.length [] (pm fs (f.Features.take i)))) [(bm,dc .string (iB fs))] (zL p b f.Lookups.length k _ t.Lookups (by omega) hok) rfl rfl (List.perm_append_comm (l₁:=[(bm,dc .string (iB fs))])) rfl fun c L1 ⟨k',hL1⟩=>?_
   subst hL1
   rw [eI,←had]
   refine aV (aJ List.perm_append_comm) ?_
   repeat' (first|refine go ?_|refine HF a1 F8 ?_|(apply aZ;refine aY ?_)|fail)
   exact aF (i+1,k') rfl ⟨by rw [Hv];rfl,trivial⟩ (by dsimp only;omega) (by dsimp only;omega) (fun _ _ h=>h)
  ·rw [h2] at had
   simp only [Bool.false_eq_true,if_false,List.append_nil] at had
   repeat' (first|refine go ?_|refine HF a1 F8 ?_|(apply aZ;refine aY ?_)|fail)
   exact aF (i+1,k) rfl ⟨by rw [Hv];rfl,trivial⟩ (by dsimp only;omega) (by dsimp only;omega) (fun _ _ h=>by dsimp only;rw [had];exact h)
 have hil:i=f.Features.length:=by have:=Hx h;simp at this;omega
 subst hil
 rw [List.take_length]
 rw [List.take_length] at hok
 clear h
 repeat' (first|refine go ?_|refine ak ?_|refine HF a1 F8 ?_|(apply bD;refine bf ?_)|fail)
 refine gD (fr':=[(47,.fn 51 [.iptr [fg p]]),(2,.iptr (cf f)),(8,.iptr [fg p])]) (L':=dp p b f.Lookups.length k (cg f.Lookups.length [] (pm fs f.Features))) ⟨rfl,rfl,rfl,trivial⟩ (fun _ _ h=>h.sublist (List.sublist_cons_self ..)) ?_
 refine gK (ps:=[48]) rfl fun σ0 l db rec hrec=>?_
 have hy:∀(i:Nat) (x:List Int×Option (Nat×Nat)) (z:Int),(i≤x.1.length∧cE f.Lookups.length x.1∧fW f fs x.1 i)→x.1[i]?=some z→AY Tryz.prog σ0 l [aH z] (dp p b f.Lookups.length x.2 x.1++([(db,ec)]++[(l,eH rec)])) fun c L=>c=c9 true∧∃x':List Int×Option (Nat×Nat),(i+1≤x'.1.length∧cE f.Lookups.length x'.1∧fW f fs x'.1 (i+1))∧L=dp p b f.Lookups.length x'.2 x'.1++([(db,ec)]++[(l,eH rec)]):=by
  rintro i ⟨l1,k1⟩ z ⟨hi1,hok1,hw1⟩ hz
  dsimp only at hi1 hok1 hw1 hz ⊢
  rw [←List.append_assoc]
  refine oo hrec rfl rfl fun B1 hB1=>?_
  repeat' (first|refine go ?_|refine HF a1 F8 ?_)
  refine gL hrec.state ?_
  have hil:=(Hp hz).1
  have hzr:=(hw1.reach z (Hw hz)).in
  obtain ⟨x,hx⟩:∃x,f.Lookups[z.toNat]?=some x:=⟨_,Hz (by omega)⟩
  have hxg:=bA (c:=bF) hx
  repeat' (first|refine go ?_|refine ak ?_|refine HF a1 F8 ?_|(apply aX;first|refine aU a1 ?_|refine aK a1 ?_)|fail)
  have hrr:=By hrec.state hrec.pending
  refine ay rfl (fun h=>?_) (fun h=>?_)
  ·have hK:=Hy h
   repeat' (first|refine go ?_|fail)
   refine kF ?_
   rw [hrr]
   exact ⟨rfl,(l1,k1),⟨hil,hok1,hw1.next hz hx fun e=>absurd e hK⟩,List.append_assoc ..⟩
  have hK:x.Kind=4:=Decidable.not_not.1 (Hx h)
  clear h
  have hRl:=hs.rulesL (Hw hx)
  repeat' (first|refine go ?_|refine ak ?_|refine HF a1 F8 ?_|(apply aX;first|refine aU a1 ?_|refine aK a1 ?_)|fail)
  refine aR [2,8,48,61,62] (α:=List Int×Nat×Option (Nat×Nat)) (fun y=>[(63,aH y.2.1)]) (fun y=>y.2.1≤x.Rules.length∧i < y.1.length∧y.1[i]?=some z∧cE f.Lookups.length y.1∧fW f fs y.1 i∧jx f y.1 (x.Rules.take y.2.1)) (fun y=>dp p b f.Lookups.length y.2.2 y.1++[(db,ec)]++[(l,eH { rec with state:= .busy })]) (fun y=>x.Rules.length - y.2.1) (l1,0,k1) rfl ⟨rfl,trivial⟩ ⟨Nat.zero_le _,hil,hz,hok1,hw1,fun r hr=>by cases hr⟩ (fun _ _ h=>h) ?_
  clear hil hz hok1 hw1 hi1
  rintro ⟨l1,j,k1⟩ ⟨hj,hil,hz,hok1,hw1,hR⟩
  dsimp only at hj hil hz hok1 hw1 hR ⊢
  try dsimp only [Hs,Hr,Hq,Hl]
  repeat' (first|refine go ?_|refine HF a1 F8 ?_)
  refine ay rfl (fun h=>?_) (fun h=>?_)
  ·have hjl:j < x.Rules.length:=by have:=Hy h;simp at this;omega
   obtain ⟨r,hr⟩:∃r,x.Rules[j]?=some r:=⟨_,Hz hjl⟩
   have hrg:=bA (c:=bJ) hr
   have hCl:=hs.calls (Hw hx) (Hw hr)
   clear h
   repeat' (first|refine go ?_|refine ak ?_|refine HF a1 F8 ?_|(apply aX;first|refine aU a1 ?_|refine aK a1 ?_)|(apply aQ;first|refine HH 8 a1 0 HE ?_|refine HH 8 a1 1 HE ?_|refine HH 8 a1 2 HE ?_|refine HH 10 a1 0 HE ?_|refine HH 10 a1 1 HE ?_|refine HH 10 a1 2 HE ?_|refine HH 13 a1 0 HE ?_|refine HH 13 a1 1 HE ?_|refine HH 13 a1 2 HE ?_|refine HH 15 a1 0 HE ?_|refine HH 15 a1 1 HE ?_|refine HH 15 a1 2 HE ?_|refine HG a1 0 HD ?_|refine HG a1 1 HD ?_|refine HG a1 2 HD ?_|refine HG a1 3 HD ?_|fail)|refine bl a1 fun _=>?_|fail)
   refine aR [2,8,48,61,62,63,68,69] (α:=List Int×Nat×Option (Nat×Nat)) (fun y=>[(70,aH y.2.1)]) (fun y=>y.2.1≤r.Calls.length∧i < y.1.length∧y.1[i]?=some z∧cE f.Lookups.length y.1∧fW f fs y.1 i∧jx f y.1 (x.Rules.take j)∧CallsIn f y.1 (r.Calls.take y.2.1)) (fun y=>dp p b f.Lookups.length y.2.2 y.1++[(db,ec)]++[(l,eH { rec with state:= .busy })]) (fun y=>r.Calls.length - y.2.1) (l1,0,k1) rfl ⟨rfl,trivial⟩ ⟨Nat.zero_le _,hil,hz,hok1,hw1,hR,fun c hc=>by cases hc⟩ (fun _ _ h=>h) ?_
   clear hil hz hok1 hw1 hR
   rintro ⟨l1,c,k1⟩ ⟨hc,hil,hz,hok1,hw1,hR,hCs⟩
   dsimp only at hc hil hz hok1 hw1 hR hCs ⊢
   try dsimp only [Hs,Hr,Hq,Hl]
   repeat' (first|refine go ?_|refine HF a1 F8 ?_)
   refine ay rfl (fun h=>?_) (fun h=>?_)
   ·have hcl:c < r.Calls.length:=by have:=Hy h;simp at this;omega
    obtain ⟨q,hq⟩:∃q,r.Calls[c]?=some q:=⟨_,Hz hcl⟩
    have hqg:=bA (c:=fQ) hq
    clear h
    repeat' (first|refine go ?_|refine ak ?_|refine HF a1 F8 ?_|(apply aX;first|refine aU a1 ?_|refine aK a1 ?_)|(apply aQ;first|refine HH 8 a1 0 HE ?_|refine HH 8 a1 1 HE ?_|refine HH 8 a1 2 HE ?_|refine HH 10 a1 0 HE ?_|refine HH 10 a1 1 HE ?_|refine HH 10 a1 2 HE ?_|refine HH 13 a1 0 HE ?_|refine HH 13 a1 1 HE ?_|refine HH 13 a1 2 HE ?_|refine HH 15 a1 0 HE ?_|refine HH 15 a1 1 HE ?_|refine HH 15 a1 2 HE ?_|refine HG a1 0 HD ?_|refine HG a1 1 HD ?_|refine HG a1 2 HD ?_|refine HG a1 3 HD ?_|fail)|refine bl a1 fun _=>?_|(apply bD;refine bf ?_)|fail)
    refine ay rfl (fun h=>?_) (fun h=>?_)
    ·repeat' (first|refine go ?_|refine HF a1 F8 ?_|refine bI a1 ?_|fail)
     refine bb (dp p b f.Lookups.length k1 l1) ([(db,ec)]++[(l,eH { rec with state:= .busy })]) (zL p b f.Lookups.length k1 l1 [q.Lookup] (by omega) hok1) rfl rfl (by rw [←List.append_assoc];exact Ho _) rfl fun c' L1 ⟨k',hL1⟩=>?_
     subst hL1
     rw [←List.append_assoc]
     repeat' (first|refine go ?_|refine HF a1 F8 ?_|(apply aZ;refine aY ?_)|fail)
     have hsub:∀z∈l1,z∈addOne f.Lookups.length l1 q.Lookup:=fun z hz=>lX.2 (Or.inl hz)
     have hge:=uW (m:=f.Lookups.length) (n:=q.Lookup) hz
     refine aF (addOne f.Lookups.length l1 q.Lookup,c+1,k') rfl ⟨by rw [Hv];rfl,trivial⟩ ⟨by dsimp only;omega,(Hp hge).1,hge,hok1.one _,hw1.addOne (.call (hw1.reach z (Hw hz)) hx hK (Hw hr) (Hw hq) h) (by omega),hR.mono hsub,?_⟩ (by dsimp only;omega) (fun _ _ h=>h)
     intro y hy hyn
     dsimp only at hy ⊢
     rw [List.take_add_one,hq] at hy
     rcases Hn hy with hy | hy
     ·exact hsub _ (hCs y hy hyn)
     ·simp at hy
      subst hy
      have:=tv hyn
      exact lX.2 (Or.inr ⟨rfl,this.1,this.2⟩)
    ·repeat' (first|refine go ?_|refine HF a1 F8 ?_|(apply aZ;refine aY ?_)|fail)
     refine aF (l1,c+1,k1) rfl ⟨by rw [Hv];rfl,trivial⟩ ⟨by dsimp only;omega,hil,hz,hok1,hw1,hR,?_⟩ (by dsimp only;omega) (fun _ _ h=>h)
     intro y hy hyn
     dsimp only at hy ⊢
     rw [List.take_add_one,hq] at hy
     rcases Hn hy with hy | hy
     ·exact hCs y hy hyn
     ·simp at hy;subst hy;rw [h] at hyn;cases hyn
   ·have hcl:c=r.Calls.length:=by have:=Hx h;simp at this;omega
    subst hcl
    rw [List.take_length] at hCs
    repeat' (first|refine go ?_|refine HF a1 F8 ?_|(apply aZ;refine aY ?_)|fail)
    refine aF (l1,j+1,k1) rfl ⟨by rw [Hv];rfl,trivial⟩ ⟨by dsimp only;omega,hil,hz,hok1,hw1,fun y hy=>?_⟩ (by dsimp only;omega) (fun _ _ h=>h)
    dsimp only at hy ⊢
    rw [List.take_add_one,hr] at hy
    rcases Hn hy with hy | hy
    ·exact hR y hy
    ·simp at hy;subst hy;exact hCs
  ·have hjl:j=x.Rules.length:=by have:=Hx h;simp at this;omega
   subst hjl
   rw [List.take_length] at hR
   repeat' (first|refine go ?_|fail)
   refine kF ?_
   rw [hrr]
   exact ⟨rfl,(l1,k1),⟨hil,hok1,hw1.next hz hx fun _=>hR⟩,List.append_assoc ..⟩
 have hp:=Bq (n:=f.Lookups.length) (α:=List Int×Option (Nat×Nat)) (·.1) (·.2) (fun _=>[(db,ec)]++[(l,eH rec)]) (fun i x=>i≤x.1.length∧cE f.Lookups.length x.1∧fW f fs x.1 i) (by omega) (fun i x hj=>⟨hj.1,hj.2.1.len⟩) hy (_,k) ⟨Nat.zero_le _,hok,fW.start2⟩
 dsimp only at hp
 rw [←List.append_assoc] at hp
 refine ⟨_,hp,?_⟩
 ·rintro c L' ⟨⟨l1,k1⟩,⟨_,hok1,hw1⟩,hL'⟩
  dsimp only at hok1 hw1 hL'
  refine ⟨rec,dp p b f.Lookups.length k1 l1++[(db,ec)],by rw [hL',List.append_assoc],(by rw [hrec.state];intro e;cases e),?_⟩
  rw [hrec.pending]
  show AX _ _ _ _ _ _ _ _
  repeat' (first|refine go ?_|refine HF a1 F8 ?_)
  refine bb (dp p b f.Lookups.length k1 l1) [(db,ec)] (BD p b f.Lookups.length k1 l1 (by have:=hok1.len;omega)) rfl rfl (Ho _) rfl fun c L1 ⟨hc,hL1⟩=>?_
  subst hc;subst hL1
  rw [qy hok1,hw1.end]
  repeat' (first|refine go ?_|refine HF a1 F8 ?_)
  exact fG [db] (dp p b f.Lookups.length k1 l1) rfl (Ho _) (cs:=[.imm 1 (aS (dT f fs))]) (show bY _ 4=some _∧True from ⟨rfl,trivial⟩) rfl
end Go.Proofs.YtpbinloeemebkaaGreat
namespace Go.Proofs.YtpbinloeemebkaaGreat
open Go.RowKit
attribute [local irreducible] AT bO AX AO Av Kt bo dU DA cT
def zp (n:Nat) (l:List Int) (z:Int):Bool:=decide (0≤z∧z < n) && l.contains z
theorem DP (p b n:Nat) (k:Option (Nat×Nat)) (l:List Int) (z:Int):AC Tryz.prog 47 [fg p,aH z] (bg p b n k l) fun c L=>c=c9 (zp n l z)∧L=bg p b n k l:=by
 refine aT Tryz.func47 rfl Tryz.ntmps47 rfl fun B=>?_
 unfold zp
 by_cases h0:0≤z
 ·by_cases h1:z < n
  ·have hfg:=nK l n h0 h1
   rw [decide_eq_true (And.intro h0 h1)]
   unfold bg
   repeat' (first|refine go ?_|refine HF a1 F8 ?_)
   rw [decide_eq_true h0]
   repeat' (first|refine HF a1 F8 ?_|refine HO F8 ?_|(apply bh;first|refine HJ a1 0 HC ?_|refine HJ a1 1 HC ?_|refine HJ a1 2 HC ?_|refine HJ a1 3 HC ?_|refine HK a1 0 HC ?_|refine HK a1 1 HC ?_|refine HK a1 2 HC ?_|refine HM a1 1 HA (by assumption) rfl ?_|refine HM a1 0 HA (by assumption) rfl ?_|fail)|fail)
   rw [decide_eq_true h1]
   repeat' (first|refine go ?_|refine HF a1 F8 ?_|refine HO F8 ?_|(apply bh;first|refine HJ a1 0 HC ?_|refine HJ a1 1 HC ?_|refine HJ a1 2 HC ?_|refine HJ a1 3 HC ?_|refine HK a1 0 HC ?_|refine HK a1 1 HC ?_|refine HK a1 2 HC ?_|refine HM a1 1 HA (by assumption) rfl ?_|refine HM a1 0 HA (by assumption) rfl ?_|fail)|(apply aX;first|refine aU a1 ?_|refine aK a1 ?_)|fail)
   exact HN F8 ⟨rfl,rfl⟩
  ·rw [decide_eq_false (fun h=>h1 h.2)]
   unfold bg
   repeat' (first|refine go ?_|refine HF a1 F8 ?_)
   rw [decide_eq_true h0]
   repeat' (first|refine HF a1 F8 ?_|refine HO F8 ?_|(apply bh;first|refine HJ a1 0 HC ?_|refine HJ a1 1 HC ?_|refine HJ a1 2 HC ?_|refine HJ a1 3 HC ?_|refine HK a1 0 HC ?_|refine HK a1 1 HC ?_|refine HK a1 2 HC ?_|refine HM a1 1 HA (by assumption) rfl ?_|refine HM a1 0 HA (by assumption) rfl ?_|fail)|fail)
   rw [decide_eq_false h1]
   repeat' (first|refine go ?_|refine HF a1 F8 ?_|refine HS HB ?_)
   exact HN F8 ⟨rfl,rfl⟩
 ·rw [decide_eq_false (fun h=>h0 h.1)]
  unfold bg
  repeat' (first|refine go ?_|refine HF a1 F8 ?_)
  rw [decide_eq_false h0]
  repeat' (first|refine go ?_|refine HF a1 F8 ?_|refine HS HB ?_)
  exact HN F8 ⟨rfl,rfl⟩
theorem EJ {g:FuncId} {caps:List AV} {u:AV} [bK Tryz.prog g] (hu:jL u=some (g,caps)) (l:List Int) (p:Int→Bool) (L0:AL) (hw:∀z,AC Tryz.prog g ([aH z]++caps) L0 fun c L'=>c=c9 (p z)∧L'=L0):AC Tryz.prog 192 [.imm 1 (aS l),u] L0 fun c L=>(∃z:Int,c=aH z∧(0≤z↔l.any p=true))∧L=L0:=by
 refine aT Tryz.func192 rfl Tryz.ntmps192 rfl fun B=>?_
 have hll:=aN l
 refine cF 0 rfl rfl fun hlen=>?_
 rw [aN] at hlen
 repeat' (first|refine go ?_|refine ak ?_|refine HF a1 F8 ?_)
 refine aR [0,1,7] (α:=Nat) (fun i=>[(8,aH i)]) (fun i=>i≤l.length∧(l.take i).any p=false) (fun _=>L0) (fun i=>l.length - i) 0 rfl ⟨rfl,trivial⟩ ⟨Nat.zero_le _,by simp⟩ (fun _ _ h=>h) fun i ⟨hi,ha⟩=>?_
 try dsimp only [Hs,Hr,Hq,Hl]
 repeat' (first|refine go ?_|refine HF a1 F8 ?_)
 refine ay rfl (fun h=>?_) (fun h=>?_)
 ·have hil:i < l.length:=by have:=Hy h;rw [aN] at this;omega
  obtain ⟨z,hz⟩:∃z,l[i]?=some z:=⟨_,Hz hil⟩
  have hzg:=bG hz
  repeat' (first|refine go ?_|refine ak ?_|refine HF a1 F8 ?_|(apply aX;first|refine aU a1 ?_|refine aK a1 ?_)|fail)
  refine df L0 [] (hw z) rfl hu rfl (bB rfl) rfl rfl fun c L1 ⟨hc,hL⟩=>?_
  subst hc;subst hL
  rw [List.append_nil]
  repeat' (first|refine go ?_|fail)
  refine ay rfl (fun h2=>?_) (fun h2=>?_)
  ·repeat' (first|refine go ?_|refine HF a1 F8 ?_)
   refine HN F8 ⟨⟨i,rfl,?_⟩,rfl⟩
   exact ⟨fun _=>List.any_eq_true.2 ⟨z,Hw hz,h2⟩,fun _=>by omega⟩
  ·repeat' (first|refine go ?_|refine HF a1 F8 ?_|(apply aZ;refine aY ?_)|fail)
   refine aF (i+1) rfl ⟨by rw [Hv];rfl,trivial⟩ ⟨by omega,?_⟩ (by omega) (fun _ _ h=>h)
   rw [List.take_add_one,hz,List.any_append,ha]
   simpa using h2
 ·have hil:i=l.length:=by have:=Hx h;rw [aN] at this;omega
  subst hil
  rw [List.take_length] at ha
  repeat' (first|refine go ?_|refine HF a1 F8 ?_)
  refine HN F8 ⟨⟨-1,rfl,?_⟩,rfl⟩
  rw [ha]
  exact ⟨fun h=>absurd h (by decide),fun h=>by cases h⟩
theorem y0 {g:FuncId} {caps:List AV} {u:AV} [bK Tryz.prog g] (hu:jL u=some (g,caps)) (l:List Int) (p:Int→Bool) (L0:AL) (hw:∀z,AC Tryz.prog g ([aH z]++caps) L0 fun c L'=>c=c9 (p z)∧L'=L0):AC Tryz.prog 114 [.imm 1 (aS l),u] L0 fun c L=>c=c9 (l.any p)∧L=L0:=by
 refine aT Tryz.func114 rfl Tryz.ntmps114 rfl fun B=>?_
 repeat' (first|refine go ?_|refine HF a1 F8 ?_)
 refine bb L0 [] (EJ hu l p L0 hw) rfl (fm hu) (bB rfl) rfl fun c L1 ⟨⟨z,hc,hz⟩,hL⟩=>?_
 subst hc;subst hL
 rw [List.append_nil]
 repeat' (first|refine go ?_|refine HF a1 F8 ?_)
 refine HN F8 ⟨?_,rfl⟩
 refine congrArg (fun b=>c9 b) ?_
 rw [Bool.eq_iff_iff,decide_eq_true_eq]
 exact hz
end Go.Proofs.YtpbinloeemebkaaGreat
namespace Go.Proofs.YtpbinloeemebkaaGreat
open Go.RowKit
attribute [local irreducible] AT bO AX AO Av Kt bo dU DA cT
open Go.MapKept
abbrev KJ:TypeDesc:= .int .i64
def iZ (l:List Int):Value→Option AV
 | .int .i64 z=>if z∈l then some (c9 true) else none
 | _=>none
theorem wo:(fun _=>none)=iZ []:=by
 funext v
 unfold iZ
 split <;> simp
theorem wn {l:List Int} {i:Nat} {z:Int} (h:l[i]?=some z):iZ (l.take (i+1)) (.int .i64 z)=some (c9 true):=by
 unfold iZ
 simp only
 rw [if_pos (by rw [List.take_add_one,h];simp)]
theorem uw {l:List Int} {i:Nat} {z:Int} (h:l[i]?=some z) (q:Value) (hq:q≠ .int .i64 z):iZ (l.take (i+1)) q=iZ (l.take i) q:=by
 unfold iZ
 split
 ·rename_i t
  have hne:t≠z:=fun e=>hq (by rw [e])
  rw [List.take_add_one,h]
  simp [hne]
 ·rfl
def u5 (f:aL) (n:Int):Bool:=match f.Glyphs[n.toNat]? with | some g=>g.Mark | none=>false
end Go.Proofs.YtpbinloeemebkaaGreat
