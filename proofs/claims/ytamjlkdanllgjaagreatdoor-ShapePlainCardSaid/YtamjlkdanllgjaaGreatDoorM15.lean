/-
  The program: looks at glyphs, features, axes by their numbers.
-/
import Derived.Test.YtamjlkdanllgjaaGreatDoorM14
import Derived.Test.YtamjlkdanllgjaaGreatDoorM07
namespace Go.Proofs.YtamjlkdanllgjaaGreatDoor
open Go.RowKit
attribute [local irreducible] AT bB AX AO Av Kt ba dt DA cz
set_option maxRecDepth 8000
theorem kJ (names:List ByteArray) (s:ByteArray):(cK names (.string s)).getD (.sc (.int .i64 0))=aH ((d6 names s).getD 0:Nat):=by
 show (Option.map (fun n:Nat=>aH (n:Int)) (d6 names s)).getD (.sc (.int .i64 0))=_
 cases d6 names s <;> rfl
def kc (names:List ByteArray) (i:Nat) (s:ByteArray):Bool:=decide ((((d6 names s).getD 0:Nat):Int) < (i:Int))
def jT (f:aV):List ByteArray:=f.Glyphs.map bf.Name
def l6 (f:aV):List ByteArray:=f.Features.map bN.Name
def ir (f:aV):List ByteArray:=f.Axes.map ey.Name
def eD (f:aV) (i:Nat) (g:bf):Int:=nN f g (kI (gi g.Name) (kc (jT f) i g.Name))
def iR (f:aV) (i:Nat) (t:bN):Int:=uN f t (kI (fj t.Name) (kc (l6 f) i t.Name))
def jK (f:aV) (i:Nat) (a:ey):Int:=uB a (kI (gi a.Name) (kc (ir f) i a.Name))
set_option maxHeartbeats 1000000 in
theorem wO (f:aV) (i:Nat) (g:bf) (m:Nat):AC Tryz.prog 108 [aH i,.agg (bj g),.iptr (c6 f),.iptr [.sc (.map (some m))]] [(m,ca .string (cK (jT f)))] fun c L=>c=aH (eD f i g)∧L=[(m,ca .string (cK (jT f)))]:=by
 refine aP Tryz.func108 rfl Tryz.ntmps108 rfl fun B=>?_
 repeat' (first|refine ae ?_|refine a6 ?_|refine a8 ?_|refine aa ?_|refine LF a7 I9 ?_|refine bo ?_|fail)
 refine bI 12 [(0,.v),(1,.v),(2,.v),(3,.v),(4,.v),(5,.v),(6,.v),(7,.v),(9,.v),(8,.e),(10,.v),(11,.v)] none ?_ trivial rfl (by kernel_rfl) (by kernel_rfl) (by kernel_rfl) mixed (by kernel_rfl) rfl
 repeat' (first|refine aF ?_|refine b9 a7 ?_|(apply du;refine dT ?_)|fail)
 refine mC 0 (.int .i64 0) Tryz.underlying196 Tryz.underlying9 rfl rfl trivial rfl (by kernel_rfl) trivial ?_
 rw [kJ]
 repeat' (first|refine aF ?_|refine b9 a7 ?_|(apply du;refine dT ?_)|fail)
 refine LP [7,8,18] I9 ?_
 repeat' (first|refine aq ?_|refine a8 ?_|refine aa ?_|refine LF a7 I9 ?_|(apply bw;refine bi ?_)|fail)
 exact LM I9 ⟨rfl,rfl⟩
set_option maxHeartbeats 1000000 in
theorem zF (f:aV) (i:Nat) (t:bN) (m:Nat):AC Tryz.prog 121 [aH i,.agg (bE t),.iptr (c6 f),.iptr [.sc (.map (some m))]] [(m,ca .string (cK (l6 f)))] fun c L=>c=aH (iR f i t)∧L=[(m,ca .string (cK (l6 f)))]:=by
 refine aP Tryz.func121 rfl Tryz.ntmps121 rfl fun B=>?_
 repeat' (first|refine ae ?_|refine a6 ?_|refine a8 ?_|refine aa ?_|refine LF a7 I9 ?_|refine bo ?_|fail)
 refine bI 12 [(0,.v),(1,.v),(2,.v),(3,.v),(4,.v),(5,.v),(6,.v),(7,.v),(9,.v),(8,.e),(10,.v),(11,.v)] none ?_ trivial rfl (by kernel_rfl) (by kernel_rfl) (by kernel_rfl) mixed (by kernel_rfl) rfl
 repeat' (first|refine aF ?_|refine b9 a7 ?_|(apply du;refine dT ?_)|fail)
 refine mC 0 (.int .i64 0) Tryz.underlying196 Tryz.underlying9 rfl rfl trivial rfl (by kernel_rfl) trivial ?_
 rw [kJ]
 repeat' (first|refine aF ?_|refine b9 a7 ?_|(apply du;refine dT ?_)|fail)
 refine LP [7,8,18] I9 ?_
 repeat' (first|refine aq ?_|refine a8 ?_|refine aa ?_|refine LF a7 I9 ?_|(apply bw;refine bi ?_)|fail)
 exact LM I9 ⟨rfl,rfl⟩
set_option maxHeartbeats 1000000 in
theorem zb (f:aV) (i:Nat) (a:ey) (m:Nat):AC Tryz.prog 125 [aH i,.agg (cG a),.iptr [.sc (.map (some m))]] [(m,ca .string (cK (ir f)))] fun c L=>c=aH (jK f i a)∧L=[(m,ca .string (cK (ir f)))]:=by
 refine aP Tryz.func125 rfl Tryz.ntmps125 rfl fun B=>?_
 repeat' (first|refine ae ?_|refine a6 ?_|refine a8 ?_|refine aa ?_|refine LF a7 I9 ?_|refine bo ?_|fail)
 refine bI 11 [(0,.v),(1,.v),(2,.v),(3,.v),(4,.v),(5,.v),(6,.v),(8,.v),(7,.e),(9,.v),(10,.v)] none ?_ trivial rfl (by kernel_rfl) (by kernel_rfl) (by kernel_rfl) mixed (by kernel_rfl) rfl
 repeat' (first|refine aF ?_|refine b9 a7 ?_|(apply du;refine dT ?_)|fail)
 refine mC 0 (.int .i64 0) Tryz.underlying196 Tryz.underlying9 rfl rfl trivial rfl (by kernel_rfl) trivial ?_
 rw [kJ]
 repeat' (first|refine aF ?_|refine b9 a7 ?_|(apply du;refine dT ?_)|fail)
 refine LP [6,16] I9 ?_
 repeat' (first|refine aq ?_|refine a8 ?_|refine aa ?_|refine LF a7 I9 ?_|(apply bw;refine bi ?_)|fail)
 exact LM I9 ⟨rfl,rfl⟩
set_option maxRecDepth 8000
theorem Fc (n:Nat) (hn:n≤1000000):AC Tryz.prog 316 [.sc (.slice none 0 0),aH n] [] fun c L=>∃k,c= .vec k 1 []∧L=tok k 22 1 0:=by
 refine aP Tryz.func316 rfl Tryz.ntmps316 rfl fun B=>?_
 repeat' (first|refine ae ?_|refine a6 ?_|refine au ?_|refine a8 ?_|refine aa ?_|refine LF a7 I9 ?_|refine bk rfl ?_)
 refine CT a7 rfl rfl rfl ?_
 repeat' (first|refine ae ?_|refine a6 ?_|refine a8 ?_|refine aa ?_|refine LF a7 I9 ?_|(apply aY;refine aX ?_)|fail)
 by_cases h0:n=0
 ·subst h0
  repeat' (first|refine ae ?_|refine a6 ?_|refine au ?_|refine aq ?_|refine a8 ?_|refine aa ?_|refine LF a7 I9 ?_|refine bk rfl ?_)
  refine b6 (bA (t:=4) (c':= .vec none 1 []) rfl fun σ v h=>cC 1 h) (LM I9 ⟨none,rfl,rfl⟩)
 ·refine ay rfl (fun h2=>?_) (fun h2=>?_)
  ·repeat' (first|refine a6 ?_|refine LF a7 I9 ?_)
   refine CT a7 rfl rfl rfl ?_
   repeat' (first|fail)
   refine HN a7 rfl rfl rfl rfl ?_
   repeat' (first|refine LF a7 I9 ?_)
   refine A8 a7 n rfl Tryz.underlying3 rfl rfl (by omega) (by omega) (by omega) (by omega) rfl fun b cap h3 h4=>?_
   repeat' (first|refine LF a7 I9 ?_)
   refine CV a7 0 rfl rfl rfl rfl (by omega) (by omega) rfl ?_
   repeat' (first|refine ae ?_|refine a6 ?_|refine aq ?_|refine a8 ?_|refine aa ?_|refine LF a7 I9 ?_)
   refine b6 (bA (t:=4) (c':= .vec (some (b,cap)) 1 []) rfl fun σ v h=>G4 h4 h) (LM I9 ⟨some (b,cap),rfl,rfl⟩)
  ·exact absurd (Lw h2) (by omega)
def r9 (l:List (List (List Int))):List (List AV):=l.map fun r=>[.imm 1 (aZ r)]
def gM (l:List (List (List Int))):Nat:=(l.map List.length).sum
theorem oX {l:List (List (List Int))} {i:Nat} {r:List (List Int)} (h:l[i]?=some r):gM (l.take (i+1))=gM (l.take i)+r.length:=by
 unfold gM
 rw [List.take_add_one,h]
 simp
theorem sU (l:List (List (List Int))) (i:Nat):gM (l.take i)≤gM l:=by
 have h:((l.take i++l.drop i).map List.length).sum=(l.map List.length).sum:=by rw [List.take_append_drop]
 rw [List.map_append,List.sum_append] at h
 unfold gM
 omega
theorem Cf (l:List (List (List Int))):l.flatten.length=gM l:=by
 unfold gM
 rw [List.length_flatten]
theorem Aw (a b:List (List Int)):aZ a++aZ b=aZ (a++b):=by unfold aZ;rw [List.map_append]
set_option maxHeartbeats 1000000 in
theorem wA (l:List (List (List Int))) (hs:gM l≤1000000):bH Tryz.prog 262 [.imm 1 (r9 l)] (.imm 1 (aZ l.flatten)):=by
 refine aP Tryz.func262 rfl Tryz.ntmps262 rfl fun B=>?_
 have hrl:(r9 l).length=l.length:=by simp [r9]
 refine d7 0 rfl rfl fun hlen=>?_
 rw [hrl] at hlen
 repeat' (first|refine ae ?_|refine a6 ?_|refine am ?_|refine a8 ?_|refine aa ?_|refine LF a7 I9 ?_)
 refine aJ [0,9,10] (α:=Nat) (fun i=>[(11,aH i),(3,aH (gM (l.take i)))]) (fun i=>i≤l.length) (fun _=>[]) (fun i=>l.length - i) 0 rfl ⟨rfl,rfl,trivial⟩ (Nat.zero_le _) (fun _ _ h=>h) fun i hi=>?_
 try dsimp only [Lp,Lo,Ln,Lh]
 repeat' (first|refine ae ?_|refine a6 ?_|refine a8 ?_|refine aa ?_|refine LF a7 I9 ?_)
 refine ay rfl (fun h=>?_) (fun h=>?_)
 ·have hil:i < l.length:=by have:=Ly h;rw [hrl] at this;omega
  obtain ⟨z,hz⟩:∃z,l[i]?=some z:=⟨_,Lz hil⟩
  have hzg:(r9 l)[i]?=some [.imm 1 (aZ z)]:=by simp [r9,hz]
  have hsz:=oX hz
  have hle:=sU l (i+1)
  have hzl:(aZ z).length=z.length:=by simp [aZ]
  repeat' (first|refine ae ?_|refine a6 ?_|refine am ?_|refine au ?_|refine a8 ?_|refine aM ?_|refine aa ?_|refine LF a7 I9 ?_|(apply aY;refine aX ?_)|(apply aU;first|refine aT a7 ?_|refine aN a7 ?_)|refine bk rfl ?_)
  exact aE (i+1) rfl ⟨by rw [Ls];rfl,by rw [hsz,Ls,hzl];rfl,trivial⟩ (by omega) (by omega) (fun _ _ h=>h)
 have hil:i=l.length:=by have:=Lw h;rw [hrl] at this;omega
 subst hil
 rw [List.take_length]
 clear h
 repeat' (first|refine ae ?_|refine a6 ?_|refine aL ?_|refine a8 ?_|refine av ?_|refine aA ?_|refine aw ?_|refine LF a7 I9 ?_)
 refine bh [] [] (Fc (gM l) hs) rfl rfl (Ll _) rfl fun c L1 ⟨k,hc,hL⟩=>?_
 subst hc;subst hL
 rw [List.append_nil]
 repeat' (first|refine ae ?_|refine a6 ?_|refine am ?_|refine a8 ?_|refine aa ?_|refine LF a7 I9 ?_)
 refine aJ [25,26] (α:=Nat×Option (Nat×Nat)) (fun x=>[(27,aH x.1),(6,.vec x.2 1 (aZ (l.take x.1).flatten))]) (fun x=>x.1≤l.length) (fun x=>tok x.2 22 1 (aZ (l.take x.1).flatten).length) (fun x=>l.length - x.1) (0,k) rfl ⟨rfl,rfl,trivial⟩ (Nat.zero_le _) (fun _ _ h=>h) ?_
 rintro ⟨i,k⟩ hi
 dsimp only at hi ⊢
 try dsimp only [Lp,Lo,Ln,Lh]
 repeat' (first|refine ae ?_|refine a6 ?_|refine a8 ?_|refine aa ?_|refine LF a7 I9 ?_)
 refine ay rfl (fun h=>?_) (fun h=>?_)
 ·have hil:i < l.length:=by have:=Ly h;rw [hrl] at this;omega
  obtain ⟨z,hz⟩:∃z,l[i]?=some z:=⟨_,Lz hil⟩
  have hzg:(r9 l)[i]?=some [.imm 1 (aZ z)]:=by simp [r9,hz]
  have hsz:=oX hz
  have hle:=sU l (i+1)
  have hzl:(aZ z).length=z.length:=by simp [aZ]
  have hfl:(aZ (l.take i).flatten).length=gM (l.take i):=by rw [cw,Cf]
  have hcat:aZ (l.take i).flatten++aZ z=aZ (l.take (i+1)).flatten:=by rw [Aw,List.take_add_one,hz];simp
  repeat' (first|refine ae ?_|refine a6 ?_|refine am ?_|refine au ?_|refine a8 ?_|refine aa ?_|refine LF a7 I9 ?_|(apply aU;first|refine aT a7 ?_|refine aN a7 ?_)|fail)
  refine bP a7 [] rfl rfl rfl rfl (by rw [List.append_nil]) (by rw [hfl,hzl];omega) (by rw [hfl,hzl];omega) rfl fun k'=>?_
  rw [hcat,List.append_nil]
  repeat' (first|refine a6 ?_|refine a8 ?_|refine aM ?_|refine aa ?_|refine LF a7 I9 ?_|(apply aY;refine aX ?_)|fail)
  exact aE (i+1,k') rfl ⟨by rw [Ls];rfl,rfl,trivial⟩ (by dsimp only;omega) (by dsimp only;omega) (fun _ _ h=>h)
 ·have hil:i=l.length:=by have:=Lw h;rw [hrl] at this;omega
  subst hil
  rw [List.take_length]
  repeat' (first|refine ae ?_|refine a6 ?_|refine aq ?_|refine aL ?_|refine a8 ?_|refine av ?_|refine aA ?_|refine aw ?_|refine aa ?_|refine LF a7 I9 ?_)
  exact BL rfl rfl rfl rfl
set_option maxRecDepth 8000
def k7 (l:List Int):Bool:=decide (∀i,i < l.length - 1→l.getD i 0 < l.getD (i+1) 0)
theorem kP {l:List Int} {i:Nat} {z:Int} (h:l[i]?=some z):l.getD i 0=z:=by simp [h]
theorem xi (l:List Int):bH Tryz.prog 317 [.imm 1 (aO l)] (cQ (k7 l)):=by
 refine aP Tryz.func317 rfl Tryz.ntmps317 rfl fun B=>?_
 refine d7 0 rfl rfl fun hlen=>?_
 have hll:=aW l
 rw [aW] at hlen
 repeat' (first|refine ae ?_|refine a6 ?_|refine am ?_|refine a8 ?_|refine aa ?_|refine LF a7 I9 ?_)
 refine aJ [0] (α:=Nat) (fun i=>[(3,aH (i+1:Nat))]) (fun i=>i≤l.length∧∀j,j < i→j+1 < l.length→l.getD j 0 < l.getD (j+1) 0) (fun _=>[]) (fun i=>l.length - i) 0 rfl ⟨rfl,trivial⟩ ⟨Nat.zero_le _,fun j hj=>absurd hj (Nat.not_lt_zero _)⟩ (fun _ _ h=>h) fun i ⟨hi,hall⟩=>?_
 try dsimp only [Lp,Lo,Ln,Lh]
 repeat' (first|refine ae ?_|refine a6 ?_|refine a8 ?_|refine aa ?_|refine LF a7 I9 ?_)
 refine ay rfl (fun h=>?_) (fun h=>?_)
 ·have hil:i+1 < l.length:=by have:=Ly h;rw [aW] at this;omega
  obtain ⟨y,hy⟩:∃z,l[i]?=some z:=⟨_,Lz (by omega)⟩
  obtain ⟨z,hz⟩:∃z,l[i+1]?=some z:=⟨_,Lz hil⟩
  have hyg:(aO l)[(((i+1:Nat):Int) - 1).toNat]?=some [aH y]:=by rw [show (((i+1:Nat):Int) - 1).toNat=i by omega];exact bO hy
  have hzg:=bO hz
  repeat' (first|refine ae ?_|refine am ?_|refine au ?_|refine a8 ?_)
  refine bI 9 [(0,.v),(1,.v),(2,.v),(3,.v),(4,.v),(5,.v),(6,.v),(7,.v),(8,.v)] none ?_ trivial rfl (by kernel_rfl) (by kernel_rfl) (by kernel_rfl) mixed (by kernel_rfl) rfl
  repeat' (first|refine aF ?_|refine b9 a7 ?_|(apply eA;refine fX ?_)|(apply cE;refine d5 a7 ?_)|fail)
  refine LP [0,3,13,18] I9 ?_
  repeat' (first|refine a8 ?_|refine aa ?_|refine LF a7 I9 ?_)
  refine ay rfl (fun h2=>?_) (fun h2=>?_)
  ·have h2':=Ly h2
   repeat' (first|refine ae ?_|refine a6 ?_|refine aq ?_|refine a8 ?_|refine aC ?_|refine aQ ?_|refine bM ?_|refine aa ?_|refine LF a7 I9 ?_)
   refine LM I9 ?_
   rw [show k7 l=false from decide_eq_false (fun hh=>by have:=hh i (by omega);rw [kP hy,kP hz] at this;omega)]
  ·have h2':=Lw h2
   repeat' (first|refine a6 ?_|refine au ?_|refine a8 ?_|refine aM ?_|refine aa ?_|refine LF a7 I9 ?_|(apply aY;refine aX ?_)|fail)
   refine aE (i+1) rfl ⟨by rw [Ls (i+1) 1];rfl,trivial⟩ ⟨by omega,fun j hj hjl=>?_⟩ (by omega) (fun _ _ h=>h)
   by_cases e:j=i
   ·subst e;rw [kP hy,kP hz];omega
   ·exact hall j (by omega) hjl
 ·have hil:l.length≤i+1:=by have:=Lw h;rw [aW] at this;omega
  repeat' (first|refine ae ?_|refine a6 ?_|refine aq ?_|refine aL ?_|refine a8 ?_|refine av ?_|refine aA ?_|refine aw ?_|refine aa ?_|refine LF a7 I9 ?_)
  refine LM I9 ?_
  rw [show k7 l=true from decide_eq_true (fun j hj=>hall j (by omega) (by omega))]
instance (l:List Int):AD Tryz.prog 317 [.imm 1 (aO l)] (cQ (k7 l)):=⟨xi l⟩
def m6 (f:aV) (l:List Int):Bool:=decide (0 < l.length) && (k7 l && (kS f (l.getD 0 0) && kS f (l.getD (l.length - 1) 0)))
set_option maxHeartbeats 1000000 in
theorem zS (f:aV) (l:List Int):bH Tryz.prog 264 [cD f,.imm 1 (aO l)] (cQ (m6 f l)):=by
 refine aP Tryz.func264 rfl Tryz.ntmps264 rfl fun B=>?_
 refine d7 1 rfl rfl fun hlen=>?_
 cases l with
 | nil=>
  repeat' (first|refine ae ?_|refine a6 ?_|refine a8 ?_|refine aa ?_|refine LF a7 I9 ?_|refine bo ?_|fail)
  refine bI 24 [(0,.v),(1,.v),(2,.v),(3,.v),(4,.v),(5,.v),(6,.v),(7,.v),(8,.v),(9,.v),(10,.v),(11,.v),(12,.v),(13,.v),(14,.v),(15,.v),(16,.v),(17,.v),(18,.v),(19,.v),(20,.v),(21,.v),(22,.v),(23,.v)] none ?_ trivial rfl (by kernel_rfl) (by kernel_rfl) (by kernel_rfl) mixed (by kernel_rfl) rfl
  repeat' (first|refine aF ?_|refine b9 a7 ?_|refine qj rfl rfl ?_)
  refine LP [28] I9 ?_
  repeat' (first|refine aq ?_|refine a8 ?_|refine aa ?_|refine LF a7 I9 ?_)
  exact LK LA
 | cons y q=>
  have hll:(aO (y::q)).length=q.length+1:=by rw [aW];rfl
  rw [hll] at hlen
  obtain ⟨z,hz⟩:∃z,(y::q)[q.length]?=some z:=⟨_,Lz (by simp)⟩
  have hzg:(aO (y::q))[((((aO (y::q)).length:Nat):Int) - 1).toNat]?=some [aH z]:=by rw [show ((((aO (y::q)).length:Nat):Int) - 1).toNat=q.length by rw [hll];omega];exact bO hz
  have hyg:(aO (y::q))[(0:Int).toNat]?=some [aH y]:=rfl
  have hval:m6 f (y::q)=(k7 (y::q) && (kS f y && kS f z)):=by
   unfold m6
   rw [show (y::q).length - 1=q.length by simp,kP hz]
   simp
  rw [hval]
  have hpos:decide (0 < (((aO (y::q)).length:Nat):Int))=true:=decide_eq_true (by rw [hll];omega)
  repeat' (first|refine ae ?_|refine a6 ?_|refine a8 ?_|refine aa ?_|refine LF a7 I9 ?_|refine bo ?_|fail)
  refine bI 24 [(0,.v),(1,.v),(2,.v),(3,.v),(4,.v),(5,.v),(6,.v),(7,.v),(8,.v),(9,.v),(10,.v),(11,.v),(12,.v),(13,.v),(14,.v),(15,.v),(16,.v),(17,.v),(18,.v),(19,.v),(20,.v),(21,.v),(22,.v),(23,.v)] none ?_ trivial rfl (by kernel_rfl) (by kernel_rfl) (by kernel_rfl) mixed (by kernel_rfl) rfl
  repeat' (first|refine aF ?_|refine b9 a7 ?_|fail)
  rw [hpos]
  repeat' (first|refine aF ?_|refine b9 a7 ?_|(apply du;refine dT ?_)|fail)
  generalize k7 (y::q)=b1
  cases b1
  ·repeat' (first|refine aF ?_|refine b9 a7 ?_|refine qj rfl rfl ?_)
   refine LP [28] I9 ?_
   repeat' (first|refine aq ?_|refine a8 ?_|refine aa ?_|refine LF a7 I9 ?_)
   exact LK LA
  repeat' (first|refine aF ?_|refine b9 a7 ?_|(apply cE;refine d5 a7 ?_)|(apply du;refine dT ?_)|fail)
  generalize kS f y=b2
  cases b2
  ·repeat' (first|refine aF ?_|refine b9 a7 ?_|refine qj rfl rfl ?_)
   refine LP [28] I9 ?_
   repeat' (first|refine aq ?_|refine a8 ?_|refine aa ?_|refine LF a7 I9 ?_)
   exact LK LA
  repeat' (first|refine aF ?_|refine b9 a7 ?_|(apply eA;refine fX ?_)|(apply cE;refine d5 a7 ?_)|(apply du;refine dT ?_)|fail)
  refine LP [28] I9 ?_
  repeat' (first|refine aq ?_|refine a8 ?_|refine aa ?_|refine LF a7 I9 ?_)
  exact LK LA
instance (f:aV) (l:List Int):AD Tryz.prog 264 [cD f,.imm 1 (aO l)] (cQ (m6 f l)):=⟨zS f l⟩
def eX (kind:Int) (r:bz):Bool:=if kind=1∨kind=2∨kind=5 then decide ((r.In.length:Int)≠1) else if kind=6 then decide ((r.In.length:Int)≠2∨(r.Back.length:Int) > 0∨(r.Ahead.length:Int) > 0) else decide ((r.In.length:Int)=0)
def lL (kind:Int) (r:bz):Int:=if (r.Back.length:Int) > 6∨(r.In.length:Int) > 6∨(r.Ahead.length:Int) > 6 then 2 else dY (eX kind r) 40
set_option maxHeartbeats 1000000 in
theorem Du (kind:Int) (r:bz):bH Tryz.prog 259 [aH kind,.agg (bG r)] (aH (lL kind r)):=by
 refine aP Tryz.func259 rfl Tryz.ntmps259 rfl fun B=>?_
 unfold lL eX
 have hB:=cw r.Back
 have hI:=cw r.In
 have hA:=cw r.Ahead
 rw [←hB,←hI,←hA]
 repeat' (first|refine ae ?_|refine a6 ?_|refine a8 ?_|refine aa ?_|refine LF a7 I9 ?_|refine bo ?_|fail)
 refine cN [0,3] (((aZ r.Back).length:Int) > 6∨((aZ r.In).length:Int) > 6∨((aZ r.Ahead).length:Int) > 6) rfl (fun Q' K=>?_) (fun hC=>?_) (fun hC=>?_)
 ·repeat' (first|refine aa ?_|refine LF a7 I9 ?_|refine LN I9 ?_|refine LO LB ?_|refine bc rfl rfl rfl (fun _=>?_) (fun _=>?_))
  all_goals exact K _ _ rfl rfl (by clear K;grind)
 ·rw [if_pos hC]
  repeat' (first|refine ae ?_|refine a6 ?_|refine aq ?_|refine a8 ?_|refine aC ?_|refine aa ?_|refine LF a7 I9 ?_)
  exact LK LA
 rw [if_neg hC]
 by_cases h1:kind=1
 ·subst h1
  repeat' (first|refine ae ?_|refine a6 ?_|refine am ?_|refine au ?_|refine aq ?_|refine a8 ?_|refine aM ?_|refine aa ?_|refine LF a7 I9 ?_|(apply bw;refine bi ?_)|refine bV rfl ?_)
  exact LK LA
 by_cases h2:kind=2
 ·subst h2
  repeat' (first|refine ae ?_|refine a6 ?_|refine am ?_|refine au ?_|refine aq ?_|refine a8 ?_|refine aM ?_|refine aa ?_|refine LF a7 I9 ?_|(apply bw;refine bi ?_)|refine bV rfl ?_|refine bk rfl ?_)
  exact LK LA
 by_cases h5:kind=5
 ·subst h5
  repeat' (first|refine ae ?_|refine a6 ?_|refine am ?_|refine au ?_|refine aq ?_|refine a8 ?_|refine aM ?_|refine aa ?_|refine LF a7 I9 ?_|(apply bw;refine bi ?_)|refine bV rfl ?_|refine bk rfl ?_)
  exact LK LA
 rw [if_neg (by omega)]
 by_cases h6:kind=6
 ·subst h6
  rw [if_pos rfl]
  repeat' (first|refine ae ?_|refine a6 ?_|refine am ?_|refine au ?_|refine a8 ?_|refine aa ?_|refine LF a7 I9 ?_|refine bV rfl ?_|refine bk rfl ?_)
  refine dx (t:=5) [] (((aZ r.In).length:Int)≠2∨((aZ r.Back).length:Int) > 0∨((aZ r.Ahead).length:Int) > 0) rfl (fun Q' K=>?_) ?_
  ·repeat' (first|refine aa ?_|refine LF a7 I9 ?_|refine LN I9 ?_|refine LO LB ?_|refine bc rfl rfl rfl (fun _=>?_) (fun _=>?_))
   all_goals exact K _ _ rfl rfl (by clear K;grind)
  repeat' (first|refine ae ?_|refine a6 ?_|refine aq ?_|refine a8 ?_|refine aM ?_|refine aa ?_|refine LF a7 I9 ?_|(apply bw;refine bi ?_)|fail)
  exact LK LA
 rw [if_neg h6]
 repeat' (first|refine ae ?_|refine a6 ?_|refine am ?_|refine au ?_|refine a8 ?_|refine aa ?_|refine LF a7 I9 ?_)
 refine ay rfl (fun h=>absurd (Ly h) h1) (fun h=>?_)
 repeat' (first|refine ae ?_|refine a6 ?_|refine a8 ?_|refine aa ?_|refine LF a7 I9 ?_)
 refine ay rfl (fun h=>absurd (Ly h) h2) (fun h=>?_)
 repeat' (first|refine a6 ?_|refine a8 ?_|refine aa ?_|refine LF a7 I9 ?_)
 refine ay rfl (fun h=>absurd (Ly h) h5) (fun h=>?_)
 rw [decide_eq_false h5]
 repeat' (first|refine ae ?_|refine a6 ?_|refine a8 ?_|refine aa ?_|refine LF a7 I9 ?_)
 refine ay rfl (fun h=>absurd (Ly h) h6) (fun h=>?_)
 repeat' (first|refine ae ?_|refine a6 ?_|refine au ?_|refine aq ?_|refine a8 ?_|refine aM ?_|refine aa ?_|refine LF a7 I9 ?_|(apply bw;refine bi ?_)|fail)
 exact LK LA
instance (kind:Int) (r:bz):AD Tryz.prog 259 [aH kind,.agg (bG r)] (aH (lL kind r)):=⟨Du kind r⟩
theorem yG {kind:Int} {r:bz} (h:lL kind r=0):r.In≠[]∧r.Back.length≤6∧r.In.length≤6∧r.Ahead.length≤6:=by
 unfold lL at h
 split at h
 ·cases h
 ·rename_i hc
  refine ⟨fun e=>?_,by omega,by omega,by omega⟩
  have hw:eX kind r=true:=by
   unfold eX
   rw [e]
   split
   ·decide
   ·split <;> simp
  rw [hw] at h
  cases h
def pe (kind:Int) (r:bz):Bool:=if kind=1∨kind=5 then decide ((r.Out.length:Int)=((r.In.headD []).length:Int)) else if kind=2 then decide ((r.Out.length:Int)≤6) else if kind=3 then decide ((r.Out.length:Int)=1) else decide ((r.Out.length:Int)=0)
set_option maxHeartbeats 1000000 in
theorem Fw (kind:Int) (r:bz) (hin:r.In≠[]):bH Tryz.prog 266 [aH kind,.agg (bG r)] (cQ (pe kind r)):=by
 refine aP Tryz.func266 rfl Tryz.ntmps266 rfl fun B=>?_
 obtain ⟨y,hy⟩:∃y,r.In[0]?=some y:=⟨_,Lz (List.length_pos_iff.2 hin)⟩
 have hyg:=jC hy
 have hv:pe kind r=if kind=1∨kind=5 then decide (((aO r.Out).length:Int)=((aO y).length:Int)) else if kind=2 then decide (((aO r.Out).length:Int)≤6) else if kind=3 then decide (((aO r.Out).length:Int)=1) else decide (((aO r.Out).length:Int)=0):=by
  have hd:r.In.headD []=y:=by
   cases hI:r.In with
   | nil=>exact absurd hI hin
   | cons y' q=>rw [hI] at hy;simpa using hy
  unfold pe
  rw [hd,aW,aW]
 rw [hv]
 by_cases h1:kind=1
 ·subst h1
  repeat' (first|refine ae ?_|refine a6 ?_|refine am ?_|refine au ?_|refine a8 ?_|refine aa ?_|refine LF a7 I9 ?_|refine bo ?_|refine bV rfl ?_)
  refine bI 8 [(0,.v),(1,.v),(2,.v),(3,.v),(4,.v),(5,.v),(6,.v),(7,.v)] none ?_ trivial rfl (by kernel_rfl) (by kernel_rfl) (by kernel_rfl) mixed (by kernel_rfl) rfl
  repeat' (first|refine aF ?_|refine b9 a7 ?_|(apply cE;refine d5 a7 ?_)|fail)
  refine LP [11,16] I9 ?_
  repeat' (first|refine aq ?_|refine a8 ?_|refine aC ?_|refine aQ ?_|refine aa ?_|refine LF a7 I9 ?_)
  exact LK LA
 by_cases h5:kind=5
 ·subst h5
  repeat' (first|refine ae ?_|refine a6 ?_|refine am ?_|refine a8 ?_|refine aa ?_|refine LF a7 I9 ?_|refine bo ?_|refine bV rfl ?_|refine bk rfl ?_)
  refine bI 8 [(0,.v),(1,.v),(2,.v),(3,.v),(4,.v),(5,.v),(6,.v),(7,.v)] none ?_ trivial rfl (by kernel_rfl) (by kernel_rfl) (by kernel_rfl) mixed (by kernel_rfl) rfl
  repeat' (first|refine aF ?_|refine b9 a7 ?_|(apply cE;refine d5 a7 ?_)|fail)
  refine LP [11,16] I9 ?_
  repeat' (first|refine aq ?_|refine a8 ?_|refine aC ?_|refine aQ ?_|refine aa ?_|refine LF a7 I9 ?_)
  exact LK LA
 rw [if_neg (by omega)]
 by_cases h2:kind=2
 ·subst h2
  repeat' (first|refine ae ?_|refine a6 ?_|refine am ?_|refine aq ?_|refine a8 ?_|refine aC ?_|refine aQ ?_|refine aa ?_|refine LF a7 I9 ?_|refine bo ?_|refine bV rfl ?_|refine bk rfl ?_)
  exact LK LA
 rw [if_neg h2]
 by_cases h3:kind=3
 ·subst h3
  repeat' (first|refine ae ?_|refine a6 ?_|refine am ?_|refine aq ?_|refine a8 ?_|refine aC ?_|refine aQ ?_|refine aa ?_|refine LF a7 I9 ?_|refine bo ?_|refine bV rfl ?_|refine bk rfl ?_)
  exact LK LA
 rw [if_neg h3]
 repeat' (first|refine ae ?_|refine a6 ?_|refine am ?_|refine a8 ?_|refine aa ?_|refine LF a7 I9 ?_|refine bo ?_|fail)
 refine ay rfl (fun h=>absurd (Ly h) h1) (fun h=>?_)
 repeat' (first|refine a6 ?_|refine a8 ?_|refine aa ?_|refine LF a7 I9 ?_)
 refine ay rfl (fun h=>absurd (Ly h) h5) (fun h=>?_)
 rw [decide_eq_false h5]
 repeat' (first|refine ae ?_|refine a6 ?_|refine a8 ?_|refine aa ?_|refine LF a7 I9 ?_)
 refine ay rfl (fun h=>absurd (Ly h) h2) (fun h=>?_)
 repeat' (first|refine ae ?_|refine a6 ?_|refine a8 ?_|refine aa ?_|refine LF a7 I9 ?_)
 refine ay rfl (fun h=>absurd (Ly h) h3) (fun h=>?_)
 repeat' (first|refine ae ?_|refine a6 ?_|refine au ?_|refine aq ?_|refine a8 ?_|refine aM ?_|refine aa ?_|refine LF a7 I9 ?_)
 exact LK LA
def qD (f:aV) (n:Int):Int:=match f.Lookups[n.toNat]? with | some l=>l.Kind | none=>0
def uD (f:aV) (r:bz) (_:Nat) (c:j9):Int:=if c.At < 0∨c.At≥r.In.length then 40 else if c.Lookup < 0∨c.Lookup≥f.Lookups.length then 42 else dY (decide (qD f c.Lookup < 1∨qD f c.Lookup > 4)) 42
set_option maxHeartbeats 1000000 in
theorem BW (f:aV) (r:bz) (i:Nat) (c:j9):bH Tryz.prog 319 [aH i,.agg (fW c),.iptr (bG r),.iptr (c6 f)] (aH (uD f r i c)):=by
 refine aP Tryz.func319 rfl Tryz.ntmps319 rfl fun B=>?_
 unfold uD
 have hI:=cw r.In
 have hL:(f.Lookups.map bv).length=f.Lookups.length:=Lr ..
 rw [←hI]
 repeat' (first|refine ae ?_|refine a6 ?_|refine am ?_|refine a8 ?_|refine aa ?_|refine LF a7 I9 ?_|refine bo ?_|fail)
 refine cN [3,5] (c.At < 0∨c.At≥((aZ r.In).length:Int)) rfl (fun Q' K=>?_) (fun hC=>?_) (fun hC=>?_)
 ·repeat' (first|refine aa ?_|refine LF a7 I9 ?_|refine LN I9 ?_|refine LO LB ?_|refine bc rfl rfl rfl (fun _=>?_) (fun _=>?_))
  all_goals exact K _ _ rfl rfl (by clear K;grind)
 ·rw [if_pos hC]
  repeat' (first|refine ae ?_|refine a6 ?_|refine aq ?_|refine a8 ?_|refine aC ?_|refine aQ ?_|refine aa ?_|refine LF a7 I9 ?_)
  exact LK LA
 rw [if_neg hC]
 repeat' (first|refine ae ?_|refine a6 ?_|refine LF a7 I9 ?_)
 refine cN [3,5] (c.Lookup < 0∨c.Lookup≥f.Lookups.length) rfl (fun Q' K=>?_) (fun hC=>?_) (fun hC=>?_)
 ·repeat' (first|refine aa ?_|refine LF a7 I9 ?_|refine LN I9 ?_|refine LO LB ?_|refine bc rfl rfl rfl (fun _=>?_) (fun _=>?_))
  all_goals exact K _ _ rfl rfl (by clear K;grind)
 ·rw [if_pos hC]
  repeat' (first|refine ae ?_|refine a6 ?_|refine aq ?_|refine a8 ?_|refine aC ?_|refine aQ ?_|refine aa ?_|refine LF a7 I9 ?_)
  exact LK LA
 rw [if_neg hC]
 obtain ⟨l,hl⟩:∃l,f.Lookups[c.Lookup.toNat]?=some l:=⟨_,Lz (by omega)⟩
 have hlg:=c7 (c:=bv) hl
 have hk:qD f c.Lookup=l.Kind:=by unfold qD;rw [hl]
 rw [hk]
 repeat' (first|refine ae ?_|refine a6 ?_|refine au ?_|refine a8 ?_|refine aM ?_|refine aa ?_|refine LF a7 I9 ?_|(apply aU;first|refine aT a7 ?_|refine aN a7 ?_)|fail)
 by_cases h1:l.Kind < 1
 ·rw [decide_eq_true h1,decide_eq_true (Or.inl h1)]
  repeat' (first|refine aq ?_|refine a8 ?_|refine aa ?_|refine LF a7 I9 ?_|refine LO LB ?_|(apply bw;refine bi ?_)|fail)
  exact LK LA
 ·rw [decide_eq_false h1,show decide (l.Kind < 1∨l.Kind > 4)=decide (4 < l.Kind) from decide_eq_decide.2 ⟨fun h=>h.resolve_left h1,Or.inr⟩]
  repeat' (first|refine aq ?_|refine a8 ?_|refine aa ?_|refine LF a7 I9 ?_|refine LN I9 ?_|(apply bw;refine bi ?_)|fail)
  exact LK LA
def kH (f:aV) (kind:Int) (r:bz):Int:=if (r.Calls.length:Int) > 6 then 2 else if (r.Calls.length:Int) > 0∧kind≠4 then 40 else (d9 r.Calls (uD f r)).1
set_option maxHeartbeats 1000000 in
theorem zm (f:aV) (kind:Int) (r:bz):bH Tryz.prog 270 [cD f,aH kind,.agg (bG r)] (aH (kH f kind r)):=by
 refine aP Tryz.func270 rfl Tryz.ntmps270 rfl fun B=>?_
 unfold kH
 have hL:(r.Calls.map fW).length=r.Calls.length:=Lr ..
 rw [←hL]
 repeat' (first|refine ae ?_|refine a6 ?_|refine am ?_|refine a8 ?_|refine aa ?_|refine LF a7 I9 ?_|refine bo ?_|fail)
 refine ay rfl (fun h=>?_) (fun h=>?_)
 ·rw [if_pos (Ly h)]
  repeat' (first|refine ae ?_|refine a6 ?_|refine aq ?_|refine a8 ?_|refine aC ?_|refine aQ ?_|refine aa ?_|refine LF a7 I9 ?_)
  exact LK LA
 rw [if_neg (Lw h)]
 repeat' (first|refine ae ?_|refine a6 ?_|refine LF a7 I9 ?_)
 refine cN [3,5] (((r.Calls.map fW).length:Int) > 0∧kind≠4) rfl (fun Q' K=>?_) (fun hC=>?_) (fun hC=>?_)
 ·repeat' (first|refine aa ?_|refine LF a7 I9 ?_|refine LN I9 ?_|refine LO LB ?_|refine bc rfl rfl rfl (fun _=>?_) (fun _=>?_))
  all_goals exact K _ _ rfl rfl (by clear K;grind)
 ·rw [if_pos hC]
  repeat' (first|refine ae ?_|refine a6 ?_|refine aq ?_|refine a8 ?_|refine aC ?_|refine aQ ?_|refine aa ?_|refine LF a7 I9 ?_)
  exact LK LA
 rw [if_neg hC]
 repeat' (first|refine ae ?_|refine a6 ?_|refine au ?_|refine a8 ?_|refine aM ?_|refine LF a7 I9 ?_)
 refine bh [] [] (F0 (u:= .fn 319 [.iptr (bG r),.iptr (c6 f)]) (g:=319) rfl r.Calls _ (fun _ _=>True) [] trivial (dh (fun i x _=>BW f r i x))) rfl rfl (Ll _) rfl fun c L1 hc=>?_
 have hc:c=cm (d9 r.Calls (uD f r)):=hc
 subst hc
 unfold cm
 repeat' (first|refine ae ?_|refine a6 ?_|refine aq ?_|refine a8 ?_|refine aa ?_|refine LF a7 I9 ?_)
 exact LK LA
instance (f:aV) (kind:Int) (r:bz):AD Tryz.prog 270 [cD f,aH kind,.agg (bG r)] (aH (kH f kind r)):=⟨zm f kind r⟩
set_option maxRecDepth 8000
def AK (f:aV) (_:Nat) (l:List Int):Int:=dY (!(m6 f l)) 41
def Ah (f:aV) (_:Nat) (n:Int):Int:=dY (!(kS f n)) 32
def xE (kind:Int) (r:bz):Int:=dY (decide (r.X≠0∧kind≠6)) 40
def oU (r:bz):List (List Int):=r.Back++(r.In++r.Ahead)
theorem Ax (kind:Int) (r:bz):bH Tryz.prog 258 [.iptr [aH kind],.iptr (bG r)] (cm (lL kind r,0)):=by
 refine aP Tryz.func258 rfl Tryz.ntmps258 rfl fun B=>?_
 repeat' (first|refine ae ?_|refine a6 ?_|refine aq ?_|refine a8 ?_|refine aa ?_|refine LF a7 I9 ?_|(apply bw;refine bi ?_)|fail)
 exact LR LB
theorem xo (f:aV) (i:Nat) (l:List Int):bH Tryz.prog 263 [aH i,.imm 1 (aO l),.iptr (c6 f)] (aH (AK f i l)):=by
 refine aP Tryz.func263 rfl Tryz.ntmps263 rfl fun B=>?_
 repeat' (first|refine ae ?_|refine a6 ?_|refine aq ?_|refine a8 ?_|refine aa ?_|refine LF a7 I9 ?_|(apply bw;refine bi ?_)|fail)
 exact LK LA
theorem Ay (f:aV) (r:bz) (h:r.Back.length≤6∧r.In.length≤6∧r.Ahead.length≤6):bH Tryz.prog 260 [.iptr (bG r),.iptr (c6 f)] (cm (d9 (oU r) (AK f))):=by
 refine aP Tryz.func260 rfl Tryz.ntmps260 rfl fun B=>?_
 repeat' (first|refine ae ?_|refine a6 ?_|refine a8 ?_|refine aa ?_|refine LF a7 I9 ?_|refine bS a7 ?_|fail)
 refine bi (hc:=⟨wA [r.Back,r.In,r.Ahead] (by simp [gM];omega)⟩) ?_
 rw [show ([r.Back,r.In,r.Ahead]:List (List (List Int))).flatten=oU r by simp [oU]]
 repeat' (first|refine LF a7 I9 ?_)
 refine bh [] [] (EY (u:= .fn 263 [.iptr (c6 f)]) (g:=263) rfl (oU r) _ (fun _ _=>True) [] trivial (dh (fun i x _=>xo f i x))) rfl rfl (Ll _) rfl fun c L1 hc=>?_
 have hc:c=cm (d9 (oU r) (AK f)):=hc
 subst hc
 unfold cm
 repeat' (first|refine aq ?_|refine a8 ?_|refine aa ?_|refine LF a7 I9 ?_)
 exact LR LB
theorem Az (kind:Int) (r:bz) (hin:r.In≠[]):bH Tryz.prog 265 [.iptr [aH kind],.iptr (bG r)] (cm (dY (!(pe kind r)) 40,0)):=by
 refine aP Tryz.func265 rfl Tryz.ntmps265 rfl fun B=>?_
 repeat' (first|refine ae ?_|refine a6 ?_|refine a8 ?_|refine aa ?_|refine LF a7 I9 ?_)
 refine bi (hc:=⟨Fw kind r hin⟩) ?_
 repeat' (first|refine aq ?_|refine a8 ?_|refine aa ?_|refine LF a7 I9 ?_|(apply bw;refine bi ?_)|fail)
 exact LR LB
theorem xp (f:aV) (i:Nat) (n:Int):bH Tryz.prog 268 [aH i,aH n,.iptr (c6 f)] (aH (Ah f i n)):=by
 refine aP Tryz.func268 rfl Tryz.ntmps268 rfl fun B=>?_
 repeat' (first|refine ae ?_|refine a6 ?_|refine aq ?_|refine a8 ?_|refine aa ?_|refine LF a7 I9 ?_|(apply bw;refine bi ?_)|fail)
 exact LK LA
theorem AA (f:aV) (r:bz):bH Tryz.prog 267 [.iptr (bG r),.iptr (c6 f)] (cm (d9 r.Out (Ah f))):=by
 refine aP Tryz.func267 rfl Tryz.ntmps267 rfl fun B=>?_
 repeat' (first|refine ae ?_|refine a6 ?_|refine a8 ?_|refine aa ?_|refine LF a7 I9 ?_)
 refine bh [] [] (mD (u:= .fn 268 [.iptr (c6 f)]) (g:=268) rfl r.Out _ (fun _ _=>True) [] trivial (dh (fun i x _=>xp f i x))) rfl rfl (Ll _) rfl fun c L1 hc=>?_
 have hc:c=cm (d9 r.Out (Ah f)):=hc
 subst hc
 unfold cm
 repeat' (first|refine aq ?_|refine a8 ?_|refine aa ?_|refine LF a7 I9 ?_)
 exact LR LB
theorem AE (f:aV) (kind:Int) (r:bz):bH Tryz.prog 269 [.iptr (c6 f),.iptr [aH kind],.iptr (bG r)] (cm (kH f kind r,0)):=by
 refine aP Tryz.func269 rfl Tryz.ntmps269 rfl fun B=>?_
 repeat' (first|refine ae ?_|refine a6 ?_|refine aq ?_|refine a8 ?_|refine aa ?_|refine LF a7 I9 ?_|(apply bw;refine bi ?_)|fail)
 exact LR LB
theorem AF (r:bz):bH Tryz.prog 271 [.iptr (bG r)] (cm (dY (!([r.X].all gj)) 1,0)):=by
 refine aP Tryz.func271 rfl Tryz.ntmps271 rfl fun B=>?_
 repeat' (first|refine ae ?_|refine a6 ?_|refine aq ?_|refine a8 ?_|refine aa ?_|refine LF a7 I9 ?_|refine bS a7 ?_|(apply bw;refine bi ?_)|fail)
 exact LR LB
theorem AG (kind:Int) (r:bz):bH Tryz.prog 272 [.iptr (bG r),.iptr [aH kind]] (cm (xE kind r,0)):=by
 refine aP Tryz.func272 rfl Tryz.ntmps272 rfl fun B=>?_
 unfold xE
 by_cases h:r.X≠0
 ·rw [show decide (r.X≠0∧kind≠6)=decide (kind≠6) from decide_eq_decide.2 ⟨fun q=>q.2,fun q=>⟨h,q⟩⟩]
  repeat' (first|refine ae ?_|refine a6 ?_|refine a8 ?_|refine aa ?_|refine LF a7 I9 ?_)
  rw [decide_eq_true h]
  repeat' (first|refine aq ?_|refine a8 ?_|refine aa ?_|refine LF a7 I9 ?_|refine LN I9 ?_|(apply bw;refine bi ?_)|fail)
  exact LR LB
 ·rw [show decide (r.X≠0∧kind≠6)=false from decide_eq_false (fun q=>h q.1)]
  repeat' (first|refine ae ?_|refine a6 ?_|refine a8 ?_|refine aa ?_|refine LF a7 I9 ?_)
  rw [decide_eq_false h]
  repeat' (first|refine aq ?_|refine a8 ?_|refine aa ?_|refine LF a7 I9 ?_|refine LO LB ?_|(apply bw;refine bi ?_)|fail)
  exact LR LB
def jD (f:aV) (kind:Int) (r:bz):Int:=(gD [(lL kind r,0),d9 (oU r) (AK f),(dY (!(pe kind r)) 40,0),d9 r.Out (Ah f),(kH f kind r,0),(dY (!([r.X].all gj)) 1,0),(xE kind r,0)]).1
set_option maxHeartbeats 1000000 in
theorem Dy (f:aV) (kind:Int) (r:bz):bH Tryz.prog 200 [cD f,aH kind,.agg (bG r)] (aH (jD f kind r)):=by
 refine aP Tryz.func200 rfl Tryz.ntmps200 rfl fun B=>?_
 repeat' (first|refine ae ?_|refine a6 ?_|refine a8 ?_|refine aa ?_|refine LF a7 I9 ?_|refine bo ?_|refine bS a7 ?_|fail)
 refine bh [] [] (jk [⟨258,[.iptr [aH kind],.iptr (bG r)],[],lL kind r,0⟩,⟨260,[.iptr (bG r),.iptr (c6 f)],[],(d9 (oU r) (AK f)).1,(d9 (oU r) (AK f)).2⟩,⟨265,[.iptr [aH kind],.iptr (bG r)],[],dY (!(pe kind r)) 40,0⟩,⟨267,[.iptr (bG r),.iptr (c6 f)],[],(d9 r.Out (Ah f)).1,(d9 r.Out (Ah f)).2⟩,⟨269,[.iptr (c6 f),.iptr [aH kind],.iptr (bG r)],[],kH f kind r,0⟩,⟨271,[.iptr (bG r)],[],dY (!([r.X].all gj)) 1,0⟩,⟨272,[.iptr (bG r),.iptr [aH kind]],[],xE kind r,0⟩] ?_) rfl rfl (Ll _) rfl fun c L1 hc=>?_
 ·exact ⟨⟨inferInstance,Ax kind r⟩,fun h1=>⟨⟨inferInstance,Ay f r (yG h1).2⟩,fun _=>⟨⟨inferInstance,Az kind r (yG h1).1⟩,fun _=>⟨⟨inferInstance,AA f r⟩,fun _=>⟨⟨inferInstance,AE f kind r⟩,fun _=>⟨⟨inferInstance,AF r⟩,fun _=>⟨⟨inferInstance,AG kind r⟩,fun _=>trivial⟩⟩⟩⟩⟩⟩⟩
 rw [jX] at hc
 subst hc
 unfold cm
 repeat' (first|refine ae ?_|refine a6 ?_|refine aq ?_|refine a8 ?_|refine aa ?_|refine LF a7 I9 ?_)
 exact LK LA
instance (f:aV) (kind:Int) (r:bz):AD Tryz.prog 200 [cD f,aH kind,.agg (bG r)] (aH (jD f kind r)):=⟨Dy f kind r⟩
theorem oD (l:b7):bH Tryz.prog 195 [.iptr (bv l)] (cm (dY (decide ((l.Rules.length:Int) > 60)) 2,0)):=by
 refine aP Tryz.func195 rfl Tryz.ntmps195 rfl fun B=>?_
 rw [show (l.Rules.length:Int)=((l.Rules.map bG).length:Int) by rw [Lr]]
 repeat' (first|refine ae ?_|refine a6 ?_|refine aq ?_|refine a8 ?_|refine aa ?_|refine LF a7 I9 ?_|(apply bw;refine bi ?_)|fail)
 exact LR LB
def pJ (l:b7):Int:=dY (decide (l.Kind=7∨l.Kind=8) && decide ((l.Rules.length:Int) > 0)) 40
theorem oE (l:b7) (b:Bool) (hb:b=decide (l.Kind=7∨l.Kind=8)):bH Tryz.prog 196 [.iptr [cQ b],.iptr (bv l)] (cm (pJ l,0)):=by
 refine aP Tryz.func196 rfl Tryz.ntmps196 rfl fun B=>?_
 unfold pJ
 rw [←hb,show (l.Rules.length:Int)=((l.Rules.map bG).length:Int) by rw [Lr]]
 cases b
 ·repeat' (first|refine ae ?_|refine a6 ?_|refine aq ?_|refine a8 ?_|refine aa ?_|refine LF a7 I9 ?_|refine LO LB ?_|(apply bw;refine bi ?_)|fail)
  exact LR LB
 ·repeat' (first|refine ae ?_|refine a6 ?_|refine aq ?_|refine a8 ?_|refine aa ?_|refine LF a7 I9 ?_|refine LN I9 ?_|(apply bw;refine bi ?_)|fail)
  exact LR LB
theorem tE (f:aV) (l:b7) (i:Nat) (r:bz):bH Tryz.prog 199 [aH i,.agg (bG r),.iptr (c6 f),.iptr (bv l)] (aH (jD f l.Kind r)):=by
 refine aP Tryz.func199 rfl Tryz.ntmps199 rfl fun B=>?_
 repeat' (first|refine ae ?_|refine a6 ?_|refine aq ?_|refine a8 ?_|refine aa ?_|refine LF a7 I9 ?_|refine bo ?_|(apply bw;refine bi ?_)|fail)
 exact LK LA
theorem oF (f:aV) (l:b7):bH Tryz.prog 197 [.iptr (bv l),.iptr (c6 f)] (cm (d9 l.Rules fun _ r=>jD f l.Kind r)):=by
 refine aP Tryz.func197 rfl Tryz.ntmps197 rfl fun B=>?_
 repeat' (first|refine ae ?_|refine a6 ?_|refine a8 ?_|refine aa ?_|refine LF a7 I9 ?_)
 refine bh [] [] (EO (u:= .fn 199 [.iptr (c6 f),.iptr (bv l)]) (g:=199) rfl l.Rules _ (fun _ _=>True) [] trivial (dh (w:=fun _ r=>jD f l.Kind r) (fun i x _=>tE f l i x))) rfl rfl (Ll _) rfl fun c L1 hc=>?_
 have hc:c=cm (d9 l.Rules fun _ r=>jD f l.Kind r):=hc
 subst hc
 unfold cm
 repeat' (first|refine aq ?_|refine a8 ?_|refine aa ?_|refine LF a7 I9 ?_)
 exact LR LB
def li (f:aV) (l:b7):Int:=if l.Kind < 1∨l.Kind > 8 then 42 else (gD [(dY (decide ((l.Rules.length:Int) > 60)) 2,0),(pJ l,0),d9 l.Rules fun _ r=>jD f l.Kind r]).1
set_option maxHeartbeats 1000000 in
theorem wX (f:aV) (l:b7):bH Tryz.prog 119 [cD f,.agg (bv l)] (aH (li f l)):=by
 refine aP Tryz.func119 rfl Tryz.ntmps119 rfl fun B=>?_
 unfold li
 repeat' (first|refine ae ?_|refine a6 ?_|refine a8 ?_|refine aa ?_|refine LF a7 I9 ?_|refine bo ?_|fail)
 refine cN [2,3] (l.Kind < 1∨l.Kind > 8) rfl (fun Q' K=>?_) (fun hC=>?_) (fun hC=>?_)
 ·repeat' (first|refine aa ?_|refine LF a7 I9 ?_|refine LN I9 ?_|refine LO LB ?_|refine bc rfl rfl rfl (fun _=>?_) (fun _=>?_))
  all_goals exact K _ _ rfl rfl (by clear K;grind)
 ·rw [if_pos hC]
  repeat' (first|refine ae ?_|refine a6 ?_|refine aq ?_|refine a8 ?_|refine aC ?_|refine aa ?_|refine LF a7 I9 ?_)
  exact LK LA
 rw [if_neg hC]
 repeat' (first|refine ae ?_|refine a6 ?_|refine au ?_|refine a8 ?_|refine LF a7 I9 ?_)
 by_cases h7:l.Kind=7
 ·rw [decide_eq_true h7]
  repeat' (first|refine ae ?_|refine a6 ?_|refine a8 ?_|refine aa ?_|refine LF a7 I9 ?_|refine LO LB ?_|(apply aK;first|refine LH 5 a7 0 LE ?_|refine LH 5 a7 1 LE ?_|refine LH 5 a7 2 LE ?_|refine LG a7 0 LD ?_|refine LG a7 1 LD ?_|refine LG a7 2 LD ?_|refine LG a7 3 LD ?_|fail)|refine bg a7 fun _=>?_|refine bS a7 ?_|fail)
  refine bh [] [] (jk [⟨195,[.iptr (bv l)],[],dY (decide ((l.Rules.length:Int) > 60)) 2,0⟩,⟨196,[.iptr [cQ true],.iptr (bv l)],[],pJ l,0⟩,⟨197,[.iptr (bv l),.iptr (c6 f)],[],(d9 l.Rules fun _ r=>jD f l.Kind r).1,(d9 l.Rules fun _ r=>jD f l.Kind r).2⟩] ⟨⟨inferInstance,oD l⟩,fun _=>⟨⟨inferInstance,oE l true (decide_eq_true (Or.inl h7)).symm⟩,fun _=>⟨⟨inferInstance,oF f l⟩,fun _=>trivial⟩⟩⟩) rfl rfl (Ll _) rfl fun c L1 hc=>?_
  rw [jX] at hc
  subst hc
  unfold cm
  repeat' (first|refine ae ?_|refine a6 ?_|refine aq ?_|refine a8 ?_|refine aa ?_|refine LF a7 I9 ?_)
  exact LK LA
 ·rw [decide_eq_false h7]
  repeat' (first|refine ae ?_|refine a6 ?_|refine a8 ?_|refine aa ?_|refine LF a7 I9 ?_|refine LN I9 ?_|(apply aK;first|refine LH 5 a7 0 LE ?_|refine LH 5 a7 1 LE ?_|refine LH 5 a7 2 LE ?_|refine LG a7 0 LD ?_|refine LG a7 1 LD ?_|refine LG a7 2 LD ?_|refine LG a7 3 LD ?_|fail)|refine bg a7 fun _=>?_|refine bS a7 ?_|fail)
  refine bh [] [] (jk [⟨195,[.iptr (bv l)],[],dY (decide ((l.Rules.length:Int) > 60)) 2,0⟩,⟨196,[.iptr [cQ (decide (l.Kind=8))],.iptr (bv l)],[],pJ l,0⟩,⟨197,[.iptr (bv l),.iptr (c6 f)],[],(d9 l.Rules fun _ r=>jD f l.Kind r).1,(d9 l.Rules fun _ r=>jD f l.Kind r).2⟩] ⟨⟨inferInstance,oD l⟩,fun _=>⟨⟨inferInstance,oE l (decide (l.Kind=8)) (decide_eq_decide.2 ⟨Or.inr,fun h=>h.resolve_left h7⟩)⟩,fun _=>⟨⟨inferInstance,oF f l⟩,fun _=>trivial⟩⟩⟩) rfl rfl (Ll _) rfl fun c L1 hc=>?_
  rw [jX] at hc
  subst hc
  unfold cm
  repeat' (first|refine ae ?_|refine a6 ?_|refine aq ?_|refine a8 ?_|refine aa ?_|refine LF a7 I9 ?_)
  exact LK LA
instance (f:aV) (l:b7):AD Tryz.prog 119 [cD f,.agg (bv l)] (aH (li f l)):=⟨wX f l⟩
theorem tF (f:aV) (i:Nat) (l:b7):bH Tryz.prog 118 [aH i,.agg (bv l),.iptr (c6 f)] (aH (li f l)):=by
 refine aP Tryz.func118 rfl Tryz.ntmps118 rfl fun B=>?_
 repeat' (first|refine ae ?_|refine a6 ?_|refine aq ?_|refine a8 ?_|refine aa ?_|refine LF a7 I9 ?_|refine bo ?_|(apply bw;refine bi ?_)|fail)
 exact LK LA
end Go.Proofs.YtamjlkdanllgjaaGreatDoor
