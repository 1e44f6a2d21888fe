/-
  The maker: rules.
-/
import Derived.Test.YtpmdfoaadejmkaaGreatDoorM27
import Derived.Test.YtpmdfoaadejmkaaGreatDoorM12
namespace Go.Proofs.YtpmdfoaadejmkaaGreatDoor
open Go.RowKit
attribute [local irreducible] AT br AX AO Av Kt bb df DA cC
variable (s:List Int) (hs:s.length≤1000000) (F:MF)
include hs
def Eu (r:b8):AV:= .agg (bA r)
def Ie (rb:Nat) (b0 b1 b2 b3 b4:AV) (x:Int):Nat×AB:=(rb,.box [b0,b1,b2,b3,b4,aF x] 79)
theorem rE (a:List Int) (l:List (List Int)):b7 [a]++b7 l=b7 (a::l):=by
 have _:=hs
 clear hs
 rfl
theorem ud (n:Int) (m:MS) (k:Nat):(fU s n k m).1.length=k:=by
 have _:=hs
 clear hs
 induction k with
 | zero=>rfl
 | succ k ih=>
  have:fU s n (k+1) m=((fU s n k m).1++[(dr s n (fU s n k m).2).1],(dr s n (fU s n k m).2).2):=rfl
  rw [this]
  simp [ih]
theorem v7 (nn:Int) (calls:List Int) (m:MS) (k:Nat):(eT s nn calls k m).1.length=k:=by
 have _:=hs
 clear hs
 induction k with
 | zero=>rfl
 | succ i ih=>
  have:eT s nn calls (i+1) m=(bX (dr s nn) fun a=>bX (dr s calls.length) fun z=>ret ((eT s nn calls i m).1++[(⟨a,calls.getD z.toNat 0⟩:gD)])) (eT s nn calls i m).2:=rfl
  rw [this]
  simp [bX,ret,ih]
set_option maxHeartbeats 16000000 in
theorem yM {kg:Option (Nat×Nat)} {gl:List (List AV)} (hF:F.gl= .vec kg 9 gl) (n:Nat) (hn:gl.length=n) (h0:0 < n∧n≤1000) (kind:Int) (hk:1≤kind∧kind≤6) (calls:List Int) (hcl:calls.length≤1000):qy 176 [aF kind,.imm 1 (aT calls)] s F (gp s n kind calls) Eu:=by
 intro b m
 refine aN Tryz.func176 rfl Tryz.ntmps176 rfl fun B=>?_
 repeat' (first|refine If ?_|refine IF a5 FN ?_|(apply bw;first|refine II a5 0 IC ?_|refine II a5 1 IC ?_|refine II a5 2 IC ?_|refine II a5 3 IC ?_|refine IJ a5 0 IC ?_|refine IJ a5 1 IC ?_|refine IJ a5 2 IC ?_|refine IK a5 1 IA (by assumption) rfl ?_|refine IK a5 0 IA (by assumption) rfl ?_|fail)|refine bh a5 fun _=>?_|fail)
 rw [hF]
 repeat' (first|refine If ?_|refine IF a5 FN ?_)
 rw [hn]
 rename_i tb rb
 refine aJ (aI (L':=[dG b s F m,(rb,.box [bF,bF,bF,bF,bF,aF 0] 79),(tb,.box [bF,bF,bF,bF,bF,aF 0] 79)]) (List.perm_append_comm (l₁:=[_,_]))) ?_
 refine u5 (qg s hs F hF n hn h0) ?_
 have ha:=oS s (n:=n) (by omega) m
 generalize e1:mJ s n m=p1 at ha ⊢
 have haf:=ha.few
 unfold DF
 repeat' (first|refine If ?_|refine IF a5 FN ?_|(apply aM;first|refine IG a5 0 ID ?_|refine IG a5 1 ID ?_|refine IG a5 2 ID ?_|refine IG a5 3 ID ?_|fail)|refine ru (d:=22) a5 fun _=>?_|fail)
 rename_i kb
 refine bP (aI (L':=[dG b s F p1.2,(rb,.box [bF,.vec (some (kb,1)) 1 (b7 [p1.1]),bF,bF,bF,aF 0] 79),(tb,.box [bF,bF,bF,bF,bF,aF 0] 79)]++(tok (some (kb,1)) 22 1 1++[])) (List.perm_append_comm (l₁:=[_]))) ?_
 repeat' (first|fail)
 refine aq rfl (fun h6=>?_) (fun h6=>?_)
 ·have h6:=Iy h6
  subst h6
  repeat' (first|refine If ?_|fail)
  refine d7 [.cell (rb,1,.vec (some (kb,1)) 1 (b7 [p1.1]))] 5 [(0,.v),(1,.k),(2,.v),(3,.f),(4,.v)] none ?_ trivial rfl (by kernel_rfl) (by kernel_rfl) (by kernel_rfl) bT (by kernel_rfl) rfl
  repeat' (first|refine aC ?_|refine b6 a5 ?_|fail)
  refine dx a5 0 rfl rfl rfl (bD 1 rfl rfl bS) (by first | trivial | rfl) ?_
  repeat' (first|refine aC ?_|refine b6 a5 ?_|fail)
  refine qW (qg s hs F hF n hn h0) (bD 1 rfl rfl bS) ?_
  generalize e2:mJ s n p1.2=p2
  unfold DF
  repeat' (first|refine aC ?_|refine dS a5 ?_|fail)
  refine IQ [0,6,7,27,30] FN ?_
  repeat' (first|fail)
  refine bJ a5 _ rfl rfl rfl rfl (ev (A:=[_,_,_])) (by simp [fC s hs]) (by simp [fC s hs]) rfl fun q'=>?_
  refine aJ (aI (ev (A:=[_,_,_])).symm) ?_
  repeat' (first|refine If ?_|refine IF a5 FN ?_|(apply aM;first|refine IG a5 0 ID ?_|refine IG a5 1 ID ?_|refine IG a5 2 ID ?_|refine IG a5 3 ID ?_|fail))
  refine cu ?_
  have hx:=cg s hs p2.2.a (n:=41) (by omega)
  have hx:0≤(dr s 41 p2.2).1∧(dr s 41 p2.2).1 < 41:=hx
  generalize e3:dr s 41 p2.2=p3 at hx ⊢
  repeat' (first|refine If ?_|refine IF a5 FN ?_|(apply bw;first|refine II a5 0 IC ?_|refine II a5 1 IC ?_|refine II a5 2 IC ?_|refine II a5 3 IC ?_|refine IJ a5 0 IC ?_|refine IJ a5 1 IC ?_|refine IJ a5 2 IC ?_|refine IK a5 1 IA (by assumption) rfl ?_|refine IK a5 0 IA (by assumption) rfl ?_|fail)|(apply aV;refine aU ?_)|(apply aM;first|refine IG a5 0 ID ?_|refine IG a5 1 ID ?_|refine IG a5 2 ID ?_|refine IG a5 3 ID ?_|fail))
  have hv:gp s n 6 calls m=(⟨[],[p1.1,p2.1],[],[],[],p3.1 * 10 - 200⟩,p3.2):=by simp [gp,Es,bX,ret,e1,e2,e3]
  rw [hv]
  refine bf (bo 2 (cs':=bA ⟨[],[p1.1,p2.1],[],[],[],p3.1 * 10 - 200⟩) rfl fun σ vs h=>lX.vrs (a:=[bF,.vec q' 1 (b7 [p1.1,p2.1]),bF,bF,bF,aF (p3.1 * 10 - 200)]) (b:=bA ⟨[],[p1.1,p2.1],[],[],[],p3.1 * 10 - 200⟩) ⟨cP.nil 1,cP.im,cP.nil 1,cP.nil 1,cP.nil 2,cP.refl _,trivial⟩ h) (iD a5 2 [dG b s F p3.2] rfl rfl rfl rfl rfl (List.Sublist.cons_cons _ (List.nil_sublist _)) ⟨rfl,rfl⟩)
 have h6:=Ix h6
 refine bP (bo 1 (cs':=[.imm 1 [],.vec (some (kb,1)) 1 (b7 [p1.1]),.imm 1 [],.vec none 1 [],.vec none 2 [],aF 0]) rfl fun σ vs h=>lX.vrs (a:=[bF,.vec (some (kb,1)) 1 (b7 [p1.1]),bF,bF,bF,aF 0]) (b:=[.imm 1 [],.vec (some (kb,1)) 1 (b7 [p1.1]),.imm 1 [],.vec none 1 [],.vec none 2 [],aF 0]) ⟨cP.nil 1,cP.refl _,cP.nil 1,cP.vecN 1,cP.vecN 2,cP.refl _,trivial⟩ h) ?_
 repeat' (first|refine If ?_|refine IF a5 FN ?_)
 refine cu ?_
 generalize e2:dr s 2 p1.2=z
 repeat' (first|refine If ?_|refine IF a5 FN ?_)
 refine rY [0,1,2,6,7,8] ([dG b s F (iR s n p1.2).2,(rb,.box [.imm 1 (b7 (iR s n p1.2).1.1),.vec (some (kb,1)) 1 (b7 [p1.1]),.imm 1 (b7 (iR s n p1.2).1.2),.vec none 1 [],.vec none 2 [],aF 0] 79),(tb,.box [bF,bF,bF,bF,bF,aF 0] 79)]++(tok (some (kb,1)) 22 1 1++[])) rfl (fun Q' K=>?_) ?_
 ·refine aq rfl (fun hz=>?_) (fun hz=>?_)
  ·have hz:=Iy hz
   repeat' (first|refine If ?_|refine IF a5 FN ?_)
   refine u5 (mI s hs F hF n hn h0 2 (by omega)) ?_
   generalize e3:oB s n 2 z.2=y1
   unfold BJ
   repeat' (first|refine If ?_|refine IF a5 FN ?_|(apply aM;first|refine IG a5 0 ID ?_|refine IG a5 1 ID ?_|refine IG a5 2 ID ?_|refine IG a5 3 ID ?_|fail))
   refine u5 (mI s hs F hF n hn h0 2 (by omega)) ?_
   generalize e4:oB s n 2 y1.2=y2
   unfold BJ
   repeat' (first|refine If ?_|refine IF a5 FN ?_|(apply aM;first|refine IG a5 0 ID ?_|refine IG a5 1 ID ?_|refine IG a5 2 ID ?_|refine IG a5 3 ID ?_|fail))
   have hv:iR s n p1.2=((y1.1,y2.1),y2.2):=by simp [iR,bX,ret,e2,e3,e4,hz]
   rw [hv] at K
   exact K _ rfl
  ·have hz:=Ix hz
   repeat' (first|refine If ?_|fail)
   have hv:iR s n p1.2=(([],[]),z.2):=by simp [iR,bX,ret,e2,hz]
   rw [hv] at K
   exact K _ rfl
 generalize e3:iR s n p1.2=w
 have ha0:(b7 [p1.1])[0]?=some [.imm 1 (aT p1.1)]:=rfl
 have hial:(aT p1.1).length=p1.1.length:=aZ _
 by_cases h15:kind=1∨kind=5
 ·have hv:gp s n kind calls m=(⟨w.1.1,[p1.1],w.1.2,(fU s n p1.1.length w.2).1,[],0⟩,(fU s n p1.1.length w.2).2):=by simp [gp,bX,ret,e1,e3,h6,h15]
  rw [hv]
  rcases h15 with rfl | rfl
  all_goals
   repeat' (first|refine If ?_|refine ak ?_|refine IF a5 FN ?_|refine bQ rfl ?_|refine bI rfl ?_)
   refine aO [0,6,7,8] (α:=Nat×Option (Nat×Nat)) (fun x=>[(9,aF x.1)]) (fun x=>x.1≤p1.1.length) (fun x=>[dG b s F (fU s n x.1 w.2).2,(rb,.box [.imm 1 (b7 w.1.1),.vec (some (kb,1)) 1 (b7 [p1.1]),.imm 1 (b7 w.1.2),.vec x.2 1 (aT (fU s n x.1 w.2).1),.vec none 2 [],aF 0] 79),(tb,.box [bF,bF,bF,bF,bF,aF 0] 79)]++(tok x.2 3 1 (aT (fU s n x.1 w.2).1).length++(tok (some (kb,1)) 22 1 1++[]))) (fun x=>p1.1.length - x.1) (0,none) rfl ⟨rfl,trivial⟩ (Nat.zero_le _) (fun _ _ h=>h) ?_
   rintro ⟨i,q⟩ hi
   dsimp only at hi ⊢
   have hol:=ud s hs n w.2 i
   have hstep:fU s n (i+1) w.2=((fU s n i w.2).1++[(dr s n (fU s n i w.2).2).1],(dr s n (fU s n i w.2).2).2):=rfl
   try dsimp only [Is,Ir,Iq,Ik]
   repeat' (first|refine If ?_|refine IF a5 FN ?_|(apply bw;first|refine II a5 0 IC ?_|refine II a5 1 IC ?_|refine II a5 2 IC ?_|refine II a5 3 IC ?_|refine IJ a5 0 IC ?_|refine IJ a5 1 IC ?_|refine IJ a5 2 IC ?_|refine IK a5 1 IA (by assumption) rfl ?_|refine IK a5 0 IA (by assumption) rfl ?_|fail)|(apply aS;first|refine aR a5 ?_|refine aH a5 ?_)|fail)
   refine aq rfl (fun h=>?_) (fun h=>?_)
   ·have hil:i < p1.1.length:=by have:=Iy h;omega
    generalize fU s n i w.2=st at hol hstep ⊢
    have hoil:(aT st.1).length=st.1.length:=aZ _
    repeat' (first|refine If ?_|refine ak ?_)
    refine d7 [.cell (rb,3,.vec q 1 (aT st.1))] 6 [(0,.v),(1,.k),(2,.v),(3,.v),(4,.f),(5,.v)] none ?_ trivial rfl (by kernel_rfl) (by kernel_rfl) (by kernel_rfl) bT (by kernel_rfl) rfl
    repeat' (first|refine aC ?_|refine b6 a5 ?_|fail)
    refine dx a5 0 rfl rfl rfl (bD 1 rfl rfl bS) (by first | trivial | rfl) ?_
    repeat' (first|refine aC ?_|refine b6 a5 ?_|fail)
    refine er (bD 1 rfl rfl bS) ?_
    generalize dr s n st.2=o at hstep ⊢
    repeat' (first|refine aC ?_|refine dS a5 ?_|fail)
    refine IQ [0,6,7,8,9,98,102] FN ?_
    repeat' (first|fail)
    refine bJ a5 _ rfl rfl rfl rfl (ev (A:=[_,_,_])) (by simp [aZ];omega) (by simp [aZ];omega) rfl fun q'=>?_
    refine aJ (aI (ev (A:=[_,_,_])).symm) ?_
    repeat' (first|refine If ?_|refine IF a5 FN ?_|(apply aV;refine aU ?_)|(apply aM;first|refine IG a5 0 ID ?_|refine IG a5 1 ID ?_|refine IG a5 2 ID ?_|refine IG a5 3 ID ?_|fail))
    exact aD (i+1,q') rfl ⟨by rw [Iv];rfl,trivial⟩ (by dsimp only;omega) (by dsimp only;omega) (fun _ _ h=>by dsimp only;rw [hstep];simpa [fa,f4,aT] using h)
   have hil:i=p1.1.length:=by have:=Ix h;omega
   subst hil
   generalize fU s n p1.1.length w.2=st
   repeat' (first|refine If ?_|(apply bw;first|refine II a5 0 IC ?_|refine II a5 1 IC ?_|refine II a5 2 IC ?_|refine II a5 3 IC ?_|refine IJ a5 0 IC ?_|refine IJ a5 1 IC ?_|refine IJ a5 2 IC ?_|refine IK a5 1 IA (by assumption) rfl ?_|refine IK a5 0 IA (by assumption) rfl ?_|fail)|(apply aM;first|refine IG a5 0 ID ?_|refine IG a5 1 ID ?_|refine IG a5 2 ID ?_|refine IG a5 3 ID ?_|fail))
   exact bf (bo 2 (cs':=bA ⟨w.1.1,[p1.1],w.1.2,st.1,[],0⟩) rfl fun σ vs h=>lX.vrs (a:=[.imm 1 (b7 w.1.1),.vec (some (kb,1)) 1 (b7 [p1.1]),.imm 1 (b7 w.1.2),.vec q 1 (aT st.1),.vec none 2 [],aF 0]) (b:=bA ⟨w.1.1,[p1.1],w.1.2,st.1,[],0⟩) ⟨cP.refl _,cP.im,cP.refl _,cP.im,cP.im,cP.refl _,trivial⟩ h) (iD a5 2 [dG b s F st.2] rfl rfl rfl rfl rfl (List.Sublist.cons_cons _ (List.nil_sublist _)) ⟨rfl,rfl⟩)
 by_cases h2:kind=2
 ·subst h2
  repeat' (first|refine If ?_|refine ak ?_|refine IF a5 FN ?_|refine bQ rfl ?_|refine bI rfl ?_)
  refine cu ?_
  have hc:=cg s hs w.2.a (n:=4) (by omega)
  have hc:0≤(dr s 4 w.2).1∧(dr s 4 w.2).1 < 4:=hc
  generalize e4:dr s 4 w.2=y at hc ⊢
  obtain ⟨k,hkk⟩:∃k:Nat,y.1=k:=⟨y.1.toNat,by omega⟩
  have hv:gp s n 2 calls m=(⟨w.1.1,[p1.1],w.1.2,(fU s n k y.2).1,[],0⟩,(fU s n k y.2).2):=by simp [gp,bX,ret,e1,e3,e4,hkk]
  rw [hv,hkk]
  repeat' (first|refine If ?_|refine ak ?_|refine IF a5 FN ?_)
  refine aO [0,6,7,8,10] (α:=Nat×Option (Nat×Nat)) (fun x=>[(11,aF x.1)]) (fun x=>x.1≤k) (fun x=>[dG b s F (fU s n x.1 y.2).2,(rb,.box [.imm 1 (b7 w.1.1),.vec (some (kb,1)) 1 (b7 [p1.1]),.imm 1 (b7 w.1.2),.vec x.2 1 (aT (fU s n x.1 y.2).1),.vec none 2 [],aF 0] 79),(tb,.box [bF,bF,bF,bF,bF,aF 0] 79)]++(tok x.2 3 1 (aT (fU s n x.1 y.2).1).length++(tok (some (kb,1)) 22 1 1++[]))) (fun x=>k - x.1) (0,none) rfl ⟨rfl,trivial⟩ (Nat.zero_le _) (fun _ _ h=>h) ?_
  rintro ⟨i,q⟩ hi
  dsimp only at hi ⊢
  have hol:=ud s hs n y.2 i
  have hstep:fU s n (i+1) y.2=((fU s n i y.2).1++[(dr s n (fU s n i y.2).2).1],(dr s n (fU s n i y.2).2).2):=rfl
  try dsimp only [Is,Ir,Iq,Ik]
  repeat' (first|refine If ?_|refine IF a5 FN ?_)
  refine aq rfl (fun h=>?_) (fun h=>?_)
  ·have hil:i < k:=by have:=Iy h;omega
   generalize fU s n i y.2=st at hol hstep ⊢
   have hoil:(aT st.1).length=st.1.length:=aZ _
   repeat' (first|refine If ?_|refine ak ?_)
   refine d7 [.cell (rb,3,.vec q 1 (aT st.1))] 6 [(0,.v),(1,.k),(2,.v),(3,.v),(4,.f),(5,.v)] none ?_ trivial rfl (by kernel_rfl) (by kernel_rfl) (by kernel_rfl) bT (by kernel_rfl) rfl
   repeat' (first|refine aC ?_|refine b6 a5 ?_|fail)
   refine dx a5 0 rfl rfl rfl (bD 1 rfl rfl bS) (by first | trivial | rfl) ?_
   repeat' (first|refine aC ?_|refine b6 a5 ?_|fail)
   refine er (bD 1 rfl rfl bS) ?_
   generalize dr s n st.2=o at hstep ⊢
   repeat' (first|refine aC ?_|refine dS a5 ?_|fail)
   refine IQ [0,6,7,8,10,11,115,119] FN ?_
   repeat' (first|fail)
   refine bJ a5 _ rfl rfl rfl rfl (ev (A:=[_,_,_])) (by simp [aZ];omega) (by simp [aZ];omega) rfl fun q'=>?_
   refine aJ (aI (ev (A:=[_,_,_])).symm) ?_
   repeat' (first|refine If ?_|refine IF a5 FN ?_|(apply aV;refine aU ?_)|(apply aM;first|refine IG a5 0 ID ?_|refine IG a5 1 ID ?_|refine IG a5 2 ID ?_|refine IG a5 3 ID ?_|fail))
   exact aD (i+1,q') rfl ⟨by rw [Iv];rfl,trivial⟩ (by dsimp only;omega) (by dsimp only;omega) (fun _ _ h=>by dsimp only;rw [hstep];simpa [fa,f4,aT] using h)
  have hil:i=k:=by have:=Ix h;omega
  subst hil
  generalize fU s n i y.2=st
  repeat' (first|refine If ?_|(apply bw;first|refine II a5 0 IC ?_|refine II a5 1 IC ?_|refine II a5 2 IC ?_|refine II a5 3 IC ?_|refine IJ a5 0 IC ?_|refine IJ a5 1 IC ?_|refine IJ a5 2 IC ?_|refine IK a5 1 IA (by assumption) rfl ?_|refine IK a5 0 IA (by assumption) rfl ?_|fail)|(apply aM;first|refine IG a5 0 ID ?_|refine IG a5 1 ID ?_|refine IG a5 2 ID ?_|refine IG a5 3 ID ?_|fail))
  exact bf (bo 2 (cs':=bA ⟨w.1.1,[p1.1],w.1.2,st.1,[],0⟩) rfl fun σ vs h=>lX.vrs (a:=[.imm 1 (b7 w.1.1),.vec (some (kb,1)) 1 (b7 [p1.1]),.imm 1 (b7 w.1.2),.vec q 1 (aT st.1),.vec none 2 [],aF 0]) (b:=bA ⟨w.1.1,[p1.1],w.1.2,st.1,[],0⟩) ⟨cP.refl _,cP.im,cP.refl _,cP.im,cP.im,cP.refl _,trivial⟩ h) (iD a5 2 [dG b s F st.2] rfl rfl rfl rfl rfl (List.Sublist.cons_cons _ (List.nil_sublist _)) ⟨rfl,rfl⟩)
 have hrow:=mH s (n:=n) (by omega) w.2
 by_cases h3:kind=3
 ·subst h3
  repeat' (first|refine If ?_|refine ak ?_|refine IF a5 FN ?_|refine bQ rfl ?_|refine bI rfl ?_)
  refine d7 [.cell (rb,1,.vec (some (kb,1)) 1 (b7 [p1.1]))] 4 [(0,.v),(1,.k),(2,.v),(3,.f)] none ?_ trivial rfl (by kernel_rfl) (by kernel_rfl) (by kernel_rfl) bT (by kernel_rfl) rfl
  repeat' (first|refine aC ?_|refine b6 a5 ?_|fail)
  refine dx a5 0 rfl rfl rfl (bD 1 rfl rfl bS) (by first | trivial | rfl) ?_
  repeat' (first|refine aC ?_|refine b6 a5 ?_|fail)
  refine qW (mI s hs F hF n hn h0 2 (by omega)) (bD 1 rfl rfl bS) ?_
  generalize e4:oB s n 2 w.2=y at hrow ⊢
  have hrl:=hrow.1
  unfold BJ
  repeat' (first|fail)
  refine IQ [0,6,7,8,125,127] FN ?_
  repeat' (first|fail)
  refine bJ a5 _ rfl rfl rfl rfl (ev (A:=[_,_,_])) (by simp [fC s hs];omega) (by simp [fC s hs];omega) rfl fun q'=>?_
  refine aJ (aI (ev (A:=[_,_,_])).symm) ?_
  rw [rE s hs]
  repeat' (first|refine If ?_|refine IF a5 FN ?_|(apply aM;first|refine IG a5 0 ID ?_|refine IG a5 1 ID ?_|refine IG a5 2 ID ?_|refine IG a5 3 ID ?_|fail))
  refine cu ?_
  generalize e5:dr s n y.2=o
  have hv:gp s n 3 calls m=(⟨w.1.1,p1.1::y.1,w.1.2,[o.1],[],0⟩,o.2):=by simp [gp,bX,ret,e1,e3,e4,e5]
  rw [hv]
  repeat' (first|refine If ?_|refine IF a5 FN ?_|(apply bw;first|refine II a5 0 IC ?_|refine II a5 1 IC ?_|refine II a5 2 IC ?_|refine II a5 3 IC ?_|refine IJ a5 0 IC ?_|refine IJ a5 1 IC ?_|refine IJ a5 2 IC ?_|refine IK a5 1 IA (by assumption) rfl ?_|refine IK a5 0 IA (by assumption) rfl ?_|fail)|(apply aM;first|refine IG a5 0 ID ?_|refine IG a5 1 ID ?_|refine IG a5 2 ID ?_|refine IG a5 3 ID ?_|fail)|refine bG a5 ?_|fail)
  exact bf (bo 2 (cs':=bA ⟨w.1.1,p1.1::y.1,w.1.2,[o.1],[],0⟩) rfl fun σ vs h=>lX.vrs (a:=[.imm 1 (b7 w.1.1),.vec q' 1 (b7 (p1.1::y.1)),.imm 1 (b7 w.1.2),.imm 1 (aT [o.1]),.vec none 2 [],aF 0]) (b:=bA ⟨w.1.1,p1.1::y.1,w.1.2,[o.1],[],0⟩) ⟨cP.refl _,cP.im,cP.refl _,cP.refl _,cP.im,cP.refl _,trivial⟩ h) (iD a5 2 [dG b s F o.2] rfl rfl rfl rfl rfl (List.Sublist.cons_cons _ (List.nil_sublist _)) ⟨rfl,rfl⟩)
 have h4:kind=4:=by omega
 subst h4
 repeat' (first|refine If ?_|refine ak ?_|refine IF a5 FN ?_|refine bI rfl ?_)
 refine d7 [.cell (rb,1,.vec (some (kb,1)) 1 (b7 [p1.1]))] 4 [(0,.v),(1,.k),(2,.v),(3,.f)] none ?_ trivial rfl (by kernel_rfl) (by kernel_rfl) (by kernel_rfl) bT (by kernel_rfl) rfl
 repeat' (first|refine aC ?_|refine b6 a5 ?_|fail)
 refine dx a5 0 rfl rfl rfl (bD 1 rfl rfl bS) (by first | trivial | rfl) ?_
 repeat' (first|refine aC ?_|refine b6 a5 ?_|fail)
 refine qW (mI s hs F hF n hn h0 2 (by omega)) (bD 1 rfl rfl bS) ?_
 generalize e4:oB s n 2 w.2=y at hrow ⊢
 have hrl:=hrow.1
 unfold BJ
 repeat' (first|fail)
 refine IQ [0,2,6,7,50,52] FN ?_
 repeat' (first|fail)
 refine bJ a5 _ rfl rfl rfl rfl (ev (A:=[_,_,_])) (by simp [fC s hs];omega) (by simp [fC s hs];omega) rfl fun q1=>?_
 refine aJ (aI (ev (A:=[_,_,_])).symm) ?_
 rw [rE s hs]
 repeat' (first|refine If ?_|refine IF a5 FN ?_|(apply aM;first|refine IG a5 0 ID ?_|refine IG a5 1 ID ?_|refine IG a5 2 ID ?_|refine IG a5 3 ID ?_|fail))
 refine cu ?_
 have hc:=cg s hs y.2.a (n:=3) (by omega)
 have hc:0≤(dr s 3 y.2).1∧(dr s 3 y.2).1 < 3:=hc
 generalize e5:dr s 3 y.2=o at hc ⊢
 obtain ⟨k,hkk⟩:∃k:Nat,o.1=k:=⟨o.1.toNat,by omega⟩
 have hv:gp s n 4 calls m=(⟨w.1.1,p1.1::y.1,w.1.2,[],(eT s (p1.1::y.1).length calls (if calls.length=0 then 0 else k) o.2).1,0⟩,(eT s (p1.1::y.1).length calls (if calls.length=0 then 0 else k) o.2).2):=by simp [gp,bX,ret,e1,e3,e4,e5,hkk]
 rw [hv,hkk]
 have hrw:(b7 (p1.1::y.1)).length=(p1.1::y.1).length:=fC s hs _
 have hrw2:(p1.1::y.1).length=y.1.length+1:=rfl
 have hcal:(aT calls).length=calls.length:=aZ _
 repeat' (first|refine If ?_|refine ak ?_|refine IF a5 FN ?_)
 have hcon:∀i,(eT s (p1.1::y.1).length calls i o.2).1.length=i:=fun i=>v7 s hs _ calls o.2 i
 generalize hKK:(if calls.length=0 then 0 else k)=KK
 have hK:∀i:Nat,i < KK↔i < k∧0 < calls.length:=fun i=>by rw [←hKK];split <;> omega
 refine aO [0,2,6,7,12] (α:=Nat×Option (Nat×Nat)) (fun x=>[(13,aF x.1)]) (fun x=>x.1≤KK) (fun x=>[dG b s F (eT s (p1.1::y.1).length calls x.1 o.2).2,(rb,.box [.imm 1 (b7 w.1.1),.vec q1 1 (b7 (p1.1::y.1)),.imm 1 (b7 w.1.2),.vec none 1 [],.vec x.2 2 ((eT s (p1.1::y.1).length calls x.1 o.2).1.map eS),aF 0] 79),(tb,.box [bF,bF,bF,bF,bF,aF 0] 79)]++(tok x.2 81 2 ((eT s (p1.1::y.1).length calls x.1 o.2).1.map eS).length++(tok q1 22 1 (b7 (p1.1::y.1)).length++[]))) (fun x=>KK - x.1) (0,none) rfl ⟨rfl,trivial⟩ (Nat.zero_le _) (fun _ _ h=>h) ?_
 rintro ⟨i,q⟩ hi
 dsimp only at hi ⊢
 have hol:=hcon i
 have hstep:eT s (p1.1::y.1).length calls (i+1) o.2=(bX (dr s (p1.1::y.1).length) fun a=>bX (dr s calls.length) fun z=>ret ((eT s (p1.1::y.1).length calls i o.2).1++[(⟨a,calls.getD z.toNat 0⟩:gD)])) (eT s (p1.1::y.1).length calls i o.2).2:=rfl
 try dsimp only [Is,Ir,Iq,Ik]
 repeat' (first|refine If ?_|refine IF a5 FN ?_)
 by_cases hik:i < KK
 ·have hik2:=(hK i).1 hik
  rw [decide_eq_true (show ((i:Nat):Int) < (k:Int) by omega)]
  repeat' (first|refine If ?_|refine IF a5 FN ?_|refine IN FN ?_)
  rw [decide_eq_true (show (0:Int) < (((aT calls).length:Nat):Int) by omega)]
  generalize eT s (p1.1::y.1).length calls i o.2=st at hol hstep ⊢
  have hoil:(st.1.map eS).length=st.1.length:=Iu ..
  repeat' (first|refine If ?_|refine ak ?_|refine bQ rfl ?_)
  refine d7 [.cell (rb,4,.vec q 2 (st.1.map eS))] 16 [(0,.v),(1,.k),(2,.v),(3,.v),(4,.l),(5,.v),(7,.v),(8,.v),(9,.v),(10,.v),(6,.f),(11,.f),(12,.v),(13,.v),(14,.v),(15,.v)] none ?_ trivial rfl (by kernel_rfl) (by kernel_rfl) (by kernel_rfl) bT (by kernel_rfl) rfl
  repeat' (first|refine aC ?_|refine b6 a5 ?_|fail)
  refine dx a5 0 rfl rfl rfl (bD 1 rfl rfl bS) (by first | trivial | rfl) ?_
  repeat' (first|refine aC ?_|refine b6 a5 ?_|refine bZ a5 1 rfl rfl rfl rfl (by first|trivial|rfl) ?_)
  rw [hrw]
  refine er (bD 1 rfl rfl bS) ?_
  unfold bX at hstep
  generalize dr s (p1.1::y.1).length st.2=g1 at hstep ⊢
  dsimp only at hstep
  repeat' (first|refine aC ?_|fail)
  rw [hcal]
  refine er (bD 1 rfl rfl bS) ?_
  have hg:=cg s hs g1.2.a (n:=calls.length) (by omega)
  have hg:0≤(dr s calls.length g1.2).1∧(dr s calls.length g1.2).1 < calls.length:=hg
  generalize dr s calls.length g1.2=g2 at hg hstep ⊢
  have hgl:(aT calls)[g2.1.toNat]?=some [aF (calls.getD g2.1.toNat 0)]:=bR (by rw [List.getD_eq_getElem?_getD,Iz (show g2.1.toNat < calls.length by omega)];rfl)
  dsimp only [ret] at hstep
  repeat' (first|refine aC ?_|refine b6 a5 ?_|(apply cB;refine cS a5 ?_)|refine dS a5 ?_|fail)
  refine IQ [0,2,6,7,12,13,68,82] FN ?_
  repeat' (first|fail)
  refine bJ a5 _ rfl rfl rfl rfl (ev (A:=[_,_,_])) (by simp;omega) (by simp;omega) rfl fun q'=>?_
  refine aJ (aI (ev (A:=[_,_,_])).symm) ?_
  repeat' (first|refine If ?_|refine IF a5 FN ?_|(apply aV;refine aU ?_)|(apply aM;first|refine IG a5 0 ID ?_|refine IG a5 1 ID ?_|refine IG a5 2 ID ?_|refine IG a5 3 ID ?_|fail))
  exact aD (i+1,q') rfl ⟨by rw [Iv];rfl,trivial⟩ (by dsimp only;omega) (by dsimp only;omega) (fun _ _ h=>by dsimp only;rw [hstep];simpa [fa,f4,eS] using h)
 have hiK:i=KK:=by omega
 subst hiK
 generalize eT s (p1.1::y.1).length calls i o.2=st
 have hno:¬(i < k∧0 < calls.length):=fun h=>absurd ((hK i).2 h) (by omega)
 by_cases hik2:i < k
 ·rw [decide_eq_true (show ((i:Nat):Int) < (k:Int) by omega)]
  repeat' (first|refine If ?_|refine IF a5 FN ?_|refine IN FN ?_)
  rw [decide_eq_false (show ¬(0:Int) < (((aT calls).length:Nat):Int) by omega)]
  repeat' (first|refine If ?_|(apply bw;first|refine II a5 0 IC ?_|refine II a5 1 IC ?_|refine II a5 2 IC ?_|refine II a5 3 IC ?_|refine IJ a5 0 IC ?_|refine IJ a5 1 IC ?_|refine IJ a5 2 IC ?_|refine IK a5 1 IA (by assumption) rfl ?_|refine IK a5 0 IA (by assumption) rfl ?_|fail)|(apply aM;first|refine IG a5 0 ID ?_|refine IG a5 1 ID ?_|refine IG a5 2 ID ?_|refine IG a5 3 ID ?_|fail)|refine bI rfl ?_)
  exact bf (bo 2 (cs':=bA ⟨w.1.1,p1.1::y.1,w.1.2,[],st.1,0⟩) rfl fun σ vs h=>lX.vrs (a:=[.imm 1 (b7 w.1.1),.vec q1 1 (b7 (p1.1::y.1)),.imm 1 (b7 w.1.2),.vec none 1 [],.vec q 2 (st.1.map eS),aF 0]) (b:=bA ⟨w.1.1,p1.1::y.1,w.1.2,[],st.1,0⟩) ⟨cP.refl _,cP.im,cP.refl _,cP.im,cP.im,cP.refl _,trivial⟩ h) (iD a5 2 [dG b s F st.2] rfl rfl rfl rfl rfl (List.Sublist.cons_cons _ (List.nil_sublist _)) ⟨rfl,rfl⟩)
 ·rw [decide_eq_false (show ¬((i:Nat):Int) < (k:Int) by omega)]
  repeat' (first|refine If ?_|refine IF a5 FN ?_|refine IP IB ?_|(apply bw;first|refine II a5 0 IC ?_|refine II a5 1 IC ?_|refine II a5 2 IC ?_|refine II a5 3 IC ?_|refine IJ a5 0 IC ?_|refine IJ a5 1 IC ?_|refine IJ a5 2 IC ?_|refine IK a5 1 IA (by assumption) rfl ?_|refine IK a5 0 IA (by assumption) rfl ?_|fail)|(apply aM;first|refine IG a5 0 ID ?_|refine IG a5 1 ID ?_|refine IG a5 2 ID ?_|refine IG a5 3 ID ?_|fail)|refine bI rfl ?_)
  exact bf (bo 2 (cs':=bA ⟨w.1.1,p1.1::y.1,w.1.2,[],st.1,0⟩) rfl fun σ vs h=>lX.vrs (a:=[.imm 1 (b7 w.1.1),.vec q1 1 (b7 (p1.1::y.1)),.imm 1 (b7 w.1.2),.vec none 1 [],.vec q 2 (st.1.map eS),aF 0]) (b:=bA ⟨w.1.1,p1.1::y.1,w.1.2,[],st.1,0⟩) ⟨cP.refl _,cP.im,cP.refl _,cP.im,cP.im,cP.refl _,trivial⟩ h) (iD a5 2 [dG b s F st.2] rfl rfl rfl rfl rfl (List.Sublist.cons_cons _ (List.nil_sublist _)) ⟨rfl,rfl⟩)
end Go.Proofs.YtpmdfoaadejmkaaGreatDoor
namespace Go.Proofs.YtpmdfoaadejmkaaGreatDoor
open Go.RowKit
attribute [local irreducible] AT br AX AO Av Kt bb df DA cC
def fh (i j:Nat) (l:aL):List AV:=[aF l.Kind,ej l.Ignore,if j < i then .imm 6 (l.Rules.map bA) else bF]
def eu (i:Nat):Nat→List aL→List AV
 | _,[]=>[]
 | k,l::r=>fh i k l++eu i (k+1) r
theorem B2 (i:Nat):∀(l:List aL) (k:Nat),(eu i k l).length=l.length * 3
 | [],k=>rfl
 | x::l,k=>by
  rw [eu,List.length_append,B2 i l (k+1),List.length_cons,Nat.add_mul]
  simp [fh]
  omega
theorem sf (i:Nat):∀(l:List aL) (k j c:Nat),c < 3→(eu i k l)[j * 3+c]?=(l[j]?).bind fun x=>(fh i (k+j) x)[c]?
 | [],k,j,c,_=>by simp [eu]
 | x::l,k,0,c,hc=>by
  rw [eu,List.getElem?_append_left (by simp [fh];omega)]
  simp
 | x::l,k,j+1,c,hc=>by
  rw [eu,List.getElem?_append_right (by simp [fh];omega)]
  have h1:(j+1) * 3+c - (fh i k x).length=j * 3+c:=by simp [fh];omega
  rw [h1,sf i l (k+1) j c hc,List.getElem?_cons_succ]
  rw [show k+1+j=k+(j+1) by omega]
theorem wS (i:Nat):∀(l:List aL) (k:Nat) (x:aL),eu i k (l++[x])=eu i k l++fh i (k+l.length) x
 | [],k,x=>by simp [eu]
 | y::l,k,x=>by
  rw [Is,eu,wS i l (k+1) x,eu,List.append_assoc,List.length_cons,show k+1+l.length=k+(l.length+1) by omega]
theorem B3 {i:Nat} {l:List aL} {q:aL} {rs:List b8} (hq:l[i]?=some q):(eu i 0 l).set (i * 3+2) (.imm 6 (rs.map bA))=eu (i+1) 0 (l.set i { q with Rules:=rs }):=by
 have hil:=(Ip hq).1
 apply List.ext_getElem?
 intro p
 obtain ⟨j,c,hc,rfl⟩:∃j c,c < 3∧p=j * 3+c:=⟨p / 3,p % 3,Nat.mod_lt _ (by omega),by omega⟩
 rw [sf _ _ _ _ _ hc]
 by_cases e:i * 3+2=j * 3+c
 ·have hj:j=i:=by omega
  have hc2:c=2:=by omega
  subst hj;subst hc2
  rw [List.getElem?_set_self (by rw [B2];omega),List.getElem?_set_self hil]
  simp [fh]
 ·rw [List.getElem?_set_ne e,sf _ _ _ _ _ hc]
  by_cases hj:i=j
  ·subst hj
   rw [hq,List.getElem?_set_self hil]
   have hc2:c=0∨c=1:=by omega
   rcases hc2 with rfl | rfl <;> rfl
  ·rw [List.getElem?_set_ne hj]
   cases l[j]? with
   | none=>rfl
   | some x=>
    simp only [Option.bind_some,Nat.zero_add]
    have hc3:c=0∨c=1∨c=2:=by omega
    rcases hc3 with rfl | rfl | rfl
    ·rfl
    ·rfl
    ·simp only [fh]
     by_cases hlt:j < i
     ·rw [if_pos hlt,if_pos (by omega)]
     ·rw [if_neg hlt,if_neg (by omega)]
theorem Dm {i:Nat} {l:List aL} {q:aL} (hq:l[i]?=some q) (h0:q.Rules=[]):(eu i 0 l).set (i * 3+2) (.imm 6 [])=eu (i+1) 0 l:=by
 have:=B3 (rs:=[]) hq
 rw [show l.set i { q with Rules:=[] }=l from ?_] at this
 ·exact this
 ·have:({ q with Rules:=[] }:aL)=q:=by cases q;simp at h0;simp [h0]
  rw [this]
  apply List.ext_getElem?
  intro j
  by_cases e:i=j
  ·subst e;rw [List.getElem?_set_self (Ip hq).1,hq]
  ·rw [List.getElem?_set_ne e]
theorem B0:∀(l:List aL) (i k:Nat),k+l.length≤i→eu i k l=(l.map bC).flatten
 | [],i,k,_=>rfl
 | x::l,i,k,h=>by
  simp only [List.length_cons] at h
  rw [eu,B0 l i (k+1) (by omega),Iq,List.flatten_cons]
  congr 1
  simp only [fh]
  rw [if_pos (by omega)]
  rfl
def yg (i:Nat):Option (Nat×List AV×Nat)→AV
 | none=>bF
 | some (b,_,cap)=> .sc (.slice (some ⟨b,0,none⟩) i cap)
def AU:Option (Nat×List AV×Nat)→AL
 | none=>[]
 | some (b,cs,_)=>[(b,.box cs 59)]
def wR (n i:Nat) (l:List aL):Option (Nat×List AV×Nat)→Prop
 | none=>n=0
 | some (_,cs,cap)=>cs.length=cap * 3∧n≤cap∧cap≤maxLen∧cs.take (n * 3)=eu i 0 l
end Go.Proofs.YtpmdfoaadejmkaaGreatDoor
