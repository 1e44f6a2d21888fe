/-
  The maker: rules.
-/
import Derived.Test.YtpmdfoaadejmkaaGreatDoorM27
import Derived.Test.YtpmdfoaadejmkaaGreatDoorM12
namespace Go.Proofs.YtpmdfoaadejmkaaGreatDoor
open Go.RowKit
attribute [local irreducible] AT bv AX AO Av Kt b9 dh DA cE
variable (s:List Int) (hs:s.length≤1000000) (F:MF)
include hs
def EP (r:bb):AV:= .agg (bB r)
def Iu (rb:Nat) (b0 b1 b2 b3 b4:AV) (x:Int):Nat×AB:=(rb,.box [b0,b1,b2,b3,b4,aF x] 79)
theorem rP (a:List Int) (l:List (List Int)):b7 [a]++b7 l=b7 (a::l):=by
 have _:=hs
 clear hs
 rfl
theorem uq (n:Int) (m:MS) (k:Nat):(fR s n k m).1.length=k:=by
 have _:=hs
 clear hs
 induction k with
 | zero=>rfl
 | succ k ih=>
  have:fR s n (k+1) m=((fR s n k m).1++[(dr s n (fR s n k m).2).1],(dr s n (fR s n k m).2).2):=rfl
  rw [this]
  simp [ih]
theorem vl (nn:Int) (calls:List Int) (m:MS) (k:Nat):(eU s nn calls k m).1.length=k:=by
 have _:=hs
 clear hs
 induction k with
 | zero=>rfl
 | succ i ih=>
  have:eU s nn calls (i+1) m=(bX (dr s nn) fun a=>bX (dr s calls.length) fun z=>ret ((eU s nn calls i m).1++[(⟨a,calls.getD z.toNat 0⟩:gO)])) (eU s nn calls i m).2:=rfl
  rw [this]
  simp [bX,ret,ih]
set_option maxHeartbeats 16000000 in
theorem z4 {kg:Option (Nat×Nat)} {gl:List (List AV)} (hF:F.gl= .vec kg 9 gl) (n:Nat) (hn:gl.length=n) (h0:0 < n∧n≤1000) (kind:Int) (hk:1≤kind∧kind≤6) (calls:List Int) (hcl:calls.length≤1000):qI 176 [aF kind,.imm 1 (aT calls)] s F (gm s n kind calls) EP:=by
 intro b m
 refine aL Tryz.func176 rfl Tryz.ntmps176 rfl fun B=>?_
 repeat' (first|refine IT ?_|refine IF a5 G9 ?_|(apply bw;first|refine II a5 0 IC ?_|refine II a5 1 IC ?_|refine II a5 2 IC ?_|refine II a5 3 IC ?_|refine IJ a5 0 IC ?_|refine IJ a5 1 IC ?_|refine IJ a5 2 IC ?_|refine IK a5 1 IA (by assumption) rfl ?_|refine IK a5 0 IA (by assumption) rfl ?_|fail)|refine bi a5 fun _=>?_|fail)
 rw [hF]
 repeat' (first|refine IT ?_|refine IF a5 G9 ?_)
 rw [hn]
 rename_i tb rb
 refine aJ (aI (L':=[dH b s F m,(rb,.box [bI,bI,bI,bI,bI,aF 0] 79),(tb,.box [bI,bI,bI,bI,bI,aF 0] 79)]) (List.perm_append_comm (l₁:=[_,_]))) ?_
 refine uh (qo s hs F hF n hn h0) ?_
 have ha:=oU s (n:=n) (by omega) m
 generalize e1:mM s n m=p1 at ha ⊢
 have haf:=ha.few
 unfold E3
 repeat' (first|refine IT ?_|refine IF a5 G9 ?_|(apply aK;first|refine IG a5 0 ID ?_|refine IG a5 1 ID ?_|refine IG a5 2 ID ?_|refine IG a5 3 ID ?_|fail)|refine rG (d:=22) a5 fun _=>?_|fail)
 rename_i kb
 refine bP (aI (L':=[dH b s F p1.2,(rb,.box [bI,.vec (some (kb,1)) 1 (b7 [p1.1]),bI,bI,bI,aF 0] 79),(tb,.box [bI,bI,bI,bI,bI,aF 0] 79)]++(tok (some (kb,1)) 22 1 1++[])) (List.perm_append_comm (l₁:=[_]))) ?_
 repeat' (first|fail)
 refine ar rfl (fun h6=>?_) (fun h6=>?_)
 ·have h6:=Iy h6
  subst h6
  repeat' (first|refine IT ?_|fail)
  refine d8 [.cell (rb,1,.vec (some (kb,1)) 1 (b7 [p1.1]))] 5 [(0,.v),(1,.k),(2,.v),(3,.f),(4,.v)] none ?_ trivial rfl (by kernel_rfl) (by kernel_rfl) (by kernel_rfl) bU (by kernel_rfl) rfl
  repeat' (first|refine aD ?_|refine b8 a5 ?_|fail)
  refine dx a5 0 rfl rfl rfl (bF 1 rfl rfl bT) (by first | trivial | rfl) ?_
  repeat' (first|refine aD ?_|refine b8 a5 ?_|fail)
  refine rc (qo s hs F hF n hn h0) (bF 1 rfl rfl bT) ?_
  generalize e2:mM s n p1.2=p2
  unfold E3
  repeat' (first|refine aD ?_|refine dR a5 ?_|fail)
  refine IQ [0,6,7,27,30] G9 ?_
  repeat' (first|fail)
  refine bM a5 _ rfl rfl rfl rfl (ew (A:=[_,_,_])) (by simp [fw s hs]) (by simp [fw s hs]) rfl fun q'=>?_
  refine aJ (aI (ew (A:=[_,_,_])).symm) ?_
  repeat' (first|refine IT ?_|refine IF a5 G9 ?_|(apply aK;first|refine IG a5 0 ID ?_|refine IG a5 1 ID ?_|refine IG a5 2 ID ?_|refine IG a5 3 ID ?_|fail))
  refine cu ?_
  have hx:=cg s hs p2.2.a (n:=41) (by omega)
  have hx:0≤(dr s 41 p2.2).1∧(dr s 41 p2.2).1 < 41:=hx
  generalize e3:dr s 41 p2.2=p3 at hx ⊢
  repeat' (first|refine IT ?_|refine IF a5 G9 ?_|(apply bw;first|refine II a5 0 IC ?_|refine II a5 1 IC ?_|refine II a5 2 IC ?_|refine II a5 3 IC ?_|refine IJ a5 0 IC ?_|refine IJ a5 1 IC ?_|refine IJ a5 2 IC ?_|refine IK a5 1 IA (by assumption) rfl ?_|refine IK a5 0 IA (by assumption) rfl ?_|fail)|(apply aV;refine aU ?_)|(apply aK;first|refine IG a5 0 ID ?_|refine IG a5 1 ID ?_|refine IG a5 2 ID ?_|refine IG a5 3 ID ?_|fail))
  have hv:gm s n 6 calls m=(⟨[],[p1.1,p2.1],[],[],[],p3.1 * 10 - 200⟩,p3.2):=by simp [gm,EN,bX,ret,e1,e2,e3]
  rw [hv]
  refine bh (bq 2 (cs':=bB ⟨[],[p1.1,p2.1],[],[],[],p3.1 * 10 - 200⟩) rfl fun σ vs h=>lz.vrs (a:=[bI,.vec q' 1 (b7 [p1.1,p2.1]),bI,bI,bI,aF (p3.1 * 10 - 200)]) (b:=bB ⟨[],[p1.1,p2.1],[],[],[],p3.1 * 10 - 200⟩) ⟨cx.nil 1,cx.im,cx.nil 1,cx.nil 1,cx.nil 2,cx.refl _,trivial⟩ h) (iG a5 2 [dH b s F p3.2] rfl rfl rfl rfl rfl (List.Sublist.cons_cons _ (List.nil_sublist _)) ⟨rfl,rfl⟩)
 have h6:=Ix h6
 refine bP (bq 1 (cs':=[.imm 1 [],.vec (some (kb,1)) 1 (b7 [p1.1]),.imm 1 [],.vec none 1 [],.vec none 2 [],aF 0]) rfl fun σ vs h=>lz.vrs (a:=[bI,.vec (some (kb,1)) 1 (b7 [p1.1]),bI,bI,bI,aF 0]) (b:=[.imm 1 [],.vec (some (kb,1)) 1 (b7 [p1.1]),.imm 1 [],.vec none 1 [],.vec none 2 [],aF 0]) ⟨cx.nil 1,cx.refl _,cx.nil 1,cx.vecN 1,cx.vecN 2,cx.refl _,trivial⟩ h) ?_
 repeat' (first|refine IT ?_|refine IF a5 G9 ?_)
 refine cu ?_
 generalize e2:dr s 2 p1.2=z
 repeat' (first|refine IT ?_|refine IF a5 G9 ?_)
 refine sd [0,1,2,6,7,8] ([dH b s F (iS s n p1.2).2,(rb,.box [.imm 1 (b7 (iS s n p1.2).1.1),.vec (some (kb,1)) 1 (b7 [p1.1]),.imm 1 (b7 (iS s n p1.2).1.2),.vec none 1 [],.vec none 2 [],aF 0] 79),(tb,.box [bI,bI,bI,bI,bI,aF 0] 79)]++(tok (some (kb,1)) 22 1 1++[])) rfl (fun Q' K=>?_) ?_
 ·refine ar rfl (fun hz=>?_) (fun hz=>?_)
  ·have hz:=Iy hz
   repeat' (first|refine IT ?_|refine IF a5 G9 ?_)
   refine uh (mK s hs F hF n hn h0 2 (by omega)) ?_
   generalize e3:oF s n 2 z.2=y1
   unfold C5
   repeat' (first|refine IT ?_|refine IF a5 G9 ?_|(apply aK;first|refine IG a5 0 ID ?_|refine IG a5 1 ID ?_|refine IG a5 2 ID ?_|refine IG a5 3 ID ?_|fail))
   refine uh (mK s hs F hF n hn h0 2 (by omega)) ?_
   generalize e4:oF s n 2 y1.2=y2
   unfold C5
   repeat' (first|refine IT ?_|refine IF a5 G9 ?_|(apply aK;first|refine IG a5 0 ID ?_|refine IG a5 1 ID ?_|refine IG a5 2 ID ?_|refine IG a5 3 ID ?_|fail))
   have hv:iS s n p1.2=((y1.1,y2.1),y2.2):=by simp [iS,bX,ret,e2,e3,e4,hz]
   rw [hv] at K
   exact K _ rfl
  ·have hz:=Ix hz
   repeat' (first|refine IT ?_|fail)
   have hv:iS s n p1.2=(([],[]),z.2):=by simp [iS,bX,ret,e2,hz]
   rw [hv] at K
   exact K _ rfl
 generalize e3:iS s n p1.2=w
 have ha0:(b7 [p1.1])[0]?=some [.imm 1 (aT p1.1)]:=rfl
 have hial:(aT p1.1).length=p1.1.length:=b6 _
 by_cases h15:kind=1∨kind=5
 ·have hv:gm s n kind calls m=(⟨w.1.1,[p1.1],w.1.2,(fR s n p1.1.length w.2).1,[],0⟩,(fR s n p1.1.length w.2).2):=by simp [gm,bX,ret,e1,e3,h6,h15]
  rw [hv]
  rcases h15 with rfl | rfl
  all_goals
   repeat' (first|refine IT ?_|refine am ?_|refine IF a5 G9 ?_|refine bQ rfl ?_|refine bK rfl ?_)
   refine aO [0,6,7,8] (α:=Nat×Option (Nat×Nat)) (fun x=>[(9,aF x.1)]) (fun x=>x.1≤p1.1.length) (fun x=>[dH b s F (fR s n x.1 w.2).2,(rb,.box [.imm 1 (b7 w.1.1),.vec (some (kb,1)) 1 (b7 [p1.1]),.imm 1 (b7 w.1.2),.vec x.2 1 (aT (fR s n x.1 w.2).1),.vec none 2 [],aF 0] 79),(tb,.box [bI,bI,bI,bI,bI,aF 0] 79)]++(tok x.2 3 1 (aT (fR s n x.1 w.2).1).length++(tok (some (kb,1)) 22 1 1++[]))) (fun x=>p1.1.length - x.1) (0,none) rfl ⟨rfl,trivial⟩ (Nat.zero_le _) (fun _ _ h=>h) ?_
   rintro ⟨i,q⟩ hi
   dsimp only at hi ⊢
   have hol:=uq s hs n w.2 i
   have hstep:fR s n (i+1) w.2=((fR s n i w.2).1++[(dr s n (fR s n i w.2).2).1],(dr s n (fR s n i w.2).2).2):=rfl
   try dsimp only [Jx,Jw,Jv,Jq]
   repeat' (first|refine IT ?_|refine IF a5 G9 ?_|(apply bw;first|refine II a5 0 IC ?_|refine II a5 1 IC ?_|refine II a5 2 IC ?_|refine II a5 3 IC ?_|refine IJ a5 0 IC ?_|refine IJ a5 1 IC ?_|refine IJ a5 2 IC ?_|refine IK a5 1 IA (by assumption) rfl ?_|refine IK a5 0 IA (by assumption) rfl ?_|fail)|(apply aS;first|refine aQ a5 ?_|refine aG a5 ?_)|fail)
   refine ar rfl (fun h=>?_) (fun h=>?_)
   ·have hil:i < p1.1.length:=by have:=Iy h;omega
    generalize fR s n i w.2=st at hol hstep ⊢
    have hoil:(aT st.1).length=st.1.length:=b6 _
    repeat' (first|refine IT ?_|refine am ?_)
    refine d8 [.cell (rb,3,.vec q 1 (aT st.1))] 6 [(0,.v),(1,.k),(2,.v),(3,.v),(4,.f),(5,.v)] none ?_ trivial rfl (by kernel_rfl) (by kernel_rfl) (by kernel_rfl) bU (by kernel_rfl) rfl
    repeat' (first|refine aD ?_|refine b8 a5 ?_|fail)
    refine dx a5 0 rfl rfl rfl (bF 1 rfl rfl bT) (by first | trivial | rfl) ?_
    repeat' (first|refine aD ?_|refine b8 a5 ?_|fail)
    refine eu (bF 1 rfl rfl bT) ?_
    generalize dr s n st.2=o at hstep ⊢
    repeat' (first|refine aD ?_|refine dR a5 ?_|fail)
    refine IQ [0,6,7,8,9,98,102] G9 ?_
    repeat' (first|fail)
    refine bM a5 _ rfl rfl rfl rfl (ew (A:=[_,_,_])) (by simp [b6];omega) (by simp [b6];omega) rfl fun q'=>?_
    refine aJ (aI (ew (A:=[_,_,_])).symm) ?_
    repeat' (first|refine IT ?_|refine IF a5 G9 ?_|(apply aV;refine aU ?_)|(apply aK;first|refine IG a5 0 ID ?_|refine IG a5 1 ID ?_|refine IG a5 2 ID ?_|refine IG a5 3 ID ?_|fail))
    exact aC (i+1,q') rfl ⟨by rw [Iv];rfl,trivial⟩ (by dsimp only;omega) (by dsimp only;omega) (fun _ _ h=>by dsimp only;rw [hstep];simpa [fa,f4,aT] using h)
   have hil:i=p1.1.length:=by have:=Ix h;omega
   subst hil
   generalize fR s n p1.1.length w.2=st
   repeat' (first|refine IT ?_|(apply bw;first|refine II a5 0 IC ?_|refine II a5 1 IC ?_|refine II a5 2 IC ?_|refine II a5 3 IC ?_|refine IJ a5 0 IC ?_|refine IJ a5 1 IC ?_|refine IJ a5 2 IC ?_|refine IK a5 1 IA (by assumption) rfl ?_|refine IK a5 0 IA (by assumption) rfl ?_|fail)|(apply aK;first|refine IG a5 0 ID ?_|refine IG a5 1 ID ?_|refine IG a5 2 ID ?_|refine IG a5 3 ID ?_|fail))
   exact bh (bq 2 (cs':=bB ⟨w.1.1,[p1.1],w.1.2,st.1,[],0⟩) rfl fun σ vs h=>lz.vrs (a:=[.imm 1 (b7 w.1.1),.vec (some (kb,1)) 1 (b7 [p1.1]),.imm 1 (b7 w.1.2),.vec q 1 (aT st.1),.vec none 2 [],aF 0]) (b:=bB ⟨w.1.1,[p1.1],w.1.2,st.1,[],0⟩) ⟨cx.refl _,cx.im,cx.refl _,cx.im,cx.im,cx.refl _,trivial⟩ h) (iG a5 2 [dH b s F st.2] rfl rfl rfl rfl rfl (List.Sublist.cons_cons _ (List.nil_sublist _)) ⟨rfl,rfl⟩)
 by_cases h2:kind=2
 ·subst h2
  repeat' (first|refine IT ?_|refine am ?_|refine IF a5 G9 ?_|refine bQ rfl ?_|refine bK rfl ?_)
  refine cu ?_
  have hc:=cg s hs w.2.a (n:=4) (by omega)
  have hc:0≤(dr s 4 w.2).1∧(dr s 4 w.2).1 < 4:=hc
  generalize e4:dr s 4 w.2=y at hc ⊢
  obtain ⟨k,hkk⟩:∃k:Nat,y.1=k:=⟨y.1.toNat,by omega⟩
  have hv:gm s n 2 calls m=(⟨w.1.1,[p1.1],w.1.2,(fR s n k y.2).1,[],0⟩,(fR s n k y.2).2):=by simp [gm,bX,ret,e1,e3,e4,hkk]
  rw [hv,hkk]
  repeat' (first|refine IT ?_|refine am ?_|refine IF a5 G9 ?_)
  refine aO [0,6,7,8,10] (α:=Nat×Option (Nat×Nat)) (fun x=>[(11,aF x.1)]) (fun x=>x.1≤k) (fun x=>[dH b s F (fR s n x.1 y.2).2,(rb,.box [.imm 1 (b7 w.1.1),.vec (some (kb,1)) 1 (b7 [p1.1]),.imm 1 (b7 w.1.2),.vec x.2 1 (aT (fR s n x.1 y.2).1),.vec none 2 [],aF 0] 79),(tb,.box [bI,bI,bI,bI,bI,aF 0] 79)]++(tok x.2 3 1 (aT (fR s n x.1 y.2).1).length++(tok (some (kb,1)) 22 1 1++[]))) (fun x=>k - x.1) (0,none) rfl ⟨rfl,trivial⟩ (Nat.zero_le _) (fun _ _ h=>h) ?_
  rintro ⟨i,q⟩ hi
  dsimp only at hi ⊢
  have hol:=uq s hs n y.2 i
  have hstep:fR s n (i+1) y.2=((fR s n i y.2).1++[(dr s n (fR s n i y.2).2).1],(dr s n (fR s n i y.2).2).2):=rfl
  try dsimp only [Jx,Jw,Jv,Jq]
  repeat' (first|refine IT ?_|refine IF a5 G9 ?_)
  refine ar rfl (fun h=>?_) (fun h=>?_)
  ·have hil:i < k:=by have:=Iy h;omega
   generalize fR s n i y.2=st at hol hstep ⊢
   have hoil:(aT st.1).length=st.1.length:=b6 _
   repeat' (first|refine IT ?_|refine am ?_)
   refine d8 [.cell (rb,3,.vec q 1 (aT st.1))] 6 [(0,.v),(1,.k),(2,.v),(3,.v),(4,.f),(5,.v)] none ?_ trivial rfl (by kernel_rfl) (by kernel_rfl) (by kernel_rfl) bU (by kernel_rfl) rfl
   repeat' (first|refine aD ?_|refine b8 a5 ?_|fail)
   refine dx a5 0 rfl rfl rfl (bF 1 rfl rfl bT) (by first | trivial | rfl) ?_
   repeat' (first|refine aD ?_|refine b8 a5 ?_|fail)
   refine eu (bF 1 rfl rfl bT) ?_
   generalize dr s n st.2=o at hstep ⊢
   repeat' (first|refine aD ?_|refine dR a5 ?_|fail)
   refine IQ [0,6,7,8,10,11,115,119] G9 ?_
   repeat' (first|fail)
   refine bM a5 _ rfl rfl rfl rfl (ew (A:=[_,_,_])) (by simp [b6];omega) (by simp [b6];omega) rfl fun q'=>?_
   refine aJ (aI (ew (A:=[_,_,_])).symm) ?_
   repeat' (first|refine IT ?_|refine IF a5 G9 ?_|(apply aV;refine aU ?_)|(apply aK;first|refine IG a5 0 ID ?_|refine IG a5 1 ID ?_|refine IG a5 2 ID ?_|refine IG a5 3 ID ?_|fail))
   exact aC (i+1,q') rfl ⟨by rw [Iv];rfl,trivial⟩ (by dsimp only;omega) (by dsimp only;omega) (fun _ _ h=>by dsimp only;rw [hstep];simpa [fa,f4,aT] using h)
  have hil:i=k:=by have:=Ix h;omega
  subst hil
  generalize fR s n i y.2=st
  repeat' (first|refine IT ?_|(apply bw;first|refine II a5 0 IC ?_|refine II a5 1 IC ?_|refine II a5 2 IC ?_|refine II a5 3 IC ?_|refine IJ a5 0 IC ?_|refine IJ a5 1 IC ?_|refine IJ a5 2 IC ?_|refine IK a5 1 IA (by assumption) rfl ?_|refine IK a5 0 IA (by assumption) rfl ?_|fail)|(apply aK;first|refine IG a5 0 ID ?_|refine IG a5 1 ID ?_|refine IG a5 2 ID ?_|refine IG a5 3 ID ?_|fail))
  exact bh (bq 2 (cs':=bB ⟨w.1.1,[p1.1],w.1.2,st.1,[],0⟩) rfl fun σ vs h=>lz.vrs (a:=[.imm 1 (b7 w.1.1),.vec (some (kb,1)) 1 (b7 [p1.1]),.imm 1 (b7 w.1.2),.vec q 1 (aT st.1),.vec none 2 [],aF 0]) (b:=bB ⟨w.1.1,[p1.1],w.1.2,st.1,[],0⟩) ⟨cx.refl _,cx.im,cx.refl _,cx.im,cx.im,cx.refl _,trivial⟩ h) (iG a5 2 [dH b s F st.2] rfl rfl rfl rfl rfl (List.Sublist.cons_cons _ (List.nil_sublist _)) ⟨rfl,rfl⟩)
 have hrow:=mJ s (n:=n) (by omega) w.2
 by_cases h3:kind=3
 ·subst h3
  repeat' (first|refine IT ?_|refine am ?_|refine IF a5 G9 ?_|refine bQ rfl ?_|refine bK rfl ?_)
  refine d8 [.cell (rb,1,.vec (some (kb,1)) 1 (b7 [p1.1]))] 4 [(0,.v),(1,.k),(2,.v),(3,.f)] none ?_ trivial rfl (by kernel_rfl) (by kernel_rfl) (by kernel_rfl) bU (by kernel_rfl) rfl
  repeat' (first|refine aD ?_|refine b8 a5 ?_|fail)
  refine dx a5 0 rfl rfl rfl (bF 1 rfl rfl bT) (by first | trivial | rfl) ?_
  repeat' (first|refine aD ?_|refine b8 a5 ?_|fail)
  refine rc (mK s hs F hF n hn h0 2 (by omega)) (bF 1 rfl rfl bT) ?_
  generalize e4:oF s n 2 w.2=y at hrow ⊢
  have hrl:=hrow.1
  unfold C5
  repeat' (first|fail)
  refine IQ [0,6,7,8,125,127] G9 ?_
  repeat' (first|fail)
  refine bM a5 _ rfl rfl rfl rfl (ew (A:=[_,_,_])) (by simp [fw s hs];omega) (by simp [fw s hs];omega) rfl fun q'=>?_
  refine aJ (aI (ew (A:=[_,_,_])).symm) ?_
  rw [rP s hs]
  repeat' (first|refine IT ?_|refine IF a5 G9 ?_|(apply aK;first|refine IG a5 0 ID ?_|refine IG a5 1 ID ?_|refine IG a5 2 ID ?_|refine IG a5 3 ID ?_|fail))
  refine cu ?_
  generalize e5:dr s n y.2=o
  have hv:gm s n 3 calls m=(⟨w.1.1,p1.1::y.1,w.1.2,[o.1],[],0⟩,o.2):=by simp [gm,bX,ret,e1,e3,e4,e5]
  rw [hv]
  repeat' (first|refine IT ?_|refine IF a5 G9 ?_|(apply bw;first|refine II a5 0 IC ?_|refine II a5 1 IC ?_|refine II a5 2 IC ?_|refine II a5 3 IC ?_|refine IJ a5 0 IC ?_|refine IJ a5 1 IC ?_|refine IJ a5 2 IC ?_|refine IK a5 1 IA (by assumption) rfl ?_|refine IK a5 0 IA (by assumption) rfl ?_|fail)|(apply aK;first|refine IG a5 0 ID ?_|refine IG a5 1 ID ?_|refine IG a5 2 ID ?_|refine IG a5 3 ID ?_|fail)|refine bH a5 ?_|fail)
  exact bh (bq 2 (cs':=bB ⟨w.1.1,p1.1::y.1,w.1.2,[o.1],[],0⟩) rfl fun σ vs h=>lz.vrs (a:=[.imm 1 (b7 w.1.1),.vec q' 1 (b7 (p1.1::y.1)),.imm 1 (b7 w.1.2),.imm 1 (aT [o.1]),.vec none 2 [],aF 0]) (b:=bB ⟨w.1.1,p1.1::y.1,w.1.2,[o.1],[],0⟩) ⟨cx.refl _,cx.im,cx.refl _,cx.refl _,cx.im,cx.refl _,trivial⟩ h) (iG a5 2 [dH b s F o.2] rfl rfl rfl rfl rfl (List.Sublist.cons_cons _ (List.nil_sublist _)) ⟨rfl,rfl⟩)
 have h4:kind=4:=by omega
 subst h4
 repeat' (first|refine IT ?_|refine am ?_|refine IF a5 G9 ?_|refine bK rfl ?_)
 refine d8 [.cell (rb,1,.vec (some (kb,1)) 1 (b7 [p1.1]))] 4 [(0,.v),(1,.k),(2,.v),(3,.f)] none ?_ trivial rfl (by kernel_rfl) (by kernel_rfl) (by kernel_rfl) bU (by kernel_rfl) rfl
 repeat' (first|refine aD ?_|refine b8 a5 ?_|fail)
 refine dx a5 0 rfl rfl rfl (bF 1 rfl rfl bT) (by first | trivial | rfl) ?_
 repeat' (first|refine aD ?_|refine b8 a5 ?_|fail)
 refine rc (mK s hs F hF n hn h0 2 (by omega)) (bF 1 rfl rfl bT) ?_
 generalize e4:oF s n 2 w.2=y at hrow ⊢
 have hrl:=hrow.1
 unfold C5
 repeat' (first|fail)
 refine IQ [0,2,6,7,50,52] G9 ?_
 repeat' (first|fail)
 refine bM a5 _ rfl rfl rfl rfl (ew (A:=[_,_,_])) (by simp [fw s hs];omega) (by simp [fw s hs];omega) rfl fun q1=>?_
 refine aJ (aI (ew (A:=[_,_,_])).symm) ?_
 rw [rP s hs]
 repeat' (first|refine IT ?_|refine IF a5 G9 ?_|(apply aK;first|refine IG a5 0 ID ?_|refine IG a5 1 ID ?_|refine IG a5 2 ID ?_|refine IG a5 3 ID ?_|fail))
 refine cu ?_
 have hc:=cg s hs y.2.a (n:=3) (by omega)
 have hc:0≤(dr s 3 y.2).1∧(dr s 3 y.2).1 < 3:=hc
 generalize e5:dr s 3 y.2=o at hc ⊢
 obtain ⟨k,hkk⟩:∃k:Nat,o.1=k:=⟨o.1.toNat,by omega⟩
 have hv:gm s n 4 calls m=(⟨w.1.1,p1.1::y.1,w.1.2,[],(eU s (p1.1::y.1).length calls (if calls.length=0 then 0 else k) o.2).1,0⟩,(eU s (p1.1::y.1).length calls (if calls.length=0 then 0 else k) o.2).2):=by simp [gm,bX,ret,e1,e3,e4,e5,hkk]
 rw [hv,hkk]
 have hrw:(b7 (p1.1::y.1)).length=(p1.1::y.1).length:=fw s hs _
 have hrw2:(p1.1::y.1).length=y.1.length+1:=rfl
 have hcal:(aT calls).length=calls.length:=b6 _
 repeat' (first|refine IT ?_|refine am ?_|refine IF a5 G9 ?_)
 have hcon:∀i,(eU s (p1.1::y.1).length calls i o.2).1.length=i:=fun i=>vl s hs _ calls o.2 i
 generalize hKK:(if calls.length=0 then 0 else k)=KK
 have hK:∀i:Nat,i < KK↔i < k∧0 < calls.length:=fun i=>by rw [←hKK];split <;> omega
 refine aO [0,2,6,7,12] (α:=Nat×Option (Nat×Nat)) (fun x=>[(13,aF x.1)]) (fun x=>x.1≤KK) (fun x=>[dH b s F (eU s (p1.1::y.1).length calls x.1 o.2).2,(rb,.box [.imm 1 (b7 w.1.1),.vec q1 1 (b7 (p1.1::y.1)),.imm 1 (b7 w.1.2),.vec none 1 [],.vec x.2 2 ((eU s (p1.1::y.1).length calls x.1 o.2).1.map eT),aF 0] 79),(tb,.box [bI,bI,bI,bI,bI,aF 0] 79)]++(tok x.2 81 2 ((eU s (p1.1::y.1).length calls x.1 o.2).1.map eT).length++(tok q1 22 1 (b7 (p1.1::y.1)).length++[]))) (fun x=>KK - x.1) (0,none) rfl ⟨rfl,trivial⟩ (Nat.zero_le _) (fun _ _ h=>h) ?_
 rintro ⟨i,q⟩ hi
 dsimp only at hi ⊢
 have hol:=hcon i
 have hstep:eU s (p1.1::y.1).length calls (i+1) o.2=(bX (dr s (p1.1::y.1).length) fun a=>bX (dr s calls.length) fun z=>ret ((eU s (p1.1::y.1).length calls i o.2).1++[(⟨a,calls.getD z.toNat 0⟩:gO)])) (eU s (p1.1::y.1).length calls i o.2).2:=rfl
 try dsimp only [Jx,Jw,Jv,Jq]
 repeat' (first|refine IT ?_|refine IF a5 G9 ?_)
 by_cases hik:i < KK
 ·have hik2:=(hK i).1 hik
  rw [decide_eq_true (show ((i:Nat):Int) < (k:Int) by omega)]
  repeat' (first|refine IT ?_|refine IF a5 G9 ?_|refine IM G9 ?_)
  rw [decide_eq_true (show (0:Int) < (((aT calls).length:Nat):Int) by omega)]
  generalize eU s (p1.1::y.1).length calls i o.2=st at hol hstep ⊢
  have hoil:(st.1.map eT).length=st.1.length:=Jz ..
  repeat' (first|refine IT ?_|refine am ?_|refine bQ rfl ?_)
  refine d8 [.cell (rb,4,.vec q 2 (st.1.map eT))] 16 [(0,.v),(1,.k),(2,.v),(3,.v),(4,.l),(5,.v),(7,.v),(8,.v),(9,.v),(10,.v),(6,.f),(11,.f),(12,.v),(13,.v),(14,.v),(15,.v)] none ?_ trivial rfl (by kernel_rfl) (by kernel_rfl) (by kernel_rfl) bU (by kernel_rfl) rfl
  repeat' (first|refine aD ?_|refine b8 a5 ?_|fail)
  refine dx a5 0 rfl rfl rfl (bF 1 rfl rfl bT) (by first | trivial | rfl) ?_
  repeat' (first|refine aD ?_|refine b8 a5 ?_|refine bZ a5 1 rfl rfl rfl rfl (by first|trivial|rfl) ?_)
  rw [hrw]
  refine eu (bF 1 rfl rfl bT) ?_
  unfold bX at hstep
  generalize dr s (p1.1::y.1).length st.2=g1 at hstep ⊢
  dsimp only at hstep
  repeat' (first|refine aD ?_|fail)
  rw [hcal]
  refine eu (bF 1 rfl rfl bT) ?_
  have hg:=cg s hs g1.2.a (n:=calls.length) (by omega)
  have hg:0≤(dr s calls.length g1.2).1∧(dr s calls.length g1.2).1 < calls.length:=hg
  generalize dr s calls.length g1.2=g2 at hg hstep ⊢
  have hgl:(aT calls)[g2.1.toNat]?=some [aF (calls.getD g2.1.toNat 0)]:=bR (by rw [List.getD_eq_getElem?_getD,Iz (show g2.1.toNat < calls.length by omega)];rfl)
  dsimp only [ret] at hstep
  repeat' (first|refine aD ?_|refine b8 a5 ?_|(apply cB;refine cT a5 ?_)|refine dR a5 ?_|fail)
  refine IQ [0,2,6,7,12,13,68,82] G9 ?_
  repeat' (first|fail)
  refine bM a5 _ rfl rfl rfl rfl (ew (A:=[_,_,_])) (by simp;omega) (by simp;omega) rfl fun q'=>?_
  refine aJ (aI (ew (A:=[_,_,_])).symm) ?_
  repeat' (first|refine IT ?_|refine IF a5 G9 ?_|(apply aV;refine aU ?_)|(apply aK;first|refine IG a5 0 ID ?_|refine IG a5 1 ID ?_|refine IG a5 2 ID ?_|refine IG a5 3 ID ?_|fail))
  exact aC (i+1,q') rfl ⟨by rw [Iv];rfl,trivial⟩ (by dsimp only;omega) (by dsimp only;omega) (fun _ _ h=>by dsimp only;rw [hstep];simpa [fa,f4,eT] using h)
 have hiK:i=KK:=by omega
 subst hiK
 generalize eU s (p1.1::y.1).length calls i o.2=st
 have hno:¬(i < k∧0 < calls.length):=fun h=>absurd ((hK i).2 h) (by omega)
 by_cases hik2:i < k
 ·rw [decide_eq_true (show ((i:Nat):Int) < (k:Int) by omega)]
  repeat' (first|refine IT ?_|refine IF a5 G9 ?_|refine IM G9 ?_)
  rw [decide_eq_false (show ¬(0:Int) < (((aT calls).length:Nat):Int) by omega)]
  repeat' (first|refine IT ?_|(apply bw;first|refine II a5 0 IC ?_|refine II a5 1 IC ?_|refine II a5 2 IC ?_|refine II a5 3 IC ?_|refine IJ a5 0 IC ?_|refine IJ a5 1 IC ?_|refine IJ a5 2 IC ?_|refine IK a5 1 IA (by assumption) rfl ?_|refine IK a5 0 IA (by assumption) rfl ?_|fail)|(apply aK;first|refine IG a5 0 ID ?_|refine IG a5 1 ID ?_|refine IG a5 2 ID ?_|refine IG a5 3 ID ?_|fail)|refine bK rfl ?_)
  exact bh (bq 2 (cs':=bB ⟨w.1.1,p1.1::y.1,w.1.2,[],st.1,0⟩) rfl fun σ vs h=>lz.vrs (a:=[.imm 1 (b7 w.1.1),.vec q1 1 (b7 (p1.1::y.1)),.imm 1 (b7 w.1.2),.vec none 1 [],.vec q 2 (st.1.map eT),aF 0]) (b:=bB ⟨w.1.1,p1.1::y.1,w.1.2,[],st.1,0⟩) ⟨cx.refl _,cx.im,cx.refl _,cx.im,cx.im,cx.refl _,trivial⟩ h) (iG a5 2 [dH b s F st.2] rfl rfl rfl rfl rfl (List.Sublist.cons_cons _ (List.nil_sublist _)) ⟨rfl,rfl⟩)
 ·rw [decide_eq_false (show ¬((i:Nat):Int) < (k:Int) by omega)]
  repeat' (first|refine IT ?_|refine IF a5 G9 ?_|refine IP IB ?_|(apply bw;first|refine II a5 0 IC ?_|refine II a5 1 IC ?_|refine II a5 2 IC ?_|refine II a5 3 IC ?_|refine IJ a5 0 IC ?_|refine IJ a5 1 IC ?_|refine IJ a5 2 IC ?_|refine IK a5 1 IA (by assumption) rfl ?_|refine IK a5 0 IA (by assumption) rfl ?_|fail)|(apply aK;first|refine IG a5 0 ID ?_|refine IG a5 1 ID ?_|refine IG a5 2 ID ?_|refine IG a5 3 ID ?_|fail)|refine bK rfl ?_)
  exact bh (bq 2 (cs':=bB ⟨w.1.1,p1.1::y.1,w.1.2,[],st.1,0⟩) rfl fun σ vs h=>lz.vrs (a:=[.imm 1 (b7 w.1.1),.vec q1 1 (b7 (p1.1::y.1)),.imm 1 (b7 w.1.2),.vec none 1 [],.vec q 2 (st.1.map eT),aF 0]) (b:=bB ⟨w.1.1,p1.1::y.1,w.1.2,[],st.1,0⟩) ⟨cx.refl _,cx.im,cx.refl _,cx.im,cx.im,cx.refl _,trivial⟩ h) (iG a5 2 [dH b s F st.2] rfl rfl rfl rfl rfl (List.Sublist.cons_cons _ (List.nil_sublist _)) ⟨rfl,rfl⟩)
end Go.Proofs.YtpmdfoaadejmkaaGreatDoor
namespace Go.Proofs.YtpmdfoaadejmkaaGreatDoor
open Go.RowKit
attribute [local irreducible] AT bv AX AO Av Kt b9 dh DA cE
def ff (i j:Nat) (l:aN):List AV:=[aF l.Kind,ec l.Ignore,if j < i then .imm 6 (l.Rules.map bB) else bI]
def ev (i:Nat):Nat→List aN→List AV
 | _,[]=>[]
 | k,l::r=>ff i k l++ev i (k+1) r
theorem Bp (i:Nat):∀(l:List aN) (k:Nat),(ev i k l).length=l.length * 3
 | [],k=>rfl
 | x::l,k=>by
  rw [ev,List.length_append,Bp i l (k+1),List.length_cons,Nat.add_mul]
  simp [ff]
  omega
theorem sv (i:Nat):∀(l:List aN) (k j c:Nat),c < 3→(ev i k l)[j * 3+c]?=(l[j]?).bind fun x=>(ff i (k+j) x)[c]?
 | [],k,j,c,_=>by simp [ev]
 | x::l,k,0,c,hc=>by
  rw [ev,List.getElem?_append_left (by simp [ff];omega)]
  simp
 | x::l,k,j+1,c,hc=>by
  rw [ev,List.getElem?_append_right (by simp [ff];omega)]
  have h1:(j+1) * 3+c - (ff i k x).length=j * 3+c:=by simp [ff];omega
  rw [h1,sv i l (k+1) j c hc,List.getElem?_cons_succ]
  rw [show k+1+j=k+(j+1) by omega]
theorem x5 (i:Nat):∀(l:List aN) (k:Nat) (x:aN),ev i k (l++[x])=ev i k l++ff i (k+l.length) x
 | [],k,x=>by simp [ev]
 | y::l,k,x=>by
  rw [Jx,ev,x5 i l (k+1) x,ev,List.append_assoc,List.length_cons,show k+1+l.length=k+(l.length+1) by omega]
theorem Bq {i:Nat} {l:List aN} {q:aN} {rs:List bb} (hq:l[i]?=some q):(ev i 0 l).set (i * 3+2) (.imm 6 (rs.map bB))=ev (i+1) 0 (l.set i { q with Rules:=rs }):=by
 have hil:=(Ju hq).1
 apply List.ext_getElem?
 intro p
 obtain ⟨j,c,hc,rfl⟩:∃j c,c < 3∧p=j * 3+c:=⟨p / 3,p % 3,Nat.mod_lt _ (by omega),by omega⟩
 rw [sv _ _ _ _ _ hc]
 by_cases e:i * 3+2=j * 3+c
 ·have hj:j=i:=by omega
  have hc2:c=2:=by omega
  subst hj;subst hc2
  rw [List.getElem?_set_self (by rw [Bp];omega),List.getElem?_set_self hil]
  simp [ff]
 ·rw [List.getElem?_set_ne e,sv _ _ _ _ _ hc]
  by_cases hj:i=j
  ·subst hj
   rw [hq,List.getElem?_set_self hil]
   have hc2:c=0∨c=1:=by omega
   rcases hc2 with rfl | rfl <;> rfl
  ·rw [List.getElem?_set_ne hj]
   cases l[j]? with
   | none=>rfl
   | some x=>
    simp only [Option.bind_some,Nat.zero_add]
    have hc3:c=0∨c=1∨c=2:=by omega
    rcases hc3 with rfl | rfl | rfl
    ·rfl
    ·rfl
    ·simp only [ff]
     by_cases hlt:j < i
     ·rw [if_pos hlt,if_pos (by omega)]
     ·rw [if_neg hlt,if_neg (by omega)]
theorem DL {i:Nat} {l:List aN} {q:aN} (hq:l[i]?=some q) (h0:q.Rules=[]):(ev i 0 l).set (i * 3+2) (.imm 6 [])=ev (i+1) 0 l:=by
 have:=Bq (rs:=[]) hq
 rw [show l.set i { q with Rules:=[] }=l from ?_] at this
 ·exact this
 ·have:({ q with Rules:=[] }:aN)=q:=by cases q;simp at h0;simp [h0]
  rw [this]
  apply List.ext_getElem?
  intro j
  by_cases e:i=j
  ·subst e;rw [List.getElem?_set_self (Ju hq).1,hq]
  ·rw [List.getElem?_set_ne e]
theorem Bo:∀(l:List aN) (i k:Nat),k+l.length≤i→ev i k l=(l.map bC).flatten
 | [],i,k,_=>rfl
 | x::l,i,k,h=>by
  simp only [List.length_cons] at h
  rw [ev,Bo l i (k+1) (by omega),Jv,List.flatten_cons]
  congr 1
  simp only [ff]
  rw [if_pos (by omega)]
  rfl
def yA (i:Nat):Option (Nat×List AV×Nat)→AV
 | none=>bI
 | some (b,_,cap)=> .sc (.slice (some ⟨b,0,none⟩) i cap)
def Bl:Option (Nat×List AV×Nat)→AL
 | none=>[]
 | some (b,cs,_)=>[(b,.box cs 59)]
def x4 (n i:Nat) (l:List aN):Option (Nat×List AV×Nat)→Prop
 | none=>n=0
 | some (_,cs,cap)=>cs.length=cap * 3∧n≤cap∧cap≤maxLen∧cs.take (n * 3)=ev i 0 l
end Go.Proofs.YtpmdfoaadejmkaaGreatDoor
