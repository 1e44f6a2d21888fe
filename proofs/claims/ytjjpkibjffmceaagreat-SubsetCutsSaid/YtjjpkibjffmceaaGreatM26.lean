/-
  The maker: rules.
-/
import Derived.Test.YtjjpkibjffmceaaGreatM25
import Derived.Test.YtjjpkibjffmceaaGreatM11
namespace Go.Proofs.YtjjpkibjffmceaaGreat
open Go.RowKit
attribute [local irreducible] AT cg AX AO Av Kt bJ eC DA du
variable (s:List Int) (hs:s.length≤1000000) (F:MF)
include hs
def Fh (r:cb):AV:= .agg (bE r)
def IA (rb:Nat) (b0 b1 b2 b3 b4:AV) (x:Int):Nat×AB:=(rb,.box [b0,b1,b2,b3,b4,aP x] 81)
theorem rM (a:List Int) (l:List (List Int)):bw [a]++bw l=bw (a::l):=by
 have _:=hs
 clear hs
 rfl
theorem uJ (n:Int) (m:MS) (k:Nat):(gA s n k m).1.length=k:=by
 have _:=hs
 clear hs
 induction k with
 | zero=>rfl
 | succ k ih=>
  have:gA s n (k+1) m=((gA s n k m).1++[(dr s n (gA s n k m).2).1],(dr s n (gA s n k m).2).2):=rfl
  rw [this]
  simp [ih]
theorem vz (nn:Int) (calls:List Int) (m:MS) (k:Nat):(fF s nn calls k m).1.length=k:=by
 have _:=hs
 clear hs
 induction k with
 | zero=>rfl
 | succ i ih=>
  have:fF s nn calls (i+1) m=(cA (dr s nn) fun a=>cA (dr s calls.length) fun z=>df ((fF s nn calls i m).1++[(⟨a,calls.getD z.toNat 0⟩:gy)])) (fF s nn calls i m).2:=rfl
  rw [this]
  simp [cA,df,ih]
set_option maxHeartbeats 16000000 in
theorem zW {kg:Option (Nat×Nat)} {gl:List (List AV)} (hF:F.gl= .vec kg 9 gl) (n:Nat) (hn:gl.length=n) (h0:0 < n∧n≤1000) (kind:Int) (hk:1≤kind∧kind≤6) (calls:List Int) (hcl:calls.length≤1000):qW 97 [aP kind,.imm 1 (aS calls)] s F (gU s n kind calls) Fh:=by
 intro b m
 refine aX Tryz.func97 rfl Tryz.ntmps97 rfl fun B=>?_
 repeat' (first|refine go ?_|refine IG a6 EV ?_|(apply bH;first|refine IJ a6 0 ID ?_|refine IJ a6 1 ID ?_|refine IJ a6 2 ID ?_|refine IJ a6 3 ID ?_|refine IK a6 0 ID ?_|refine IK a6 1 ID ?_|refine IK a6 2 ID ?_|refine IL a6 1 IB (by assumption) rfl ?_|refine IL a6 0 IB (by assumption) rfl ?_|fail)|refine bc a6 fun _=>?_|fail)
 rw [hF]
 repeat' (first|refine go ?_|refine IG a6 EV ?_)
 rw [hn]
 rename_i tb rb
 refine aK (aM (L':=[eJ b s F m,(rb,.box [bO,bO,bO,bO,bO,aP 0] 81),(tb,.box [bO,bO,bO,bO,bO,aP 0] 81)]) (List.perm_append_comm (l₁:=[_,_]))) ?_
 refine uD (qB s hs F hF n hn h0) ?_
 have ha:=po s (n:=n) (by omega) m
 generalize e1:nw s n m=p1 at ha ⊢
 have haf:=ha.few
 unfold Ew
 repeat' (first|refine go ?_|refine IG a6 EV ?_|(apply aJ;first|refine IH a6 0 IE ?_|refine IH a6 1 IE ?_|refine IH a6 2 IE ?_|refine IH a6 3 IE ?_|fail)|refine eK (d:=22) a6 fun _=>?_|fail)
 rename_i kb
 refine bN (aM (L':=[eJ b s F p1.2,(rb,.box [bO,.vec (some (kb,1)) 1 (bw [p1.1]),bO,bO,bO,aP 0] 81),(tb,.box [bO,bO,bO,bO,bO,aP 0] 81)]++(tok (some (kb,1)) 22 1 1++[])) (List.perm_append_comm (l₁:=[_]))) ?_
 repeat' (first|fail)
 refine au rfl (fun h6=>?_) (fun h6=>?_)
 ·have h6:=Jy h6
  subst h6
  repeat' (first|refine go ?_|fail)
  refine dS [.cell (rb,1,.vec (some (kb,1)) 1 (bw [p1.1]))] 5 [(0,.v),(1,.k),(2,.v),(3,.f),(4,.v)] none ?_ trivial rfl (by kernel_rfl) (by kernel_rfl) (by kernel_rfl) mixed (by kernel_rfl) rfl
  repeat' (first|refine aC ?_|refine aY a6 ?_|fail)
  refine eR a6 0 rfl rfl rfl (cj 1 rfl rfl cu) (by first | trivial | rfl) ?_
  repeat' (first|refine aC ?_|refine aY a6 ?_|fail)
  refine rm (qB s hs F hF n hn h0) (cj 1 rfl rfl cu) ?_
  generalize e2:nw s n p1.2=p2
  unfold Ew
  repeat' (first|refine aC ?_|refine dU a6 ?_|fail)
  refine IQ [0,6,7,27,30] EV ?_
  repeat' (first|fail)
  refine IS a6 _ IC (fc (A:=[_,_,_])) (by simp [gg s hs]) (by simp [gg s hs]) rfl fun q'=>?_
  refine aK (aM (fc (A:=[_,_,_])).symm) ?_
  repeat' (first|refine go ?_|refine IG a6 EV ?_|(apply aJ;first|refine IH a6 0 IE ?_|refine IH a6 1 IE ?_|refine IH a6 2 IE ?_|refine IH a6 3 IE ?_|fail))
  refine dh ?_
  have hx:=cI s hs p2.2.a (n:=41) (by omega)
  have hx:0≤(dr s 41 p2.2).1∧(dr s 41 p2.2).1 < 41:=hx
  generalize e3:dr s 41 p2.2=p3 at hx ⊢
  repeat' (first|refine go ?_|refine IG a6 EV ?_|(apply bH;first|refine IJ a6 0 ID ?_|refine IJ a6 1 ID ?_|refine IJ a6 2 ID ?_|refine IJ a6 3 ID ?_|refine IK a6 0 ID ?_|refine IK a6 1 ID ?_|refine IK a6 2 ID ?_|refine IL a6 1 IB (by assumption) rfl ?_|refine IL a6 0 IB (by assumption) rfl ?_|fail)|(apply aW;refine aT ?_)|(apply aJ;first|refine IH a6 0 IE ?_|refine IH a6 1 IE ?_|refine IH a6 2 IE ?_|refine IH a6 3 IE ?_|fail))
  have hv:gU s n 6 calls m=(⟨[],[p1.1,p2.1],[],[],[],p3.1 * 10 - 200⟩,p3.2):=by simp [gU,Fd,cA,df,e1,e2,e3]
  rw [hv]
  refine ba (bC 2 (cs':=bE ⟨[],[p1.1,p2.1],[],[],[],p3.1 * 10 - 200⟩) rfl fun σ vs h=>mH.vrs (a:=[bO,.vec q' 1 (bw [p1.1,p2.1]),bO,bO,bO,aP (p3.1 * 10 - 200)]) (b:=bE ⟨[],[p1.1,p2.1],[],[],[],p3.1 * 10 - 200⟩) ⟨dt.nil 1,dt.im,dt.nil 1,dt.nil 1,dt.nil 2,dt.refl _,trivial⟩ h) (jh a6 2 [eJ b s F p3.2] rfl rfl rfl rfl rfl (List.Sublist.cons_cons _ (List.nil_sublist _)) ⟨rfl,rfl⟩)
 have h6:=Jx h6
 refine bN (bC 1 (cs':=[.imm 1 [],.vec (some (kb,1)) 1 (bw [p1.1]),.imm 1 [],.vec none 1 [],.vec none 2 [],aP 0]) rfl fun σ vs h=>mH.vrs (a:=[bO,.vec (some (kb,1)) 1 (bw [p1.1]),bO,bO,bO,aP 0]) (b:=[.imm 1 [],.vec (some (kb,1)) 1 (bw [p1.1]),.imm 1 [],.vec none 1 [],.vec none 2 [],aP 0]) ⟨dt.nil 1,dt.refl _,dt.nil 1,dt.vecN 1,dt.vecN 2,dt.refl _,trivial⟩ h) ?_
 repeat' (first|refine go ?_|refine IG a6 EV ?_)
 refine dh ?_
 generalize e2:dr s 2 p1.2=z
 repeat' (first|refine go ?_|refine IG a6 EV ?_)
 refine sd [0,1,2,6,7,8] ([eJ b s F (jv s n p1.2).2,(rb,.box [.imm 1 (bw (jv s n p1.2).1.1),.vec (some (kb,1)) 1 (bw [p1.1]),.imm 1 (bw (jv s n p1.2).1.2),.vec none 1 [],.vec none 2 [],aP 0] 81),(tb,.box [bO,bO,bO,bO,bO,aP 0] 81)]++(tok (some (kb,1)) 22 1 1++[])) rfl (fun Q' K=>?_) ?_
 ·refine au rfl (fun hz=>?_) (fun hz=>?_)
  ·have hz:=Jy hz
   repeat' (first|refine go ?_|refine IG a6 EV ?_)
   refine uD (nr s hs F hF n hn h0 2 (by omega)) ?_
   generalize e3:pb s n 2 z.2=y1
   unfold Cr
   repeat' (first|refine go ?_|refine IG a6 EV ?_|(apply aJ;first|refine IH a6 0 IE ?_|refine IH a6 1 IE ?_|refine IH a6 2 IE ?_|refine IH a6 3 IE ?_|fail))
   refine uD (nr s hs F hF n hn h0 2 (by omega)) ?_
   generalize e4:pb s n 2 y1.2=y2
   unfold Cr
   repeat' (first|refine go ?_|refine IG a6 EV ?_|(apply aJ;first|refine IH a6 0 IE ?_|refine IH a6 1 IE ?_|refine IH a6 2 IE ?_|refine IH a6 3 IE ?_|fail))
   have hv:jv s n p1.2=((y1.1,y2.1),y2.2):=by simp [jv,cA,df,e2,e3,e4,hz]
   rw [hv] at K
   exact K _ rfl
  ·have hz:=Jx hz
   repeat' (first|refine go ?_|fail)
   have hv:jv s n p1.2=(([],[]),z.2):=by simp [jv,cA,df,e2,hz]
   rw [hv] at K
   exact K _ rfl
 generalize e3:jv s n p1.2=w
 have ha0:(bw [p1.1])[0]?=some [.imm 1 (aS p1.1)]:=rfl
 have hial:(aS p1.1).length=p1.1.length:=aF _
 by_cases h15:kind=1∨kind=5
 ·have hv:gU s n kind calls m=(⟨w.1.1,[p1.1],w.1.2,(gA s n p1.1.length w.2).1,[],0⟩,(gA s n p1.1.length w.2).2):=by simp [gU,cA,df,e1,e3,h6,h15]
  rw [hv]
  rcases h15 with rfl | rfl
  all_goals
   repeat' (first|refine go ?_|refine am ?_|refine IG a6 EV ?_|refine cf rfl ?_|refine bP rfl ?_)
   refine aO [0,6,7,8] (α:=Nat×Option (Nat×Nat)) (fun x=>[(9,aP x.1)]) (fun x=>x.1≤p1.1.length) (fun x=>[eJ b s F (gA s n x.1 w.2).2,(rb,.box [.imm 1 (bw w.1.1),.vec (some (kb,1)) 1 (bw [p1.1]),.imm 1 (bw w.1.2),.vec x.2 1 (aS (gA s n x.1 w.2).1),.vec none 2 [],aP 0] 81),(tb,.box [bO,bO,bO,bO,bO,aP 0] 81)]++(tok x.2 3 1 (aS (gA s n x.1 w.2).1).length++(tok (some (kb,1)) 22 1 1++[]))) (fun x=>p1.1.length - x.1) (0,none) rfl ⟨rfl,trivial⟩ (Nat.zero_le _) (fun _ _ h=>h) ?_
   rintro ⟨i,q⟩ hi
   dsimp only at hi ⊢
   have hol:=uJ s hs n w.2 i
   have hstep:gA s n (i+1) w.2=((gA s n i w.2).1++[(dr s n (gA s n i w.2).2).1],(dr s n (gA s n i w.2).2).2):=rfl
   try dsimp only [Jr,Jq,Jp,Jk]
   repeat' (first|refine go ?_|refine IG a6 EV ?_|(apply bH;first|refine IJ a6 0 ID ?_|refine IJ a6 1 ID ?_|refine IJ a6 2 ID ?_|refine IJ a6 3 ID ?_|refine IK a6 0 ID ?_|refine IK a6 1 ID ?_|refine IK a6 2 ID ?_|refine IL a6 1 IB (by assumption) rfl ?_|refine IL a6 0 IB (by assumption) rfl ?_|fail)|(apply aV;first|refine aU a6 ?_|refine aN a6 ?_)|fail)
   refine au rfl (fun h=>?_) (fun h=>?_)
   ·have hil:i < p1.1.length:=by have:=Jy h;omega
    generalize gA s n i w.2=st at hol hstep ⊢
    have hoil:(aS st.1).length=st.1.length:=aF _
    repeat' (first|refine go ?_|refine am ?_)
    refine dS [.cell (rb,3,.vec q 1 (aS st.1))] 6 [(0,.v),(1,.k),(2,.v),(3,.v),(4,.f),(5,.v)] none ?_ trivial rfl (by kernel_rfl) (by kernel_rfl) (by kernel_rfl) mixed (by kernel_rfl) rfl
    repeat' (first|refine aC ?_|refine aY a6 ?_|fail)
    refine eR a6 0 rfl rfl rfl (cj 1 rfl rfl cu) (by first | trivial | rfl) ?_
    repeat' (first|refine aC ?_|refine aY a6 ?_|fail)
    refine fj (cj 1 rfl rfl cu) ?_
    generalize dr s n st.2=o at hstep ⊢
    repeat' (first|refine aC ?_|refine dU a6 ?_|fail)
    refine IQ [0,6,7,8,9,98,102] EV ?_
    repeat' (first|fail)
    refine IS a6 _ IC (fc (A:=[_,_,_])) (by simp [aF];omega) (by simp [aF];omega) rfl fun q'=>?_
    refine aK (aM (fc (A:=[_,_,_])).symm) ?_
    repeat' (first|refine go ?_|refine IG a6 EV ?_|(apply aW;refine aT ?_)|(apply aJ;first|refine IH a6 0 IE ?_|refine IH a6 1 IE ?_|refine IH a6 2 IE ?_|refine IH a6 3 IE ?_|fail))
    exact aB (i+1,q') rfl ⟨by rw [Jv];rfl,trivial⟩ (by dsimp only;omega) (by dsimp only;omega) (fun _ _ h=>by dsimp only;rw [hstep];simpa [gn,iq,aS] using h)
   have hil:i=p1.1.length:=by have:=Jx h;omega
   subst hil
   generalize gA s n p1.1.length w.2=st
   repeat' (first|refine go ?_|(apply bH;first|refine IJ a6 0 ID ?_|refine IJ a6 1 ID ?_|refine IJ a6 2 ID ?_|refine IJ a6 3 ID ?_|refine IK a6 0 ID ?_|refine IK a6 1 ID ?_|refine IK a6 2 ID ?_|refine IL a6 1 IB (by assumption) rfl ?_|refine IL a6 0 IB (by assumption) rfl ?_|fail)|(apply aJ;first|refine IH a6 0 IE ?_|refine IH a6 1 IE ?_|refine IH a6 2 IE ?_|refine IH a6 3 IE ?_|fail))
   exact ba (bC 2 (cs':=bE ⟨w.1.1,[p1.1],w.1.2,st.1,[],0⟩) rfl fun σ vs h=>mH.vrs (a:=[.imm 1 (bw w.1.1),.vec (some (kb,1)) 1 (bw [p1.1]),.imm 1 (bw w.1.2),.vec q 1 (aS st.1),.vec none 2 [],aP 0]) (b:=bE ⟨w.1.1,[p1.1],w.1.2,st.1,[],0⟩) ⟨dt.refl _,dt.im,dt.refl _,dt.im,dt.im,dt.refl _,trivial⟩ h) (jh a6 2 [eJ b s F st.2] rfl rfl rfl rfl rfl (List.Sublist.cons_cons _ (List.nil_sublist _)) ⟨rfl,rfl⟩)
 by_cases h2:kind=2
 ·subst h2
  repeat' (first|refine go ?_|refine am ?_|refine IG a6 EV ?_|refine cf rfl ?_|refine bP rfl ?_)
  refine dh ?_
  have hc:=cI s hs w.2.a (n:=4) (by omega)
  have hc:0≤(dr s 4 w.2).1∧(dr s 4 w.2).1 < 4:=hc
  generalize e4:dr s 4 w.2=y at hc ⊢
  obtain ⟨k,hkk⟩:∃k:Nat,y.1=k:=⟨y.1.toNat,by omega⟩
  have hv:gU s n 2 calls m=(⟨w.1.1,[p1.1],w.1.2,(gA s n k y.2).1,[],0⟩,(gA s n k y.2).2):=by simp [gU,cA,df,e1,e3,e4,hkk]
  rw [hv,hkk]
  repeat' (first|refine go ?_|refine am ?_|refine IG a6 EV ?_)
  refine aO [0,6,7,8,10] (α:=Nat×Option (Nat×Nat)) (fun x=>[(11,aP x.1)]) (fun x=>x.1≤k) (fun x=>[eJ b s F (gA s n x.1 y.2).2,(rb,.box [.imm 1 (bw w.1.1),.vec (some (kb,1)) 1 (bw [p1.1]),.imm 1 (bw w.1.2),.vec x.2 1 (aS (gA s n x.1 y.2).1),.vec none 2 [],aP 0] 81),(tb,.box [bO,bO,bO,bO,bO,aP 0] 81)]++(tok x.2 3 1 (aS (gA s n x.1 y.2).1).length++(tok (some (kb,1)) 22 1 1++[]))) (fun x=>k - x.1) (0,none) rfl ⟨rfl,trivial⟩ (Nat.zero_le _) (fun _ _ h=>h) ?_
  rintro ⟨i,q⟩ hi
  dsimp only at hi ⊢
  have hol:=uJ s hs n y.2 i
  have hstep:gA s n (i+1) y.2=((gA s n i y.2).1++[(dr s n (gA s n i y.2).2).1],(dr s n (gA s n i y.2).2).2):=rfl
  try dsimp only [Jr,Jq,Jp,Jk]
  repeat' (first|refine go ?_|refine IG a6 EV ?_)
  refine au rfl (fun h=>?_) (fun h=>?_)
  ·have hil:i < k:=by have:=Jy h;omega
   generalize gA s n i y.2=st at hol hstep ⊢
   have hoil:(aS st.1).length=st.1.length:=aF _
   repeat' (first|refine go ?_|refine am ?_)
   refine dS [.cell (rb,3,.vec q 1 (aS st.1))] 6 [(0,.v),(1,.k),(2,.v),(3,.v),(4,.f),(5,.v)] none ?_ trivial rfl (by kernel_rfl) (by kernel_rfl) (by kernel_rfl) mixed (by kernel_rfl) rfl
   repeat' (first|refine aC ?_|refine aY a6 ?_|fail)
   refine eR a6 0 rfl rfl rfl (cj 1 rfl rfl cu) (by first | trivial | rfl) ?_
   repeat' (first|refine aC ?_|refine aY a6 ?_|fail)
   refine fj (cj 1 rfl rfl cu) ?_
   generalize dr s n st.2=o at hstep ⊢
   repeat' (first|refine aC ?_|refine dU a6 ?_|fail)
   refine IQ [0,6,7,8,10,11,115,119] EV ?_
   repeat' (first|fail)
   refine IS a6 _ IC (fc (A:=[_,_,_])) (by simp [aF];omega) (by simp [aF];omega) rfl fun q'=>?_
   refine aK (aM (fc (A:=[_,_,_])).symm) ?_
   repeat' (first|refine go ?_|refine IG a6 EV ?_|(apply aW;refine aT ?_)|(apply aJ;first|refine IH a6 0 IE ?_|refine IH a6 1 IE ?_|refine IH a6 2 IE ?_|refine IH a6 3 IE ?_|fail))
   exact aB (i+1,q') rfl ⟨by rw [Jv];rfl,trivial⟩ (by dsimp only;omega) (by dsimp only;omega) (fun _ _ h=>by dsimp only;rw [hstep];simpa [gn,iq,aS] using h)
  have hil:i=k:=by have:=Jx h;omega
  subst hil
  generalize gA s n i y.2=st
  repeat' (first|refine go ?_|(apply bH;first|refine IJ a6 0 ID ?_|refine IJ a6 1 ID ?_|refine IJ a6 2 ID ?_|refine IJ a6 3 ID ?_|refine IK a6 0 ID ?_|refine IK a6 1 ID ?_|refine IK a6 2 ID ?_|refine IL a6 1 IB (by assumption) rfl ?_|refine IL a6 0 IB (by assumption) rfl ?_|fail)|(apply aJ;first|refine IH a6 0 IE ?_|refine IH a6 1 IE ?_|refine IH a6 2 IE ?_|refine IH a6 3 IE ?_|fail))
  exact ba (bC 2 (cs':=bE ⟨w.1.1,[p1.1],w.1.2,st.1,[],0⟩) rfl fun σ vs h=>mH.vrs (a:=[.imm 1 (bw w.1.1),.vec (some (kb,1)) 1 (bw [p1.1]),.imm 1 (bw w.1.2),.vec q 1 (aS st.1),.vec none 2 [],aP 0]) (b:=bE ⟨w.1.1,[p1.1],w.1.2,st.1,[],0⟩) ⟨dt.refl _,dt.im,dt.refl _,dt.im,dt.im,dt.refl _,trivial⟩ h) (jh a6 2 [eJ b s F st.2] rfl rfl rfl rfl rfl (List.Sublist.cons_cons _ (List.nil_sublist _)) ⟨rfl,rfl⟩)
 have hrow:=nq s (n:=n) (by omega) w.2
 by_cases h3:kind=3
 ·subst h3
  repeat' (first|refine go ?_|refine am ?_|refine IG a6 EV ?_|refine cf rfl ?_|refine bP rfl ?_)
  refine dS [.cell (rb,1,.vec (some (kb,1)) 1 (bw [p1.1]))] 4 [(0,.v),(1,.k),(2,.v),(3,.f)] none ?_ trivial rfl (by kernel_rfl) (by kernel_rfl) (by kernel_rfl) mixed (by kernel_rfl) rfl
  repeat' (first|refine aC ?_|refine aY a6 ?_|fail)
  refine eR a6 0 rfl rfl rfl (cj 1 rfl rfl cu) (by first | trivial | rfl) ?_
  repeat' (first|refine aC ?_|refine aY a6 ?_|fail)
  refine rm (nr s hs F hF n hn h0 2 (by omega)) (cj 1 rfl rfl cu) ?_
  generalize e4:pb s n 2 w.2=y at hrow ⊢
  have hrl:=hrow.1
  unfold Cr
  repeat' (first|fail)
  refine IQ [0,6,7,8,125,127] EV ?_
  repeat' (first|fail)
  refine IS a6 _ IC (fc (A:=[_,_,_])) (by simp [gg s hs];omega) (by simp [gg s hs];omega) rfl fun q'=>?_
  refine aK (aM (fc (A:=[_,_,_])).symm) ?_
  rw [rM s hs]
  repeat' (first|refine go ?_|refine IG a6 EV ?_|(apply aJ;first|refine IH a6 0 IE ?_|refine IH a6 1 IE ?_|refine IH a6 2 IE ?_|refine IH a6 3 IE ?_|fail))
  refine dh ?_
  generalize e5:dr s n y.2=o
  have hv:gU s n 3 calls m=(⟨w.1.1,p1.1::y.1,w.1.2,[o.1],[],0⟩,o.2):=by simp [gU,cA,df,e1,e3,e4,e5]
  rw [hv]
  repeat' (first|refine go ?_|refine IG a6 EV ?_|(apply bH;first|refine IJ a6 0 ID ?_|refine IJ a6 1 ID ?_|refine IJ a6 2 ID ?_|refine IJ a6 3 ID ?_|refine IK a6 0 ID ?_|refine IK a6 1 ID ?_|refine IK a6 2 ID ?_|refine IL a6 1 IB (by assumption) rfl ?_|refine IL a6 0 IB (by assumption) rfl ?_|fail)|(apply aJ;first|refine IH a6 0 IE ?_|refine IH a6 1 IE ?_|refine IH a6 2 IE ?_|refine IH a6 3 IE ?_|fail)|refine bG a6 ?_|fail)
  exact ba (bC 2 (cs':=bE ⟨w.1.1,p1.1::y.1,w.1.2,[o.1],[],0⟩) rfl fun σ vs h=>mH.vrs (a:=[.imm 1 (bw w.1.1),.vec q' 1 (bw (p1.1::y.1)),.imm 1 (bw w.1.2),.imm 1 (aS [o.1]),.vec none 2 [],aP 0]) (b:=bE ⟨w.1.1,p1.1::y.1,w.1.2,[o.1],[],0⟩) ⟨dt.refl _,dt.im,dt.refl _,dt.refl _,dt.im,dt.refl _,trivial⟩ h) (jh a6 2 [eJ b s F o.2] rfl rfl rfl rfl rfl (List.Sublist.cons_cons _ (List.nil_sublist _)) ⟨rfl,rfl⟩)
 have h4:kind=4:=by omega
 subst h4
 repeat' (first|refine go ?_|refine am ?_|refine IG a6 EV ?_|refine bP rfl ?_)
 refine dS [.cell (rb,1,.vec (some (kb,1)) 1 (bw [p1.1]))] 4 [(0,.v),(1,.k),(2,.v),(3,.f)] none ?_ trivial rfl (by kernel_rfl) (by kernel_rfl) (by kernel_rfl) mixed (by kernel_rfl) rfl
 repeat' (first|refine aC ?_|refine aY a6 ?_|fail)
 refine eR a6 0 rfl rfl rfl (cj 1 rfl rfl cu) (by first | trivial | rfl) ?_
 repeat' (first|refine aC ?_|refine aY a6 ?_|fail)
 refine rm (nr s hs F hF n hn h0 2 (by omega)) (cj 1 rfl rfl cu) ?_
 generalize e4:pb s n 2 w.2=y at hrow ⊢
 have hrl:=hrow.1
 unfold Cr
 repeat' (first|fail)
 refine IQ [0,2,6,7,50,52] EV ?_
 repeat' (first|fail)
 refine IS a6 _ IC (fc (A:=[_,_,_])) (by simp [gg s hs];omega) (by simp [gg s hs];omega) rfl fun q1=>?_
 refine aK (aM (fc (A:=[_,_,_])).symm) ?_
 rw [rM s hs]
 repeat' (first|refine go ?_|refine IG a6 EV ?_|(apply aJ;first|refine IH a6 0 IE ?_|refine IH a6 1 IE ?_|refine IH a6 2 IE ?_|refine IH a6 3 IE ?_|fail))
 refine dh ?_
 have hc:=cI s hs y.2.a (n:=3) (by omega)
 have hc:0≤(dr s 3 y.2).1∧(dr s 3 y.2).1 < 3:=hc
 generalize e5:dr s 3 y.2=o at hc ⊢
 obtain ⟨k,hkk⟩:∃k:Nat,o.1=k:=⟨o.1.toNat,by omega⟩
 have hv:gU s n 4 calls m=(⟨w.1.1,p1.1::y.1,w.1.2,[],(fF s (p1.1::y.1).length calls (if calls.length=0 then 0 else k) o.2).1,0⟩,(fF s (p1.1::y.1).length calls (if calls.length=0 then 0 else k) o.2).2):=by simp [gU,cA,df,e1,e3,e4,e5,hkk]
 rw [hv,hkk]
 have hrw:(bw (p1.1::y.1)).length=(p1.1::y.1).length:=gg s hs _
 have hrw2:(p1.1::y.1).length=y.1.length+1:=rfl
 have hcal:(aS calls).length=calls.length:=aF _
 repeat' (first|refine go ?_|refine am ?_|refine IG a6 EV ?_)
 have hcon:∀i,(fF s (p1.1::y.1).length calls i o.2).1.length=i:=fun i=>vz s hs _ calls o.2 i
 generalize hKK:(if calls.length=0 then 0 else k)=KK
 have hK:∀i:Nat,i < KK↔i < k∧0 < calls.length:=fun i=>by rw [←hKK];split <;> omega
 refine aO [0,2,6,7,12] (α:=Nat×Option (Nat×Nat)) (fun x=>[(13,aP x.1)]) (fun x=>x.1≤KK) (fun x=>[eJ b s F (fF s (p1.1::y.1).length calls x.1 o.2).2,(rb,.box [.imm 1 (bw w.1.1),.vec q1 1 (bw (p1.1::y.1)),.imm 1 (bw w.1.2),.vec none 1 [],.vec x.2 2 ((fF s (p1.1::y.1).length calls x.1 o.2).1.map dI),aP 0] 81),(tb,.box [bO,bO,bO,bO,bO,aP 0] 81)]++(tok x.2 91 2 ((fF s (p1.1::y.1).length calls x.1 o.2).1.map dI).length++(tok q1 22 1 (bw (p1.1::y.1)).length++[]))) (fun x=>KK - x.1) (0,none) rfl ⟨rfl,trivial⟩ (Nat.zero_le _) (fun _ _ h=>h) ?_
 rintro ⟨i,q⟩ hi
 dsimp only at hi ⊢
 have hol:=hcon i
 have hstep:fF s (p1.1::y.1).length calls (i+1) o.2=(cA (dr s (p1.1::y.1).length) fun a=>cA (dr s calls.length) fun z=>df ((fF s (p1.1::y.1).length calls i o.2).1++[(⟨a,calls.getD z.toNat 0⟩:gy)])) (fF s (p1.1::y.1).length calls i o.2).2:=rfl
 try dsimp only [Jr,Jq,Jp,Jk]
 repeat' (first|refine go ?_|refine IG a6 EV ?_)
 by_cases hik:i < KK
 ·have hik2:=(hK i).1 hik
  rw [decide_eq_true (show ((i:Nat):Int) < (k:Int) by omega)]
  repeat' (first|refine go ?_|refine IG a6 EV ?_|refine IR EV ?_)
  rw [decide_eq_true (show (0:Int) < (((aS calls).length:Nat):Int) by omega)]
  generalize fF s (p1.1::y.1).length calls i o.2=st at hol hstep ⊢
  have hoil:(st.1.map dI).length=st.1.length:=Jt ..
  repeat' (first|refine go ?_|refine am ?_|refine cf rfl ?_)
  refine dS [.cell (rb,4,.vec q 2 (st.1.map dI))] 16 [(0,.v),(1,.k),(2,.v),(3,.v),(4,.l),(5,.v),(7,.v),(8,.v),(9,.v),(10,.v),(6,.f),(11,.f),(12,.v),(13,.v),(14,.v),(15,.v)] none ?_ trivial rfl (by kernel_rfl) (by kernel_rfl) (by kernel_rfl) mixed (by kernel_rfl) rfl
  repeat' (first|refine aC ?_|refine aY a6 ?_|fail)
  refine eR a6 0 rfl rfl rfl (cj 1 rfl rfl cu) (by first | trivial | rfl) ?_
  repeat' (first|refine aC ?_|refine aY a6 ?_|refine dg a6 1 rfl rfl rfl rfl (by first|trivial|rfl) ?_)
  rw [hrw]
  refine fj (cj 1 rfl rfl cu) ?_
  unfold cA at hstep
  generalize dr s (p1.1::y.1).length st.2=g1 at hstep ⊢
  dsimp only at hstep
  repeat' (first|refine aC ?_|fail)
  rw [hcal]
  refine fj (cj 1 rfl rfl cu) ?_
  have hg:=cI s hs g1.2.a (n:=calls.length) (by omega)
  have hg:0≤(dr s calls.length g1.2).1∧(dr s calls.length g1.2).1 < calls.length:=hg
  generalize dr s calls.length g1.2=g2 at hg hstep ⊢
  have hgl:(aS calls)[g2.1.toNat]?=some [aP (calls.getD g2.1.toNat 0)]:=bQ (by rw [List.getD_eq_getElem?_getD,Jz (show g2.1.toNat < calls.length by omega)];rfl)
  dsimp only [df] at hstep
  repeat' (first|refine aC ?_|refine aY a6 ?_|(apply bS;refine ce a6 ?_)|refine dU a6 ?_|fail)
  refine IQ [0,2,6,7,12,13,68,82] EV ?_
  repeat' (first|fail)
  refine IS a6 _ IC (fc (A:=[_,_,_])) (by simp;omega) (by simp;omega) rfl fun q'=>?_
  refine aK (aM (fc (A:=[_,_,_])).symm) ?_
  repeat' (first|refine go ?_|refine IG a6 EV ?_|(apply aW;refine aT ?_)|(apply aJ;first|refine IH a6 0 IE ?_|refine IH a6 1 IE ?_|refine IH a6 2 IE ?_|refine IH a6 3 IE ?_|fail))
  exact aB (i+1,q') rfl ⟨by rw [Jv];rfl,trivial⟩ (by dsimp only;omega) (by dsimp only;omega) (fun _ _ h=>by dsimp only;rw [hstep];simpa [gn,iq,dI] using h)
 have hiK:i=KK:=by omega
 subst hiK
 generalize fF s (p1.1::y.1).length calls i o.2=st
 have hno:¬(i < k∧0 < calls.length):=fun h=>absurd ((hK i).2 h) (by omega)
 by_cases hik2:i < k
 ·rw [decide_eq_true (show ((i:Nat):Int) < (k:Int) by omega)]
  repeat' (first|refine go ?_|refine IG a6 EV ?_|refine IR EV ?_)
  rw [decide_eq_false (show ¬(0:Int) < (((aS calls).length:Nat):Int) by omega)]
  repeat' (first|refine go ?_|(apply bH;first|refine IJ a6 0 ID ?_|refine IJ a6 1 ID ?_|refine IJ a6 2 ID ?_|refine IJ a6 3 ID ?_|refine IK a6 0 ID ?_|refine IK a6 1 ID ?_|refine IK a6 2 ID ?_|refine IL a6 1 IB (by assumption) rfl ?_|refine IL a6 0 IB (by assumption) rfl ?_|fail)|(apply aJ;first|refine IH a6 0 IE ?_|refine IH a6 1 IE ?_|refine IH a6 2 IE ?_|refine IH a6 3 IE ?_|fail)|refine bP rfl ?_)
  exact ba (bC 2 (cs':=bE ⟨w.1.1,p1.1::y.1,w.1.2,[],st.1,0⟩) rfl fun σ vs h=>mH.vrs (a:=[.imm 1 (bw w.1.1),.vec q1 1 (bw (p1.1::y.1)),.imm 1 (bw w.1.2),.vec none 1 [],.vec q 2 (st.1.map dI),aP 0]) (b:=bE ⟨w.1.1,p1.1::y.1,w.1.2,[],st.1,0⟩) ⟨dt.refl _,dt.im,dt.refl _,dt.im,dt.im,dt.refl _,trivial⟩ h) (jh a6 2 [eJ b s F st.2] rfl rfl rfl rfl rfl (List.Sublist.cons_cons _ (List.nil_sublist _)) ⟨rfl,rfl⟩)
 ·rw [decide_eq_false (show ¬((i:Nat):Int) < (k:Int) by omega)]
  repeat' (first|refine go ?_|refine IG a6 EV ?_|refine IT IC ?_|(apply bH;first|refine IJ a6 0 ID ?_|refine IJ a6 1 ID ?_|refine IJ a6 2 ID ?_|refine IJ a6 3 ID ?_|refine IK a6 0 ID ?_|refine IK a6 1 ID ?_|refine IK a6 2 ID ?_|refine IL a6 1 IB (by assumption) rfl ?_|refine IL a6 0 IB (by assumption) rfl ?_|fail)|(apply aJ;first|refine IH a6 0 IE ?_|refine IH a6 1 IE ?_|refine IH a6 2 IE ?_|refine IH a6 3 IE ?_|fail)|refine bP rfl ?_)
  exact ba (bC 2 (cs':=bE ⟨w.1.1,p1.1::y.1,w.1.2,[],st.1,0⟩) rfl fun σ vs h=>mH.vrs (a:=[.imm 1 (bw w.1.1),.vec q1 1 (bw (p1.1::y.1)),.imm 1 (bw w.1.2),.vec none 1 [],.vec q 2 (st.1.map dI),aP 0]) (b:=bE ⟨w.1.1,p1.1::y.1,w.1.2,[],st.1,0⟩) ⟨dt.refl _,dt.im,dt.refl _,dt.im,dt.im,dt.refl _,trivial⟩ h) (jh a6 2 [eJ b s F st.2] rfl rfl rfl rfl rfl (List.Sublist.cons_cons _ (List.nil_sublist _)) ⟨rfl,rfl⟩)
end Go.Proofs.YtjjpkibjffmceaaGreat
namespace Go.Proofs.YtjjpkibjffmceaaGreat
open Go.RowKit
attribute [local irreducible] AT cg AX AO Av Kt bJ eC DA du
def fS (i j:Nat) (l:bj):List AV:=[aP l.Kind,cM l.Ignore,if j < i then .imm 6 (l.Rules.map bE) else bO]
def fo (i:Nat):Nat→List bj→List AV
 | _,[]=>[]
 | k,l::r=>fS i k l++fo i (k+1) r
theorem BJ (i:Nat):∀(l:List bj) (k:Nat),(fo i k l).length=l.length * 3
 | [],k=>rfl
 | x::l,k=>by
  rw [fo,List.length_append,BJ i l (k+1),List.length_cons,Nat.add_mul]
  simp [fS]
  omega
theorem sB (i:Nat):∀(l:List bj) (k j c:Nat),c < 3→(fo i k l)[j * 3+c]?=(l[j]?).bind fun x=>(fS i (k+j) x)[c]?
 | [],k,j,c,_=>by simp [fo]
 | x::l,k,0,c,hc=>by
  rw [fo,List.getElem?_append_left (by simp [fS];omega)]
  simp
 | x::l,k,j+1,c,hc=>by
  rw [fo,List.getElem?_append_right (by simp [fS];omega)]
  have h1:(j+1) * 3+c - (fS i k x).length=j * 3+c:=by simp [fS];omega
  rw [h1,sB i l (k+1) j c hc,List.getElem?_cons_succ]
  rw [show k+1+j=k+(j+1) by omega]
theorem xA (i:Nat):∀(l:List bj) (k:Nat) (x:bj),fo i k (l++[x])=fo i k l++fS i (k+l.length) x
 | [],k,x=>by simp [fo]
 | y::l,k,x=>by
  rw [Jr,fo,xA i l (k+1) x,fo,List.append_assoc,List.length_cons,show k+1+l.length=k+(l.length+1) by omega]
theorem BK {i:Nat} {l:List bj} {q:bj} {rs:List cb} (hq:l[i]?=some q):(fo i 0 l).set (i * 3+2) (.imm 6 (rs.map bE))=fo (i+1) 0 (l.set i { q with Rules:=rs }):=by
 have hil:=(Jo hq).1
 apply List.ext_getElem?
 intro p
 obtain ⟨j,c,hc,rfl⟩:∃j c,c < 3∧p=j * 3+c:=⟨p / 3,p % 3,Nat.mod_lt _ (by omega),by omega⟩
 rw [sB _ _ _ _ _ hc]
 by_cases e:i * 3+2=j * 3+c
 ·have hj:j=i:=by omega
  have hc2:c=2:=by omega
  subst hj;subst hc2
  rw [List.getElem?_set_self (by rw [BJ];omega),List.getElem?_set_self hil]
  simp [fS]
 ·rw [List.getElem?_set_ne e,sB _ _ _ _ _ hc]
  by_cases hj:i=j
  ·subst hj
   rw [hq,List.getElem?_set_self hil]
   have hc2:c=0∨c=1:=by omega
   rcases hc2 with rfl | rfl <;> rfl
  ·rw [List.getElem?_set_ne hj]
   cases l[j]? with
   | none=>rfl
   | some x=>
    simp only [Option.bind_some,Nat.zero_add]
    have hc3:c=0∨c=1∨c=2:=by omega
    rcases hc3 with rfl | rfl | rfl
    ·rfl
    ·rfl
    ·simp only [fS]
     by_cases hlt:j < i
     ·rw [if_pos hlt,if_pos (by omega)]
     ·rw [if_neg hlt,if_neg (by omega)]
theorem Ea {i:Nat} {l:List bj} {q:bj} (hq:l[i]?=some q) (h0:q.Rules=[]):(fo i 0 l).set (i * 3+2) (.imm 6 [])=fo (i+1) 0 l:=by
 have:=BK (rs:=[]) hq
 rw [show l.set i { q with Rules:=[] }=l from ?_] at this
 ·exact this
 ·have:({ q with Rules:=[] }:bj)=q:=by cases q;simp at h0;simp [h0]
  rw [this]
  apply List.ext_getElem?
  intro j
  by_cases e:i=j
  ·subst e;rw [List.getElem?_set_self (Jo hq).1,hq]
  ·rw [List.getElem?_set_ne e]
theorem BI:∀(l:List bj) (i k:Nat),k+l.length≤i→fo i k l=(l.map bi).flatten
 | [],i,k,_=>rfl
 | x::l,i,k,h=>by
  simp only [List.length_cons] at h
  rw [fo,BI l i (k+1) (by omega),Jp,List.flatten_cons]
  congr 1
  simp only [fS]
  rw [if_pos (by omega)]
  rfl
def zi (i:Nat):Option (Nat×List AV×Nat)→AV
 | none=>bO
 | some (b,_,cap)=> .sc (.slice (some ⟨b,0,none⟩) i cap)
def BF:Option (Nat×List AV×Nat)→AL
 | none=>[]
 | some (b,cs,_)=>[(b,.box cs 77)]
def xz (n i:Nat) (l:List bj):Option (Nat×List AV×Nat)→Prop
 | none=>n=0
 | some (_,cs,cap)=>cs.length=cap * 3∧n≤cap∧cap≤maxLen∧cs.take (n * 3)=fo i 0 l
end Go.Proofs.YtjjpkibjffmceaaGreat
