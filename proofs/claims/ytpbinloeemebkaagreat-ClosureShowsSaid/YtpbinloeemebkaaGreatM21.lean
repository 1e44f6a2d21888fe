/-
  The maker: rules.
-/
import Derived.Test.YtpbinloeemebkaaGreatM20
import Derived.Test.YtpbinloeemebkaaGreatM11
namespace Go.Proofs.YtpbinloeemebkaaGreat
open Go.RowKit
attribute [local irreducible] AT bO AX AO Av Kt bo dU DA cT
variable (s:List Int) (hs:s.length≤1000000) (F:MF)
include hs
def E3 (r:bv):AV:= .agg (bJ r)
def Hd (rb:Nat) (b0 b1 b2 b3 b4:AV) (x:Int):Nat×AB:=(rb,.box [b0,b1,b2,b3,b4,aH x] 89)
theorem rJ (a:List Int) (l:List (List Int)):bz [a]++bz l=bz (a::l):=by
 have _:=hs
 clear hs
 rfl
theorem uf (n:Int) (m:MS) (k:Nat):(fV s n k m).1.length=k:=by
 have _:=hs
 clear hs
 induction k with
 | zero=>rfl
 | succ k ih=>
  have:fV s n (k+1) m=((fV s n k m).1++[(dr s n (fV s n k m).2).1],(dr s n (fV s n k m).2).2):=rfl
  rw [this]
  simp [ih]
theorem vj (nn:Int) (calls:List Int) (m:MS) (k:Nat):(f5 s nn calls k m).1.length=k:=by
 have _:=hs
 clear hs
 induction k with
 | zero=>rfl
 | succ i ih=>
  have:f5 s nn calls (i+1) m=(c7 (dr s nn) fun a=>c7 (dr s calls.length) fun z=>cC ((f5 s nn calls i m).1++[(⟨a,calls.getD z.toNat 0⟩:gH)])) (f5 s nn calls i m).2:=rfl
  rw [this]
  simp [c7,cC,ih]
set_option maxHeartbeats 16000000 in
theorem yW {kg:Option (Nat×Nat)} {gl:List (List AV)} (hF:F.gl= .vec kg 9 gl) (n:Nat) (hn:gl.length=n) (h0:0 < n∧n≤1000) (kind:Int) (hk:1≤kind∧kind≤6) (calls:List Int) (hcl:calls.length≤1000):qM 123 [aH kind,.imm 1 (aS calls)] s F (gn s n kind calls) E3:=by
 intro b m
 refine aT Tryz.func123 rfl Tryz.ntmps123 rfl fun B=>?_
 repeat' (first|refine go ?_|refine HF a1 F8 ?_|(apply bh;first|refine HJ a1 0 HC ?_|refine HJ a1 1 HC ?_|refine HJ a1 2 HC ?_|refine HJ a1 3 HC ?_|refine HK a1 0 HC ?_|refine HK a1 1 HC ?_|refine HK a1 2 HC ?_|refine HM a1 1 HA (by assumption) rfl ?_|refine HM a1 0 HA (by assumption) rfl ?_|fail)|refine bl a1 fun _=>?_|fail)
 rw [hF]
 repeat' (first|refine go ?_|refine HF a1 F8 ?_)
 rw [hn]
 rename_i tb rb
 refine aV (aJ (L':=[dS b s F m,(rb,.box [bP,bP,bP,bP,bP,aH 0] 89),(tb,.box [bP,bP,bP,bP,bP,aH 0] 89)]) (List.perm_append_comm (l₁:=[_,_]))) ?_
 refine ua (qu s hs F hF n hn h0) ?_
 have ha:=p5 s (n:=n) (by omega) m
 generalize e1:n9 s n m=p1 at ha ⊢
 have haf:=ha.few
 unfold Dh
 repeat' (first|refine go ?_|refine HF a1 F8 ?_|(apply aQ;first|refine HG a1 0 HD ?_|refine HG a1 1 HD ?_|refine HG a1 2 HD ?_|refine HG a1 3 HD ?_|fail)|refine xc (d:=22) a1 fun _=>?_|fail)
 rename_i kb
 refine bW (aJ (L':=[dS b s F p1.2,(rb,.box [bP,.vec (some (kb,1)) 1 (bz [p1.1]),bP,bP,bP,aH 0] 89),(tb,.box [bP,bP,bP,bP,bP,aH 0] 89)]++(tok (some (kb,1)) 29 1 1++[])) (List.perm_append_comm (l₁:=[_]))) ?_
 repeat' (first|fail)
 refine ay rfl (fun h6=>?_) (fun h6=>?_)
 ·have h6:=Hy h6
  subst h6
  repeat' (first|refine go ?_|fail)
  refine dD [.cell (rb,1,.vec (some (kb,1)) 1 (bz [p1.1]))] 5 [(0,.v),(1,.k),(2,.v),(3,.f),(4,.v)] none ?_ trivial rfl (by kernel_rfl) (by kernel_rfl) (by kernel_rfl) mixed (by kernel_rfl) rfl
  repeat' (first|refine aE ?_|refine ba a1 ?_|fail)
  refine eb a1 0 rfl rfl rfl (bN 1 rfl rfl c5) (by first | trivial | rfl) ?_
  repeat' (first|refine aE ?_|refine ba a1 ?_|fail)
  refine re (qu s hs F hF n hn h0) (bN 1 rfl rfl c5) ?_
  generalize e2:n9 s n p1.2=p2
  unfold Dh
  repeat' (first|refine aE ?_|refine ek a1 ?_|fail)
  refine HR [0,6,7,27,30] F8 ?_
  repeat' (first|fail)
  refine cj a1 _ rfl rfl rfl rfl (eF (A:=[_,_,_])) (by simp [fD s hs]) (by simp [fD s hs]) rfl fun q'=>?_
  refine aV (aJ (eF (A:=[_,_,_])).symm) ?_
  repeat' (first|refine go ?_|refine HF a1 F8 ?_|(apply aQ;first|refine HG a1 0 HD ?_|refine HG a1 1 HD ?_|refine HG a1 2 HD ?_|refine HG a1 3 HD ?_|fail))
  refine cD ?_
  have hx:=cn s hs p2.2.a (n:=41) (by omega)
  have hx:0≤(dr s 41 p2.2).1∧(dr s 41 p2.2).1 < 41:=hx
  generalize e3:dr s 41 p2.2=p3 at hx ⊢
  repeat' (first|refine go ?_|refine HF a1 F8 ?_|(apply bh;first|refine HJ a1 0 HC ?_|refine HJ a1 1 HC ?_|refine HJ a1 2 HC ?_|refine HJ a1 3 HC ?_|refine HK a1 0 HC ?_|refine HK a1 1 HC ?_|refine HK a1 2 HC ?_|refine HM a1 1 HA (by assumption) rfl ?_|refine HM a1 0 HA (by assumption) rfl ?_|fail)|(apply aZ;refine aY ?_)|(apply aQ;first|refine HG a1 0 HD ?_|refine HG a1 1 HD ?_|refine HG a1 2 HD ?_|refine HG a1 3 HD ?_|fail))
  have hv:gn s n 6 calls m=(⟨[],[p1.1,p2.1],[],[],[],p3.1 * 10 - 200⟩,p3.2):=by simp [gn,DZ,c7,cC,e1,e2,e3]
  rw [hv]
  refine bk (bE 2 (cs':=bJ ⟨[],[p1.1,p2.1],[],[],[],p3.1 * 10 - 200⟩) rfl fun σ vs h=>of.vrs (a:=[bP,.vec q' 1 (bz [p1.1,p2.1]),bP,bP,bP,aH (p3.1 * 10 - 200)]) (b:=bJ ⟨[],[p1.1,p2.1],[],[],[],p3.1 * 10 - 200⟩) ⟨ea.nil 1,ea.im,ea.nil 1,ea.nil 1,ea.nil 2,ea.refl _,trivial⟩ h) (iR a1 2 [dS b s F p3.2] rfl rfl rfl rfl rfl (List.Sublist.cons_cons _ (List.nil_sublist _)) ⟨rfl,rfl⟩)
 have h6:=Hx h6
 refine bW (bE 1 (cs':=[.imm 1 [],.vec (some (kb,1)) 1 (bz [p1.1]),.imm 1 [],.vec none 1 [],.vec none 2 [],aH 0]) rfl fun σ vs h=>of.vrs (a:=[bP,.vec (some (kb,1)) 1 (bz [p1.1]),bP,bP,bP,aH 0]) (b:=[.imm 1 [],.vec (some (kb,1)) 1 (bz [p1.1]),.imm 1 [],.vec none 1 [],.vec none 2 [],aH 0]) ⟨ea.nil 1,ea.refl _,ea.nil 1,ea.vecN 1,ea.vecN 2,ea.refl _,trivial⟩ h) ?_
 repeat' (first|refine go ?_|refine HF a1 F8 ?_)
 refine cD ?_
 generalize e2:dr s 2 p1.2=z
 repeat' (first|refine go ?_|refine HF a1 F8 ?_)
 refine s4 [0,1,2,6,7,8] ([dS b s F (jd s n p1.2).2,(rb,.box [.imm 1 (bz (jd s n p1.2).1.1),.vec (some (kb,1)) 1 (bz [p1.1]),.imm 1 (bz (jd s n p1.2).1.2),.vec none 1 [],.vec none 2 [],aH 0] 89),(tb,.box [bP,bP,bP,bP,bP,aH 0] 89)]++(tok (some (kb,1)) 29 1 1++[])) rfl (fun Q' K=>?_) ?_
 ·refine ay rfl (fun hz=>?_) (fun hz=>?_)
  ·have hz:=Hy hz
   repeat' (first|refine go ?_|refine HF a1 F8 ?_)
   refine ua (n8 s hs F hF n hn h0 2 (by omega)) ?_
   generalize e3:oT s n 2 z.2=y1
   unfold BE
   repeat' (first|refine go ?_|refine HF a1 F8 ?_|(apply aQ;first|refine HG a1 0 HD ?_|refine HG a1 1 HD ?_|refine HG a1 2 HD ?_|refine HG a1 3 HD ?_|fail))
   refine ua (n8 s hs F hF n hn h0 2 (by omega)) ?_
   generalize e4:oT s n 2 y1.2=y2
   unfold BE
   repeat' (first|refine go ?_|refine HF a1 F8 ?_|(apply aQ;first|refine HG a1 0 HD ?_|refine HG a1 1 HD ?_|refine HG a1 2 HD ?_|refine HG a1 3 HD ?_|fail))
   have hv:jd s n p1.2=((y1.1,y2.1),y2.2):=by simp [jd,c7,cC,e2,e3,e4,hz]
   rw [hv] at K
   exact K _ rfl
  ·have hz:=Hx hz
   repeat' (first|refine go ?_|fail)
   have hv:jd s n p1.2=(([],[]),z.2):=by simp [jd,c7,cC,e2,hz]
   rw [hv] at K
   exact K _ rfl
 generalize e3:jd s n p1.2=w
 have ha0:(bz [p1.1])[0]?=some [.imm 1 (aS p1.1)]:=rfl
 have hial:(aS p1.1).length=p1.1.length:=aN _
 by_cases h15:kind=1∨kind=5
 ·have hv:gn s n kind calls m=(⟨w.1.1,[p1.1],w.1.2,(fV s n p1.1.length w.2).1,[],0⟩,(fV s n p1.1.length w.2).2):=by simp [gn,c7,cC,e1,e3,h6,h15]
  rw [hv]
  rcases h15 with rfl | rfl
  all_goals
   repeat' (first|refine go ?_|refine ak ?_|refine HF a1 F8 ?_|refine bR rfl ?_|refine bL rfl ?_)
   refine aR [0,6,7,8] (α:=Nat×Option (Nat×Nat)) (fun x=>[(9,aH x.1)]) (fun x=>x.1≤p1.1.length) (fun x=>[dS b s F (fV s n x.1 w.2).2,(rb,.box [.imm 1 (bz w.1.1),.vec (some (kb,1)) 1 (bz [p1.1]),.imm 1 (bz w.1.2),.vec x.2 1 (aS (fV s n x.1 w.2).1),.vec none 2 [],aH 0] 89),(tb,.box [bP,bP,bP,bP,bP,aH 0] 89)]++(tok x.2 3 1 (aS (fV s n x.1 w.2).1).length++(tok (some (kb,1)) 29 1 1++[]))) (fun x=>p1.1.length - x.1) (0,none) rfl ⟨rfl,trivial⟩ (Nat.zero_le _) (fun _ _ h=>h) ?_
   rintro ⟨i,q⟩ hi
   dsimp only at hi ⊢
   have hol:=uf s hs n w.2 i
   have hstep:fV s n (i+1) w.2=((fV s n i w.2).1++[(dr s n (fV s n i w.2).2).1],(dr s n (fV s n i w.2).2).2):=rfl
   try dsimp only [Hs,Hr,Hq,Hl]
   repeat' (first|refine go ?_|refine HF a1 F8 ?_|(apply bh;first|refine HJ a1 0 HC ?_|refine HJ a1 1 HC ?_|refine HJ a1 2 HC ?_|refine HJ a1 3 HC ?_|refine HK a1 0 HC ?_|refine HK a1 1 HC ?_|refine HK a1 2 HC ?_|refine HM a1 1 HA (by assumption) rfl ?_|refine HM a1 0 HA (by assumption) rfl ?_|fail)|(apply aX;first|refine aU a1 ?_|refine aK a1 ?_)|fail)
   refine ay rfl (fun h=>?_) (fun h=>?_)
   ·have hil:i < p1.1.length:=by have:=Hy h;omega
    generalize fV s n i w.2=st at hol hstep ⊢
    have hoil:(aS st.1).length=st.1.length:=aN _
    repeat' (first|refine go ?_|refine ak ?_)
    refine dD [.cell (rb,3,.vec q 1 (aS st.1))] 6 [(0,.v),(1,.k),(2,.v),(3,.v),(4,.f),(5,.v)] none ?_ trivial rfl (by kernel_rfl) (by kernel_rfl) (by kernel_rfl) mixed (by kernel_rfl) rfl
    repeat' (first|refine aE ?_|refine ba a1 ?_|fail)
    refine eb a1 0 rfl rfl rfl (bN 1 rfl rfl c5) (by first | trivial | rfl) ?_
    repeat' (first|refine aE ?_|refine ba a1 ?_|fail)
    refine eC (bN 1 rfl rfl c5) ?_
    generalize dr s n st.2=o at hstep ⊢
    repeat' (first|refine aE ?_|refine ek a1 ?_|fail)
    refine HR [0,6,7,8,9,98,102] F8 ?_
    repeat' (first|fail)
    refine cj a1 _ rfl rfl rfl rfl (eF (A:=[_,_,_])) (by simp [aN];omega) (by simp [aN];omega) rfl fun q'=>?_
    refine aV (aJ (eF (A:=[_,_,_])).symm) ?_
    repeat' (first|refine go ?_|refine HF a1 F8 ?_|(apply aZ;refine aY ?_)|(apply aQ;first|refine HG a1 0 HD ?_|refine HG a1 1 HD ?_|refine HG a1 2 HD ?_|refine HG a1 3 HD ?_|fail))
    exact aF (i+1,q') rfl ⟨by rw [Hv];rfl,trivial⟩ (by dsimp only;omega) (by dsimp only;omega) (fun _ _ h=>by dsimp only;rw [hstep];simpa [fi,gg,aS] using h)
   have hil:i=p1.1.length:=by have:=Hx h;omega
   subst hil
   generalize fV s n p1.1.length w.2=st
   repeat' (first|refine go ?_|(apply bh;first|refine HJ a1 0 HC ?_|refine HJ a1 1 HC ?_|refine HJ a1 2 HC ?_|refine HJ a1 3 HC ?_|refine HK a1 0 HC ?_|refine HK a1 1 HC ?_|refine HK a1 2 HC ?_|refine HM a1 1 HA (by assumption) rfl ?_|refine HM a1 0 HA (by assumption) rfl ?_|fail)|(apply aQ;first|refine HG a1 0 HD ?_|refine HG a1 1 HD ?_|refine HG a1 2 HD ?_|refine HG a1 3 HD ?_|fail))
   exact bk (bE 2 (cs':=bJ ⟨w.1.1,[p1.1],w.1.2,st.1,[],0⟩) rfl fun σ vs h=>of.vrs (a:=[.imm 1 (bz w.1.1),.vec (some (kb,1)) 1 (bz [p1.1]),.imm 1 (bz w.1.2),.vec q 1 (aS st.1),.vec none 2 [],aH 0]) (b:=bJ ⟨w.1.1,[p1.1],w.1.2,st.1,[],0⟩) ⟨ea.refl _,ea.im,ea.refl _,ea.im,ea.im,ea.refl _,trivial⟩ h) (iR a1 2 [dS b s F st.2] rfl rfl rfl rfl rfl (List.Sublist.cons_cons _ (List.nil_sublist _)) ⟨rfl,rfl⟩)
 by_cases h2:kind=2
 ·subst h2
  repeat' (first|refine go ?_|refine ak ?_|refine HF a1 F8 ?_|refine bR rfl ?_|refine bL rfl ?_)
  refine cD ?_
  have hc:=cn s hs w.2.a (n:=4) (by omega)
  have hc:0≤(dr s 4 w.2).1∧(dr s 4 w.2).1 < 4:=hc
  generalize e4:dr s 4 w.2=y at hc ⊢
  obtain ⟨k,hkk⟩:∃k:Nat,y.1=k:=⟨y.1.toNat,by omega⟩
  have hv:gn s n 2 calls m=(⟨w.1.1,[p1.1],w.1.2,(fV s n k y.2).1,[],0⟩,(fV s n k y.2).2):=by simp [gn,c7,cC,e1,e3,e4,hkk]
  rw [hv,hkk]
  repeat' (first|refine go ?_|refine ak ?_|refine HF a1 F8 ?_)
  refine aR [0,6,7,8,10] (α:=Nat×Option (Nat×Nat)) (fun x=>[(11,aH x.1)]) (fun x=>x.1≤k) (fun x=>[dS b s F (fV s n x.1 y.2).2,(rb,.box [.imm 1 (bz w.1.1),.vec (some (kb,1)) 1 (bz [p1.1]),.imm 1 (bz w.1.2),.vec x.2 1 (aS (fV s n x.1 y.2).1),.vec none 2 [],aH 0] 89),(tb,.box [bP,bP,bP,bP,bP,aH 0] 89)]++(tok x.2 3 1 (aS (fV s n x.1 y.2).1).length++(tok (some (kb,1)) 29 1 1++[]))) (fun x=>k - x.1) (0,none) rfl ⟨rfl,trivial⟩ (Nat.zero_le _) (fun _ _ h=>h) ?_
  rintro ⟨i,q⟩ hi
  dsimp only at hi ⊢
  have hol:=uf s hs n y.2 i
  have hstep:fV s n (i+1) y.2=((fV s n i y.2).1++[(dr s n (fV s n i y.2).2).1],(dr s n (fV s n i y.2).2).2):=rfl
  try dsimp only [Hs,Hr,Hq,Hl]
  repeat' (first|refine go ?_|refine HF a1 F8 ?_)
  refine ay rfl (fun h=>?_) (fun h=>?_)
  ·have hil:i < k:=by have:=Hy h;omega
   generalize fV s n i y.2=st at hol hstep ⊢
   have hoil:(aS st.1).length=st.1.length:=aN _
   repeat' (first|refine go ?_|refine ak ?_)
   refine dD [.cell (rb,3,.vec q 1 (aS st.1))] 6 [(0,.v),(1,.k),(2,.v),(3,.v),(4,.f),(5,.v)] none ?_ trivial rfl (by kernel_rfl) (by kernel_rfl) (by kernel_rfl) mixed (by kernel_rfl) rfl
   repeat' (first|refine aE ?_|refine ba a1 ?_|fail)
   refine eb a1 0 rfl rfl rfl (bN 1 rfl rfl c5) (by first | trivial | rfl) ?_
   repeat' (first|refine aE ?_|refine ba a1 ?_|fail)
   refine eC (bN 1 rfl rfl c5) ?_
   generalize dr s n st.2=o at hstep ⊢
   repeat' (first|refine aE ?_|refine ek a1 ?_|fail)
   refine HR [0,6,7,8,10,11,115,119] F8 ?_
   repeat' (first|fail)
   refine cj a1 _ rfl rfl rfl rfl (eF (A:=[_,_,_])) (by simp [aN];omega) (by simp [aN];omega) rfl fun q'=>?_
   refine aV (aJ (eF (A:=[_,_,_])).symm) ?_
   repeat' (first|refine go ?_|refine HF a1 F8 ?_|(apply aZ;refine aY ?_)|(apply aQ;first|refine HG a1 0 HD ?_|refine HG a1 1 HD ?_|refine HG a1 2 HD ?_|refine HG a1 3 HD ?_|fail))
   exact aF (i+1,q') rfl ⟨by rw [Hv];rfl,trivial⟩ (by dsimp only;omega) (by dsimp only;omega) (fun _ _ h=>by dsimp only;rw [hstep];simpa [fi,gg,aS] using h)
  have hil:i=k:=by have:=Hx h;omega
  subst hil
  generalize fV s n i y.2=st
  repeat' (first|refine go ?_|(apply bh;first|refine HJ a1 0 HC ?_|refine HJ a1 1 HC ?_|refine HJ a1 2 HC ?_|refine HJ a1 3 HC ?_|refine HK a1 0 HC ?_|refine HK a1 1 HC ?_|refine HK a1 2 HC ?_|refine HM a1 1 HA (by assumption) rfl ?_|refine HM a1 0 HA (by assumption) rfl ?_|fail)|(apply aQ;first|refine HG a1 0 HD ?_|refine HG a1 1 HD ?_|refine HG a1 2 HD ?_|refine HG a1 3 HD ?_|fail))
  exact bk (bE 2 (cs':=bJ ⟨w.1.1,[p1.1],w.1.2,st.1,[],0⟩) rfl fun σ vs h=>of.vrs (a:=[.imm 1 (bz w.1.1),.vec (some (kb,1)) 1 (bz [p1.1]),.imm 1 (bz w.1.2),.vec q 1 (aS st.1),.vec none 2 [],aH 0]) (b:=bJ ⟨w.1.1,[p1.1],w.1.2,st.1,[],0⟩) ⟨ea.refl _,ea.im,ea.refl _,ea.im,ea.im,ea.refl _,trivial⟩ h) (iR a1 2 [dS b s F st.2] rfl rfl rfl rfl rfl (List.Sublist.cons_cons _ (List.nil_sublist _)) ⟨rfl,rfl⟩)
 have hrow:=n7 s (n:=n) (by omega) w.2
 by_cases h3:kind=3
 ·subst h3
  repeat' (first|refine go ?_|refine ak ?_|refine HF a1 F8 ?_|refine bR rfl ?_|refine bL rfl ?_)
  refine dD [.cell (rb,1,.vec (some (kb,1)) 1 (bz [p1.1]))] 4 [(0,.v),(1,.k),(2,.v),(3,.f)] none ?_ trivial rfl (by kernel_rfl) (by kernel_rfl) (by kernel_rfl) mixed (by kernel_rfl) rfl
  repeat' (first|refine aE ?_|refine ba a1 ?_|fail)
  refine eb a1 0 rfl rfl rfl (bN 1 rfl rfl c5) (by first | trivial | rfl) ?_
  repeat' (first|refine aE ?_|refine ba a1 ?_|fail)
  refine re (n8 s hs F hF n hn h0 2 (by omega)) (bN 1 rfl rfl c5) ?_
  generalize e4:oT s n 2 w.2=y at hrow ⊢
  have hrl:=hrow.1
  unfold BE
  repeat' (first|fail)
  refine HR [0,6,7,8,125,127] F8 ?_
  repeat' (first|fail)
  refine cj a1 _ rfl rfl rfl rfl (eF (A:=[_,_,_])) (by simp [fD s hs];omega) (by simp [fD s hs];omega) rfl fun q'=>?_
  refine aV (aJ (eF (A:=[_,_,_])).symm) ?_
  rw [rJ s hs]
  repeat' (first|refine go ?_|refine HF a1 F8 ?_|(apply aQ;first|refine HG a1 0 HD ?_|refine HG a1 1 HD ?_|refine HG a1 2 HD ?_|refine HG a1 3 HD ?_|fail))
  refine cD ?_
  generalize e5:dr s n y.2=o
  have hv:gn s n 3 calls m=(⟨w.1.1,p1.1::y.1,w.1.2,[o.1],[],0⟩,o.2):=by simp [gn,c7,cC,e1,e3,e4,e5]
  rw [hv]
  repeat' (first|refine go ?_|refine HF a1 F8 ?_|(apply bh;first|refine HJ a1 0 HC ?_|refine HJ a1 1 HC ?_|refine HJ a1 2 HC ?_|refine HJ a1 3 HC ?_|refine HK a1 0 HC ?_|refine HK a1 1 HC ?_|refine HK a1 2 HC ?_|refine HM a1 1 HA (by assumption) rfl ?_|refine HM a1 0 HA (by assumption) rfl ?_|fail)|(apply aQ;first|refine HG a1 0 HD ?_|refine HG a1 1 HD ?_|refine HG a1 2 HD ?_|refine HG a1 3 HD ?_|fail)|refine bI a1 ?_|fail)
  exact bk (bE 2 (cs':=bJ ⟨w.1.1,p1.1::y.1,w.1.2,[o.1],[],0⟩) rfl fun σ vs h=>of.vrs (a:=[.imm 1 (bz w.1.1),.vec q' 1 (bz (p1.1::y.1)),.imm 1 (bz w.1.2),.imm 1 (aS [o.1]),.vec none 2 [],aH 0]) (b:=bJ ⟨w.1.1,p1.1::y.1,w.1.2,[o.1],[],0⟩) ⟨ea.refl _,ea.im,ea.refl _,ea.refl _,ea.im,ea.refl _,trivial⟩ h) (iR a1 2 [dS b s F o.2] rfl rfl rfl rfl rfl (List.Sublist.cons_cons _ (List.nil_sublist _)) ⟨rfl,rfl⟩)
 have h4:kind=4:=by omega
 subst h4
 repeat' (first|refine go ?_|refine ak ?_|refine HF a1 F8 ?_|refine bL rfl ?_)
 refine dD [.cell (rb,1,.vec (some (kb,1)) 1 (bz [p1.1]))] 4 [(0,.v),(1,.k),(2,.v),(3,.f)] none ?_ trivial rfl (by kernel_rfl) (by kernel_rfl) (by kernel_rfl) mixed (by kernel_rfl) rfl
 repeat' (first|refine aE ?_|refine ba a1 ?_|fail)
 refine eb a1 0 rfl rfl rfl (bN 1 rfl rfl c5) (by first | trivial | rfl) ?_
 repeat' (first|refine aE ?_|refine ba a1 ?_|fail)
 refine re (n8 s hs F hF n hn h0 2 (by omega)) (bN 1 rfl rfl c5) ?_
 generalize e4:oT s n 2 w.2=y at hrow ⊢
 have hrl:=hrow.1
 unfold BE
 repeat' (first|fail)
 refine HR [0,2,6,7,50,52] F8 ?_
 repeat' (first|fail)
 refine cj a1 _ rfl rfl rfl rfl (eF (A:=[_,_,_])) (by simp [fD s hs];omega) (by simp [fD s hs];omega) rfl fun q1=>?_
 refine aV (aJ (eF (A:=[_,_,_])).symm) ?_
 rw [rJ s hs]
 repeat' (first|refine go ?_|refine HF a1 F8 ?_|(apply aQ;first|refine HG a1 0 HD ?_|refine HG a1 1 HD ?_|refine HG a1 2 HD ?_|refine HG a1 3 HD ?_|fail))
 refine cD ?_
 have hc:=cn s hs y.2.a (n:=3) (by omega)
 have hc:0≤(dr s 3 y.2).1∧(dr s 3 y.2).1 < 3:=hc
 generalize e5:dr s 3 y.2=o at hc ⊢
 obtain ⟨k,hkk⟩:∃k:Nat,o.1=k:=⟨o.1.toNat,by omega⟩
 have hv:gn s n 4 calls m=(⟨w.1.1,p1.1::y.1,w.1.2,[],(f5 s (p1.1::y.1).length calls (if calls.length=0 then 0 else k) o.2).1,0⟩,(f5 s (p1.1::y.1).length calls (if calls.length=0 then 0 else k) o.2).2):=by simp [gn,c7,cC,e1,e3,e4,e5,hkk]
 rw [hv,hkk]
 have hrw:(bz (p1.1::y.1)).length=(p1.1::y.1).length:=fD s hs _
 have hrw2:(p1.1::y.1).length=y.1.length+1:=rfl
 have hcal:(aS calls).length=calls.length:=aN _
 repeat' (first|refine go ?_|refine ak ?_|refine HF a1 F8 ?_)
 have hcon:∀i,(f5 s (p1.1::y.1).length calls i o.2).1.length=i:=fun i=>vj s hs _ calls o.2 i
 generalize hKK:(if calls.length=0 then 0 else k)=KK
 have hK:∀i:Nat,i < KK↔i < k∧0 < calls.length:=fun i=>by rw [←hKK];split <;> omega
 refine aR [0,2,6,7,12] (α:=Nat×Option (Nat×Nat)) (fun x=>[(13,aH x.1)]) (fun x=>x.1≤KK) (fun x=>[dS b s F (f5 s (p1.1::y.1).length calls x.1 o.2).2,(rb,.box [.imm 1 (bz w.1.1),.vec q1 1 (bz (p1.1::y.1)),.imm 1 (bz w.1.2),.vec none 1 [],.vec x.2 2 ((f5 s (p1.1::y.1).length calls x.1 o.2).1.map fQ),aH 0] 89),(tb,.box [bP,bP,bP,bP,bP,aH 0] 89)]++(tok x.2 91 2 ((f5 s (p1.1::y.1).length calls x.1 o.2).1.map fQ).length++(tok q1 29 1 (bz (p1.1::y.1)).length++[]))) (fun x=>KK - x.1) (0,none) rfl ⟨rfl,trivial⟩ (Nat.zero_le _) (fun _ _ h=>h) ?_
 rintro ⟨i,q⟩ hi
 dsimp only at hi ⊢
 have hol:=hcon i
 have hstep:f5 s (p1.1::y.1).length calls (i+1) o.2=(c7 (dr s (p1.1::y.1).length) fun a=>c7 (dr s calls.length) fun z=>cC ((f5 s (p1.1::y.1).length calls i o.2).1++[(⟨a,calls.getD z.toNat 0⟩:gH)])) (f5 s (p1.1::y.1).length calls i o.2).2:=rfl
 try dsimp only [Hs,Hr,Hq,Hl]
 repeat' (first|refine go ?_|refine HF a1 F8 ?_)
 by_cases hik:i < KK
 ·have hik2:=(hK i).1 hik
  rw [decide_eq_true (show ((i:Nat):Int) < (k:Int) by omega)]
  repeat' (first|refine go ?_|refine HF a1 F8 ?_|refine HO F8 ?_)
  rw [decide_eq_true (show (0:Int) < (((aS calls).length:Nat):Int) by omega)]
  generalize f5 s (p1.1::y.1).length calls i o.2=st at hol hstep ⊢
  have hoil:(st.1.map fQ).length=st.1.length:=Hu ..
  repeat' (first|refine go ?_|refine ak ?_|refine bR rfl ?_)
  refine dD [.cell (rb,4,.vec q 2 (st.1.map fQ))] 16 [(0,.v),(1,.k),(2,.v),(3,.v),(4,.l),(5,.v),(7,.v),(8,.v),(9,.v),(10,.v),(6,.f),(11,.f),(12,.v),(13,.v),(14,.v),(15,.v)] none ?_ trivial rfl (by kernel_rfl) (by kernel_rfl) (by kernel_rfl) mixed (by kernel_rfl) rfl
  repeat' (first|refine aE ?_|refine ba a1 ?_|fail)
  refine eb a1 0 rfl rfl rfl (bN 1 rfl rfl c5) (by first | trivial | rfl) ?_
  repeat' (first|refine aE ?_|refine ba a1 ?_|refine bX a1 1 rfl rfl rfl rfl (by first|trivial|rfl) ?_)
  rw [hrw]
  refine eC (bN 1 rfl rfl c5) ?_
  unfold c7 at hstep
  generalize dr s (p1.1::y.1).length st.2=g1 at hstep ⊢
  dsimp only at hstep
  repeat' (first|refine aE ?_|fail)
  rw [hcal]
  refine eC (bN 1 rfl rfl c5) ?_
  have hg:=cn s hs g1.2.a (n:=calls.length) (by omega)
  have hg:0≤(dr s calls.length g1.2).1∧(dr s calls.length g1.2).1 < calls.length:=hg
  generalize dr s calls.length g1.2=g2 at hg hstep ⊢
  have hgl:(aS calls)[g2.1.toNat]?=some [aH (calls.getD g2.1.toNat 0)]:=bG (by rw [List.getD_eq_getElem?_getD,Hz (show g2.1.toNat < calls.length by omega)];rfl)
  dsimp only [cC] at hstep
  repeat' (first|refine aE ?_|refine ba a1 ?_|(apply co;refine cJ a1 ?_)|refine ek a1 ?_|fail)
  refine HR [0,2,6,7,12,13,68,82] F8 ?_
  repeat' (first|fail)
  refine cj a1 _ rfl rfl rfl rfl (eF (A:=[_,_,_])) (by simp;omega) (by simp;omega) rfl fun q'=>?_
  refine aV (aJ (eF (A:=[_,_,_])).symm) ?_
  repeat' (first|refine go ?_|refine HF a1 F8 ?_|(apply aZ;refine aY ?_)|(apply aQ;first|refine HG a1 0 HD ?_|refine HG a1 1 HD ?_|refine HG a1 2 HD ?_|refine HG a1 3 HD ?_|fail))
  exact aF (i+1,q') rfl ⟨by rw [Hv];rfl,trivial⟩ (by dsimp only;omega) (by dsimp only;omega) (fun _ _ h=>by dsimp only;rw [hstep];simpa [fi,gg,fQ] using h)
 have hiK:i=KK:=by omega
 subst hiK
 generalize f5 s (p1.1::y.1).length calls i o.2=st
 have hno:¬(i < k∧0 < calls.length):=fun h=>absurd ((hK i).2 h) (by omega)
 by_cases hik2:i < k
 ·rw [decide_eq_true (show ((i:Nat):Int) < (k:Int) by omega)]
  repeat' (first|refine go ?_|refine HF a1 F8 ?_|refine HO F8 ?_)
  rw [decide_eq_false (show ¬(0:Int) < (((aS calls).length:Nat):Int) by omega)]
  repeat' (first|refine go ?_|(apply bh;first|refine HJ a1 0 HC ?_|refine HJ a1 1 HC ?_|refine HJ a1 2 HC ?_|refine HJ a1 3 HC ?_|refine HK a1 0 HC ?_|refine HK a1 1 HC ?_|refine HK a1 2 HC ?_|refine HM a1 1 HA (by assumption) rfl ?_|refine HM a1 0 HA (by assumption) rfl ?_|fail)|(apply aQ;first|refine HG a1 0 HD ?_|refine HG a1 1 HD ?_|refine HG a1 2 HD ?_|refine HG a1 3 HD ?_|fail)|refine bL rfl ?_)
  exact bk (bE 2 (cs':=bJ ⟨w.1.1,p1.1::y.1,w.1.2,[],st.1,0⟩) rfl fun σ vs h=>of.vrs (a:=[.imm 1 (bz w.1.1),.vec q1 1 (bz (p1.1::y.1)),.imm 1 (bz w.1.2),.vec none 1 [],.vec q 2 (st.1.map fQ),aH 0]) (b:=bJ ⟨w.1.1,p1.1::y.1,w.1.2,[],st.1,0⟩) ⟨ea.refl _,ea.im,ea.refl _,ea.im,ea.im,ea.refl _,trivial⟩ h) (iR a1 2 [dS b s F st.2] rfl rfl rfl rfl rfl (List.Sublist.cons_cons _ (List.nil_sublist _)) ⟨rfl,rfl⟩)
 ·rw [decide_eq_false (show ¬((i:Nat):Int) < (k:Int) by omega)]
  repeat' (first|refine go ?_|refine HF a1 F8 ?_|refine HS HB ?_|(apply bh;first|refine HJ a1 0 HC ?_|refine HJ a1 1 HC ?_|refine HJ a1 2 HC ?_|refine HJ a1 3 HC ?_|refine HK a1 0 HC ?_|refine HK a1 1 HC ?_|refine HK a1 2 HC ?_|refine HM a1 1 HA (by assumption) rfl ?_|refine HM a1 0 HA (by assumption) rfl ?_|fail)|(apply aQ;first|refine HG a1 0 HD ?_|refine HG a1 1 HD ?_|refine HG a1 2 HD ?_|refine HG a1 3 HD ?_|fail)|refine bL rfl ?_)
  exact bk (bE 2 (cs':=bJ ⟨w.1.1,p1.1::y.1,w.1.2,[],st.1,0⟩) rfl fun σ vs h=>of.vrs (a:=[.imm 1 (bz w.1.1),.vec q1 1 (bz (p1.1::y.1)),.imm 1 (bz w.1.2),.vec none 1 [],.vec q 2 (st.1.map fQ),aH 0]) (b:=bJ ⟨w.1.1,p1.1::y.1,w.1.2,[],st.1,0⟩) ⟨ea.refl _,ea.im,ea.refl _,ea.im,ea.im,ea.refl _,trivial⟩ h) (iR a1 2 [dS b s F st.2] rfl rfl rfl rfl rfl (List.Sublist.cons_cons _ (List.nil_sublist _)) ⟨rfl,rfl⟩)
end Go.Proofs.YtpbinloeemebkaaGreat
namespace Go.Proofs.YtpbinloeemebkaaGreat
open Go.RowKit
section
variable {P:Program} {fr:c6} {B:Bs} {L:AL} {d:Option Tmp} {ty t t':TypeId} {pos:String} {af:Array Edge} {g:Option (Nat×Bool)} {x y z q:Operand} {u:AV}
theorem CZ.cells {e:TypeId} {i:TypeInfo} {zz:Value} {zs:List Value} (hz:CZ P e zs) (hi:P.info? e=some i) (hzz:i.zero=some zz) (w:World):zz.cells=zs.toArray:=by
 obtain ⟨v,hv,hr⟩:=hz.run
 have:=hr w
 simp [zeroValue,typeInfo,hi,hzz] at this
 rw [this,hv]
theorem nf {σ:ci} (l:List Value):dv σ (l.map .sc) l:=by
 refine ⟨by simp,fun i c u hc hu=>?_⟩
 rw [List.getElem?_map,hu] at hc
 cases hc
 exact .sc _
theorem fF {zs:Array Value} {n:Nat} {v:Value} (h:v∈(Builtin.zeroCells zs n).toList):v∈zs.toList:=by
 obtain ⟨i,hi,rfl⟩:=List.getElem_of_mem h
 simp only [Builtin.zeroCells] at hi ⊢
 by_cases h0:zs.size=0
 ·simp [h0] at hi
 ·have:i % zs.size < zs.size:=Nat.mod_lt _ (by omega)
  simp [this]
theorem v7 (i:Nat) {e sz by_ b n cap:Nat} {cs es:List AV} {zs:List Value} (hc:kw P t e sz by_) (hs0:0 < sz) (hz:CZ P e zs) (hz1:zs.all (·.oneCell')=true) (hx:bt fr x=some (.sc (.slice (some ⟨b,0,none⟩) n cap))) (hy:bt fr y=some u) (hu:u.im= .imm sz [es]) (hL:L[i]?=some (b,.box cs e)) (hcl:cs.length=cap * sz) (hn:n≤cap) (hcm:cap≤maxLen) (h63:n+1≤maxLen) (hby:(n+1) * by_≤140737488355328):
  AO P ⟨d,.call ⟨.builtin .append,#[x,y],#[t,t]⟩,ty,pos,af,g⟩ fr B L (fun r L'=>∃b' cs' cap',r= .sc (.slice (some ⟨b',0,none⟩) (n+1) cap')∧cs'.length=cap' * sz∧cs'.take ((n+1) * sz)=cs.take (n * sz)++es∧n+1≤cap'∧cap'≤maxLen∧L'=(b',.box cs' e)::L.eraseIdx i):=by
 intro σ ρ w hρ hw0
 have hw:=hw0.perm (fh hL)
 have hxv:=(hρ x _ hx).sc_inv
 have hyv:=(hρ y u hy).im
 rw [hu] at hyv
 obtain ⟨A2,c2,hA2,_⟩:=hyv.imm_inv
 rw [hA2] at hyv
 obtain ⟨_,_,_,hs2,ys,hyl,hyr,hy1,hyc⟩:=hyv.row
 obtain ⟨b2,off2,rfl,hycc⟩:=hyc (by simp)
 haveI:=hc
 obtain ⟨inf,zz,hi,hsz,rfl,hzz,hzs⟩:=hc.info
 have hzc:=hz.cells hi hzz w
 obtain ⟨o,ho,vs,rfl,hvs,h1⟩:=hw.here _ (List.mem_cons_self ..)
 have hl:=hvs.1
 have hel:es.length=sz:=hs2 es (by simp)
 have hyl0:ys.length=sz:=by simpa [hel] using hyl
 have hyl':ys.length=1 * inf.size:=by rw [hsz];omega
 have hyr':dv σ es ys:=by simpa using hyr
 have hnews:∀j v,ys[j]?=some v→w.cell? ((⟨b2,off2,none⟩:Addr).add j)=some v:=fun j v hj=>by rw [dN];exact hw.froz _ _ _ (hycc j v hj)
 have hA2':ρ y= .slice (some ⟨b2,off2,none⟩) 1 c2:=hA2
 have hmul:(n+1) * sz=n * sz+sz:=by rw [Nat.add_mul,Nat.one_mul]
 have hnc:n * sz≤cap * sz:=Nat.mul_le_mul_right _ hn
 unfold maxLen at hcm h63
 unfold gU
 by_cases hroom:n+1≤cap
 ·have hnc1:(n+1) * sz≤cap * sz:=Nat.mul_le_mul_right _ hroom
  have hr:=run_append_room (P:=P) w t ty e inf hc.under hi b n cap vs.toArray ho ⟨b2,off2,none⟩ 1 c2 ys hyl' hnews hy1 hroom (by rw [hsz];simp;omega)
  rw [show (execOp ρ ⟨d,.call ⟨.builtin .append,#[x,y],#[t,t]⟩,ty,pos,af,g⟩).run P w= .ok (.value (.slice (some ⟨b,0,none⟩) (n+1) cap)) (w.setRow b (vs.toArray.toList.take (n * inf.size)++ys++vs.toArray.toList.drop (n * inf.size+ys.length)).toArray) by
   simp [execOp,resolve,hxv,hA2',invoke,builtin,hr]]
  rw [hsz,hyl0]
  have hcl':(cs.take (n * sz)++es++cs.drop (n * sz+sz)).length=cap * sz:=by simp;omega
  refine ⟨σ,.sc _,_,ci.le_refl _,.sc _,hw.put (a':= .box (cs.take (n * sz)++es++cs.drop (n * sz+sz)) e) (fun _=>trivial) ⟨rfl,rfl,rfl,by simp,fun k _ hk=>setRow_other w b k _ (fun e=>hk (by simp [e]))⟩ (setRow_heap w b _ _ e _ ho) ⟨_,rfl,dV (dV (fE hvs _) hyr') (ld hvs _),fun u hu=>?_⟩,b,_,cap,rfl,hcl',?_,hroom,by unfold maxLen;omega,rfl⟩
  ·rcases Hn hu with hu | hu
   ·rcases Hn hu with hu | hu
    ·exact h1 _ (List.mem_of_mem_take hu)
    ·exact hy1 _ hu
   ·exact h1 _ (List.mem_of_mem_drop hu)
  ·rw [List.take_append_of_le_length (by simp;omega),List.take_of_length_le (by simp;omega)]
 ·have hncap:n=cap:=by omega
  subst hncap
  have holds:∀j v,vs[j]?=some v→w.cell? ((⟨b,0,none⟩:Addr).add j)=some v:=fun j v hj=>by
   rw [dN,Nat.zero_add,cY ho]
   simpa using hj
  have hr:=run_append_grow (P:=P) w t ty e inf zz hc.under hi hzz ⟨b,0,none⟩ n n vs (by rw [hsz];omega) holds ⟨b2,off2,none⟩ 1 c2 ys hyl' hnews (by omega) (by omega) (growslice_fits (by omega) hby)
  rw [show (execOp ρ ⟨d,.call ⟨.builtin .append,#[x,y],#[t,t]⟩,ty,pos,af,g⟩).run P w= .ok (.value (.slice (some ⟨w.heap.size,0,none⟩) (n+1) (grownCap w (n+1) n e))) (w.drew.alloc (.cells (vs.toArray++ys.toArray++Builtin.zeroCells zz.cells (grownCap w (n+1) n e - (n+1))) e)) by
   simp [execOp,resolve,hxv,hA2',invoke,builtin,hr]]
  have hge:=grownCap_ge w (n+1) n e
  have hgm:=grownCap_le_maxLen w (n+1) n e (by unfold maxLen;omega)
  have hzl:∀k,(Builtin.zeroCells zz.cells k).toList.length=k * sz:=fun k=>by rw [Array.length_toList,size_zeroCells,hzs]
  have hzm:∀k,∀v∈(Builtin.zeroCells zz.cells k).toList,v.oneCell'=true:=fun k v hv=>by
   have:=fF hv
   rw [hzc] at this
   exact List.all_eq_true.1 hz1 v (by simpa using this)
  generalize grownCap w (n+1) n e=cap' at *
  have hmc:cap' * sz=(n+1) * sz+(cap' - (n+1)) * sz:=by rw [←Nat.add_mul];congr 1;omega
  have hzl':=hzl (cap' - (n+1))
  have hzm':=hzm (cap' - (n+1))
  generalize Builtin.zeroCells zz.cells (cap' - (n+1))=zc at *
  have hlen:(cs++es++zc.toList.map AV.sc).length=cap' * sz:=by simp only [List.length_append,Hu,hzl'];omega
  refine ⟨σ,.sc _,_,ci.le_refl _,.sc _,((hw.sublist (List.sublist_cons_self ..)).drew _).alloc _ (.box (cs++es++zc.toList.map AV.sc) e) ⟨vs++ys++zc.toList,by simp,dV (dV hvs hyr') (nf _),fun u hu=>?_⟩,w.heap.size,_,cap',rfl,hlen,?_,hge,hgm,rfl⟩
  ·rcases Hn hu with hu | hu
   ·rcases Hn hu with hu | hu
    ·exact h1 _ hu
    ·exact hy1 _ hu
   ·exact hzm' u hu
  ·rw [List.take_append_of_le_length (by simp;omega),List.take_of_length_le (by simp;omega),List.take_of_length_le (by omega)]
theorem t7 {e sz by_:Nat} {es:List AV} {zs:List Value} (hc:kw P t e sz by_) (hs0:0 < sz) (hz:CZ P e zs) (hz1:zs.all (·.oneCell')=true) (hx:bt fr x=some (.sc (.slice none 0 0))) (hy:bt fr y=some u) (hu:u.im= .imm sz [es]) (hby:by_≤140737488355328):
  AO P ⟨d,.call ⟨.builtin .append,#[x,y],#[t,t]⟩,ty,pos,af,g⟩ fr B L (fun r L'=>∃b' cs' cap',r= .sc (.slice (some ⟨b',0,none⟩) 1 cap')∧cs'.length=cap' * sz∧cs'.take (1 * sz)=es∧1≤cap'∧cap'≤maxLen∧L'=(b',.box cs' e)::L):=by
 intro σ ρ w hρ hw
 have hxv:=(hρ x _ hx).sc_inv
 have hyv:=(hρ y u hy).im
 rw [hu] at hyv
 obtain ⟨A2,c2,hA2,_⟩:=hyv.imm_inv
 rw [hA2] at hyv
 obtain ⟨_,_,_,hs2,ys,hyl,hyr,hy1,hyc⟩:=hyv.row
 obtain ⟨b2,off2,rfl,hycc⟩:=hyc (by simp)
 haveI:=hc
 obtain ⟨inf,zz,hi,hsz,rfl,hzz,hzs⟩:=hc.info
 have hzc:=hz.cells hi hzz w
 have hel:es.length=sz:=hs2 es (by simp)
 have hyl0:ys.length=sz:=by simpa [hel] using hyl
 have hyl':ys.length=1 * inf.size:=by rw [hsz];omega
 have hyr':dv σ es ys:=by simpa using hyr
 have hnews:∀j v,ys[j]?=some v→w.cell? ((⟨b2,off2,none⟩:Addr).add j)=some v:=fun j v hj=>by rw [dN];exact hw.froz _ _ _ (hycc j v hj)
 have hA2':ρ y= .slice (some ⟨b2,off2,none⟩) 1 c2:=hA2
 have hr:=run_append_nil (P:=P) w t ty e inf zz hc.under hi hzz ⟨b2,off2,none⟩ 1 c2 ys hyl' hnews (by omega) (by omega) (by omega)
 unfold gU
 rw [show (execOp ρ ⟨d,.call ⟨.builtin .append,#[x,y],#[t,t]⟩,ty,pos,af,g⟩).run P w= .ok (.value (.slice (some ⟨w.heap.size,0,none⟩) 1 (grownCap w 1 0 e))) (w.drew.alloc (.cells (ys.toArray++Builtin.zeroCells zz.cells (grownCap w 1 0 e - 1)) e)) by
  simp [execOp,resolve,hxv,hA2',invoke,builtin,hr]]
 have hge:=grownCap_ge w 1 0 e
 have hgm:=grownCap_le_maxLen w 1 0 e (by unfold maxLen;omega)
 have hzl:∀k,(Builtin.zeroCells zz.cells k).toList.length=k * sz:=fun k=>by rw [Array.length_toList,size_zeroCells,hzs]
 have hzm:∀k,∀v∈(Builtin.zeroCells zz.cells k).toList,v.oneCell'=true:=fun k v hv=>by
  have:=fF hv
  rw [hzc] at this
  exact List.all_eq_true.1 hz1 v (by simpa using this)
 generalize grownCap w 1 0 e=cap' at *
 have hmc:cap' * sz=sz+(cap' - 1) * sz:=by
  have:cap'=1+(cap' - 1):=by omega
  rw [this,Nat.add_mul]
  simp
 have hzl':=hzl (cap' - 1)
 have hzm':=hzm (cap' - 1)
 generalize Builtin.zeroCells zz.cells (cap' - 1)=zc at *
 have hlen:(es++zc.toList.map AV.sc).length=cap' * sz:=by simp only [List.length_append,Hu,hzl'];omega
 refine ⟨σ,.sc _,_,ci.le_refl _,.sc _,(hw.drew _).alloc _ (.box (es++zc.toList.map AV.sc) e) ⟨ys++zc.toList,by simp,dV hyr' (nf _),fun u hu=>?_⟩,w.heap.size,_,cap',rfl,hlen,?_,hge,hgm,rfl⟩
 ·rcases Hn hu with hu | hu
  ·exact hy1 _ hu
  ·exact hzm' u hu
 ·rw [List.take_append_of_le_length (by simp;omega),List.take_of_length_le (by simp;omega)]
end
section
variable {B:Bs} {fr:c6} {nt:Nat} {D:List Deferred}
theorem cr {σ:ci} {cs:List AV} {vs:List Value} {k:Nat} {c c':AV} (h:dv σ cs vs) (hk:cs[k]?=some c) (hc:∀v,VR σ c v→VR σ c' v):dv σ (cs.set k c') vs:=by
 refine ⟨by rw [List.length_set];exact h.1,fun i x u hx hu=>?_⟩
 by_cases e:k=i
 ·subst e
  rw [List.getElem?_set_self (Hp hk).1] at hx
  cases hx
  exact hc _ (h.2 k c u hk hu)
 ·rw [List.getElem?_set_ne e] at hx
  exact h.2 i x u hx hu
theorem zl {b p e e' sz n cap k:Nat} {cs ds:List AV} {R:AL} {l:List (List AV)} (hk:ds[k]?=some (.sc (.slice (some ⟨b,0,none⟩) n cap))) (hc:cs.take (n * sz)=l.flatten) (hcl:cs.length=cap * sz) (hs:∀q∈l,q.length=sz) (hn:l.length=n) (hnc:n≤cap) (hm:cap≤maxLen):mx nt D B fr ((b,.box cs e)::(p,.box ds e')::R) fr ((p,.box (ds.set k (.imm sz l)) e')::R):=by
 intro σ a w ha hw
 obtain ⟨o,ho,vs,rfl,hvs,h1⟩:=hw.here _ (List.mem_cons_self ..)
 have hfree:=hw.free _ (List.mem_cons_self ..)
 have hvl:vs.length=cap * sz:=by rw [←hvs.1,hcl]
 have hst:cZ B σ ((b,.vec e sz 0 cap)::(p,.box ds e')::R) w:=by
  refine ⟨hw.os,hw.tape,hw.output,hw.size,hw.old,fun p' hp=>?_,fun p' hp=>?_,by simpa using hw.apart,hw.froz,fun p' hp off hm=>?_,hw.grow,hw.same⟩
  ·rcases List.mem_cons.1 hp with rfl | hp'
   ·exact ⟨_,ho,_,rfl,by simp [hvl],Nat.zero_le _,hm⟩
   ·exact hw.here p' (Ht _ hp')
  ·rcases List.mem_cons.1 hp with rfl | hp'
   ·exact hw.mine (b,.box cs e) (List.mem_cons_self ..)
   ·exact hw.mine p' (Ht _ hp')
  ·rcases List.mem_cons.1 hp with rfl | hp'
   ·exact hfree off trivial
   ·exact hw.free p' (Ht _ hp') off hm
 have hle':n * sz≤cap * sz:=Nat.mul_le_mul_right _ hnc
 obtain ⟨hst',hle⟩:=hst.freezeHead (n':=n) (xs:=vs.take (n * sz)) (fun j u hj=>by
  rw [List.getElem?_take] at hj
  split at hj
  ·rw [cY ho];simpa using hj
  ·cases hj) (by rw [List.length_take];omega) (Nat.zero_le _) hnc
 have hv:VR (σ.add b (vs.take (n * sz))) (.vec (some (b,cap)) sz l) (.slice (some ⟨b,0,none⟩) n cap):=by
  have:=mv (σ:=σ.add b (vs.take (n * sz))) (b:=b) (cap:=cap) hs (by rw [←hc];exact (fE hvs _).mono hle) (fun u hu=>h1 u (List.mem_of_mem_take hu)) (by omega) hm (fun j u hj=>ci.add_at hj)
  rwa [hn] at this
 have hw2:=hst'.sublist (List.sublist_cons_self ..)
 refine ⟨_,ha.mono hle,?_⟩
 obtain ⟨o2,ho2,ws,rfl,hws,hw1⟩:=hw2.here _ (List.mem_cons_self ..)
 refine ⟨hw2.os,hw2.tape,hw2.output,hw2.size,hw2.old,fun p' hp=>?_,fun p' hp=>?_,by simpa using hw2.apart,hw2.froz,fun p' hp off hm=>?_,hw2.grow,hw2.same⟩
 ·rcases List.mem_cons.1 hp with rfl | hp'
  ·exact ⟨_,ho2,ws,rfl,cr hws hk fun v hvv=>by rw [hvv.sc_inv];exact hv.im,hw1⟩
  ·exact hw2.here p' (Ht _ hp')
 ·rcases List.mem_cons.1 hp with rfl | hp'
  ·exact hw2.mine (p,.box ds e') (List.mem_cons_self ..)
  ·exact hw2.mine p' (Ht _ hp')
 ·rcases List.mem_cons.1 hp with rfl | hp'
  ·exact hw2.free (p,.box ds e') (List.mem_cons_self ..) off trivial
  ·exact hw2.free p' (Ht _ hp') off hm
end
section
variable {P:Program} {tt:TT} {l:List Oper} {fr:c6} {fin:iq} {sk:ky} {acc:c6} {L:AL} {k:Nat} {dd:Option Tmp} {ty t t':TypeId} {pos:String} {af:Array Edge} {g:Option (Nat×Bool)} {x y:Operand} {u:AV}
theorem y6 (ok:ev P tt) (i:Nat) {e sz by_ b n cap:Nat} {cs es:List AV} {zs:List Value} (ht:jt tt t=some (e,sz,by_)) (hz:zI tt e=some zs) (hz1:zs.all (·.oneCell')=true) (hx:bt (cB l.toArray acc fr af.toList) x=some (.sc (.slice (some ⟨b,0,none⟩) n cap))) (hy:bt (cB l.toArray acc fr af.toList) y=some u) (hu:hQ u=some (sz,[es])) (hL:L[i]?=some (b,.box cs e)) (hcl:cs.length=cap * sz) (hn:n≤cap) (hcm:cap≤maxLen) (h63:n+1≤maxLen) (hby:(n+1) * by_≤140737488355328) (hg:iL ⟨dd,.call ⟨.builtin .append,#[x,y],#[t,t]⟩,ty,pos,af,g⟩ acc)
  (h:∀b' cs' cap',cs'.length=cap' * sz→cs'.take ((n+1) * sz)=cs.take (n * sz)++es→n+1≤cap'→cap'≤maxLen→DA P l fr fin sk ((k,.sc (.slice (some ⟨b',0,none⟩) (n+1) cap'))::acc) ((b',.box cs' e)::L.eraseIdx i)):
  cT P l fr fin k .e ⟨dd,.call ⟨.builtin .append,#[x,y],#[t,t]⟩,ty,pos,af,g⟩ sk acc L:=
 iv hg (fun _=>v7 i (bq ok ht).1 (bq ok ht).2 (fw ok hz) hz1 hx hy (cM hu) hL hcl hn hcm h63 hby) fun c L' ⟨b',cs',cap',h1,h2,h3,h4,h5,h6⟩=>by subst h1;subst h6;exact h b' cs' cap' h2 h3 h4 h5
theorem vq (ok:ev P tt) {e sz by_:Nat} {es:List AV} {zs:List Value} (ht:jt tt t=some (e,sz,by_)) (hz:zI tt e=some zs) (hz1:zs.all (·.oneCell')=true) (hx:bt (cB l.toArray acc fr af.toList) x=some (.sc (.slice none 0 0))) (hy:bt (cB l.toArray acc fr af.toList) y=some u) (hu:hQ u=some (sz,[es])) (hby:Nat.ble by_ 140737488355328=true) (hg:iL ⟨dd,.call ⟨.builtin .append,#[x,y],#[t,t]⟩,ty,pos,af,g⟩ acc)
  (h:∀b' cs' cap',cs'.length=cap' * sz→cs'.take (1 * sz)=es→1≤cap'→cap'≤maxLen→DA P l fr fin sk ((k,.sc (.slice (some ⟨b',0,none⟩) 1 cap'))::acc) ((b',.box cs' e)::L)):
  cT P l fr fin k .e ⟨dd,.call ⟨.builtin .append,#[x,y],#[t,t]⟩,ty,pos,af,g⟩ sk acc L:=
 iv hg (fun _=>t7 (bq ok ht).1 (bq ok ht).2 (fw ok hz) hz1 hx hy (cM hu) (Nat.ble_eq .. ▸hby)) fun c L' ⟨b',cs',cap',h1,h2,h3,h4,h5,h6⟩=>by subst h1;subst h6;exact h b' cs' cap' h2 h3 h4 h5
theorem y4 (ok:ev P tt) (L0:AL) {e sz by_:Nat} {q:Option (Nat×Nat)} {l1 l2:List (List AV)} (ht:jt tt t=some (e,sz,by_)) (hx:bt (cB l.toArray acc fr af.toList) x=some (.vec q sz l1)) (hy:bt (cB l.toArray acc fr af.toList) y=some u) (hu:hQ u=some (sz,l2)) (hL:L.Perm (tok q e sz l1.length++L0)) (h63:l1.length+l2.length≤9223372036854775807) (hby:(l1.length+l2.length) * by_≤140737488355328) (hK:fc fin.gs L0) (hg:iL ⟨dd,.call ⟨.builtin .append,#[x,y],#[t,t]⟩,ty,pos,af,g⟩ acc)
  (h:∀q',DA P l fr fin sk ((k,.vec q' sz (l1++l2))::acc) (tok q' e sz (l1++l2).length++L0)):
  cT P l fr fin k .f ⟨dd,.call ⟨.builtin .append,#[x,y],#[t,t]⟩,ty,pos,af,g⟩ sk acc L:=
 wQ (fun c L' ⟨k',_,h2⟩ _=>by subst h2;exact tV hK _) hg (fun _=>nw L0 (bq ok ht).1 (bq ok ht).2 hx hy (cM hu) hL h63 hby) fun c L' ⟨k',h1,h2⟩=>by subst h1;subst h2;exact h k'
end
end Go.Proofs.YtpbinloeemebkaaGreat
namespace Go.Proofs.YtpbinloeemebkaaGreat
open Go.RowKit
attribute [local irreducible] AT bO AX AO Av Kt bo dU DA cT
def fo (i j:Nat) (l:aP):List AV:=[aH l.Kind,c9 l.Ignore,if j < i then .imm 6 (l.Rules.map bJ) else bP]
def eE (i:Nat):Nat→List aP→List AV
 | _,[]=>[]
 | k,l::r=>fo i k l++eE i (k+1) r
theorem B2 (i:Nat):∀(l:List aP) (k:Nat),(eE i k l).length=l.length * 3
 | [],k=>rfl
 | x::l,k=>by
  rw [eE,List.length_append,B2 i l (k+1),List.length_cons,Nat.add_mul]
  simp [fo]
  omega
theorem sq (i:Nat):∀(l:List aP) (k j c:Nat),c < 3→(eE i k l)[j * 3+c]?=(l[j]?).bind fun x=>(fo i (k+j) x)[c]?
 | [],k,j,c,_=>by simp [eE]
 | x::l,k,0,c,hc=>by
  rw [eE,List.getElem?_append_left (by simp [fo];omega)]
  simp
 | x::l,k,j+1,c,hc=>by
  rw [eE,List.getElem?_append_right (by simp [fo];omega)]
  have h1:(j+1) * 3+c - (fo i k x).length=j * 3+c:=by simp [fo];omega
  rw [h1,sq i l (k+1) j c hc,List.getElem?_cons_succ]
  rw [show k+1+j=k+(j+1) by omega]
theorem x8 (i:Nat):∀(l:List aP) (k:Nat) (x:aP),eE i k (l++[x])=eE i k l++fo i (k+l.length) x
 | [],k,x=>by simp [eE]
 | y::l,k,x=>by
  rw [Hs,eE,x8 i l (k+1) x,eE,List.append_assoc,List.length_cons,show k+1+l.length=k+(l.length+1) by omega]
theorem B3 {i:Nat} {l:List aP} {q:aP} {rs:List bv} (hq:l[i]?=some q):(eE i 0 l).set (i * 3+2) (.imm 6 (rs.map bJ))=eE (i+1) 0 (l.set i { q with Rules:=rs }):=by
 have hil:=(Hp hq).1
 apply List.ext_getElem?
 intro p
 obtain ⟨j,c,hc,rfl⟩:∃j c,c < 3∧p=j * 3+c:=⟨p / 3,p % 3,Nat.mod_lt _ (by omega),by omega⟩
 rw [sq _ _ _ _ _ hc]
 by_cases e:i * 3+2=j * 3+c
 ·have hj:j=i:=by omega
  have hc2:c=2:=by omega
  subst hj;subst hc2
  rw [List.getElem?_set_self (by rw [B2];omega),List.getElem?_set_self hil]
  simp [fo]
 ·rw [List.getElem?_set_ne e,sq _ _ _ _ _ hc]
  by_cases hj:i=j
  ·subst hj
   rw [hq,List.getElem?_set_self hil]
   have hc2:c=0∨c=1:=by omega
   rcases hc2 with rfl | rfl <;> rfl
  ·rw [List.getElem?_set_ne hj]
   cases l[j]? with
   | none=>rfl
   | some x=>
    simp only [Option.bind_some,Nat.zero_add]
    have hc3:c=0∨c=1∨c=2:=by omega
    rcases hc3 with rfl | rfl | rfl
    ·rfl
    ·rfl
    ·simp only [fo]
     by_cases hlt:j < i
     ·rw [if_pos hlt,if_pos (by omega)]
     ·rw [if_neg hlt,if_neg (by omega)]
theorem D0 {i:Nat} {l:List aP} {q:aP} (hq:l[i]?=some q) (h0:q.Rules=[]):(eE i 0 l).set (i * 3+2) (.imm 6 [])=eE (i+1) 0 l:=by
 have:=B3 (rs:=[]) hq
 rw [show l.set i { q with Rules:=[] }=l from ?_] at this
 ·exact this
 ·have:({ q with Rules:=[] }:aP)=q:=by cases q;simp at h0;simp [h0]
  rw [this]
  apply List.ext_getElem?
  intro j
  by_cases e:i=j
  ·subst e;rw [List.getElem?_set_self (Hp hq).1,hq]
  ·rw [List.getElem?_set_ne e]
theorem B0:∀(l:List aP) (i k:Nat),k+l.length≤i→eE i k l=(l.map bF).flatten
 | [],i,k,_=>rfl
 | x::l,i,k,h=>by
  simp only [List.length_cons] at h
  rw [eE,B0 l i (k+1) (by omega),Hq,List.flatten_cons]
  congr 1
  simp only [fo]
  rw [if_pos (by omega)]
  rfl
def yt (i:Nat):Option (Nat×List AV×Nat)→AV
 | none=>bP
 | some (b,_,cap)=> .sc (.slice (some ⟨b,0,none⟩) i cap)
def AU:Option (Nat×List AV×Nat)→AL
 | none=>[]
 | some (b,cs,_)=>[(b,.box cs 70)]
def x7 (n i:Nat) (l:List aP):Option (Nat×List AV×Nat)→Prop
 | none=>n=0
 | some (_,cs,cap)=>cs.length=cap * 3∧n≤cap∧cap≤maxLen∧cs.take (n * 3)=eE i 0 l
end Go.Proofs.YtpbinloeemebkaaGreat
