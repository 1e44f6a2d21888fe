/-
  The maker: rules.
-/
import Derived.Test.YtpmdfoaadejmkaaGreatDoorM27
import Derived.Test.YtpmdfoaadejmkaaGreatDoorM12
namespace Go.Proofs.YtpmdfoaadejmkaaGreatDoor
open Go.RowKit
attribute [local irreducible] AT bK AX AO Av Kt bh dw DA cK
variable (s:List Int) (hs:s.length≤1000000) (F:MF)
include hs
def FU (r:bc):AV:= .agg (bB r)
def Jm (rb:Nat) (b0 b1 b2 b3 b4:AV) (x:Int):Nat×AB:=(rb,.box [b0,b1,b2,b3,b4,aF x] 79)
theorem sI (a:List Int) (l:List (List Int)):b6 [a]++b6 l=b6 (a::l):=by
 have _:=hs
 clear hs
 rfl
theorem vg (n:Int) (m:MS) (k:Nat):(ga s n k m).1.length=k:=by
 have _:=hs
 clear hs
 induction k with
 | zero=>rfl
 | succ k ih=>
  have:ga s n (k+1) m=((ga s n k m).1++[(dr s n (ga s n k m).2).1],(dr s n (ga s n k m).2).2):=rfl
  rw [this]
  simp [ih]
theorem wf (nn:Int) (calls:List Int) (m:MS) (k:Nat):(f8 s nn calls k m).1.length=k:=by
 have _:=hs
 clear hs
 induction k with
 | zero=>rfl
 | succ i ih=>
  have:f8 s nn calls (i+1) m=(c9 (dr s nn) fun a=>c9 (dr s calls.length) fun z=>ret ((f8 s nn calls i m).1++[(⟨a,calls.getD z.toNat 0⟩:gQ)])) (f8 s nn calls i m).2:=rfl
  rw [this]
  simp [c9,ret,ih]
set_option maxHeartbeats 16000000 in
theorem Ac {kg:Option (Nat×Nat)} {gl:List (List AV)} (hF:F.gl= .vec kg 9 gl) (n:Nat) (hn:gl.length=n) (h0:0 < n∧n≤1000) (kind:Int) (hk:1≤kind∧kind≤6) (calls:List Int) (hcl:calls.length≤1000):rz 176 [aF kind,.imm 1 (aW calls)] s F (gC s n kind calls) FU:=by
 intro b m
 refine aN Tryz.func176 rfl Tryz.ntmps176 rfl fun B=>?_
 repeat' (first|refine JU ?_|refine JG a5 JA ?_|(apply bF;first|refine JJ a5 0 JD ?_|refine JJ a5 1 JD ?_|refine JJ a5 2 JD ?_|refine JJ a5 3 JD ?_|refine JK a5 0 JD ?_|refine JK a5 1 JD ?_|refine JK a5 2 JD ?_|refine JL a5 1 JB (by assumption) rfl ?_|refine JL a5 0 JB (by assumption) rfl ?_|fail)|refine bj a5 fun _=>?_|fail)
 rw [hF]
 repeat' (first|refine JU ?_|refine JG a5 JA ?_)
 rw [hn]
 rename_i tb rb
 refine aJ (aR (L':=[dT b s F m,(rb,.box [bT,bT,bT,bT,bT,aF 0] 79),(tb,.box [bT,bT,bT,bT,bT,aF 0] 79)]) (List.perm_append_comm (l₁:=[_,_]))) ?_
 refine v7 (rh s hs F hF n hn h0) ?_
 have ha:=pC s (n:=n) (by omega) m
 generalize e1:nv s n m=p1 at ha ⊢
 have haf:=ha.few
 unfold F1
 repeat' (first|refine JU ?_|refine JG a5 JA ?_|(apply aM;first|refine JH a5 0 JE ?_|refine JH a5 1 JE ?_|refine JH a5 2 JE ?_|refine JH a5 3 JE ?_|fail)|refine iL (d:=22) a5 fun _=>?_|fail)
 rename_i kb
 refine bS (aR (L':=[dT b s F p1.2,(rb,.box [bT,.vec (some (kb,1)) 1 (b6 [p1.1]),bT,bT,bT,aF 0] 79),(tb,.box [bT,bT,bT,bT,bT,aF 0] 79)]++(tok (some (kb,1)) 22 1 1++[])) (List.perm_append_comm (l₁:=[_]))) ?_
 repeat' (first|fail)
 refine ar rfl (fun h6=>?_) (fun h6=>?_)
 ·have h6:=Jz h6
  subst h6
  repeat' (first|refine JU ?_|fail)
  refine di [.cell (rb,1,.vec (some (kb,1)) 1 (b6 [p1.1]))] 5 [(0,.v),(1,.k),(2,.v),(3,.f),(4,.v)] none ?_ trivial rfl (by kernel_rfl) (by kernel_rfl) (by kernel_rfl) bQ (by kernel_rfl) rfl
  repeat' (first|refine aD ?_|refine b8 a5 ?_|fail)
  refine dJ a5 0 rfl rfl rfl (bP 1 rfl rfl c5) (by first | trivial | rfl) ?_
  repeat' (first|refine aD ?_|refine b8 a5 ?_|fail)
  refine rZ (rh s hs F hF n hn h0) (bP 1 rfl rfl c5) ?_
  generalize e2:nv s n p1.2=p2
  unfold F1
  repeat' (first|refine aD ?_|refine ej a5 ?_|fail)
  refine JQ [0,6,7,27,30] JA ?_
  repeat' (first|fail)
  refine bI a5 _ rfl rfl rfl rfl (eI (A:=[_,_,_])) (by simp [fG s hs]) (by simp [fG s hs]) rfl fun q'=>?_
  refine aJ (aR (eI (A:=[_,_,_])).symm) ?_
  repeat' (first|refine JU ?_|refine JG a5 JA ?_|(apply aM;first|refine JH a5 0 JE ?_|refine JH a5 1 JE ?_|refine JH a5 2 JE ?_|refine JH a5 3 JE ?_|fail))
  refine cD ?_
  have hx:=cq s hs p2.2.a (n:=41) (by omega)
  have hx:0≤(dr s 41 p2.2).1∧(dr s 41 p2.2).1 < 41:=hx
  generalize e3:dr s 41 p2.2=p3 at hx ⊢
  repeat' (first|refine JU ?_|refine JG a5 JA ?_|(apply bF;first|refine JJ a5 0 JD ?_|refine JJ a5 1 JD ?_|refine JJ a5 2 JD ?_|refine JJ a5 3 JD ?_|refine JK a5 0 JD ?_|refine JK a5 1 JD ?_|refine JK a5 2 JD ?_|refine JL a5 1 JB (by assumption) rfl ?_|refine JL a5 0 JB (by assumption) rfl ?_|fail)|(apply aS;refine aQ ?_)|(apply aM;first|refine JH a5 0 JE ?_|refine JH a5 1 JE ?_|refine JH a5 2 JE ?_|refine JH a5 3 JE ?_|fail))
  have hv:gC s n 6 calls m=(⟨[],[p1.1,p2.1],[],[],[],p3.1 * 10 - 200⟩,p3.2):=by simp [gC,FS,c9,ret,e1,e2,e3]
  rw [hv]
  refine bk (bE 2 (cs':=bB ⟨[],[p1.1,p2.1],[],[],[],p3.1 * 10 - 200⟩) rfl fun σ vs h=>mF.vrs (a:=[bT,.vec q' 1 (b6 [p1.1,p2.1]),bT,bT,bT,aF (p3.1 * 10 - 200)]) (b:=bB ⟨[],[p1.1,p2.1],[],[],[],p3.1 * 10 - 200⟩) ⟨cY.nil 1,cY.im,cY.nil 1,cY.nil 1,cY.nil 2,cY.refl _,trivial⟩ h) (iY a5 2 [dT b s F p3.2] rfl rfl rfl rfl rfl (List.Sublist.cons_cons _ (List.nil_sublist _)) ⟨rfl,rfl⟩)
 have h6:=Jy h6
 refine bS (bE 1 (cs':=[.imm 1 [],.vec (some (kb,1)) 1 (b6 [p1.1]),.imm 1 [],.vec none 1 [],.vec none 2 [],aF 0]) rfl fun σ vs h=>mF.vrs (a:=[bT,.vec (some (kb,1)) 1 (b6 [p1.1]),bT,bT,bT,aF 0]) (b:=[.imm 1 [],.vec (some (kb,1)) 1 (b6 [p1.1]),.imm 1 [],.vec none 1 [],.vec none 2 [],aF 0]) ⟨cY.nil 1,cY.refl _,cY.nil 1,cY.vecN 1,cY.vecN 2,cY.refl _,trivial⟩ h) ?_
 repeat' (first|refine JU ?_|refine JG a5 JA ?_)
 refine cD ?_
 generalize e2:dr s 2 p1.2=z
 repeat' (first|refine JU ?_|refine JG a5 JA ?_)
 refine t3 [0,1,2,6,7,8] ([dT b s F (jj s n p1.2).2,(rb,.box [.imm 1 (b6 (jj s n p1.2).1.1),.vec (some (kb,1)) 1 (b6 [p1.1]),.imm 1 (b6 (jj s n p1.2).1.2),.vec none 1 [],.vec none 2 [],aF 0] 79),(tb,.box [bT,bT,bT,bT,bT,aF 0] 79)]++(tok (some (kb,1)) 22 1 1++[])) rfl (fun Q' K=>?_) ?_
 ·refine ar rfl (fun hz=>?_) (fun hz=>?_)
  ·have hz:=Jz hz
   repeat' (first|refine JU ?_|refine JG a5 JA ?_)
   refine v7 (nr s hs F hF n hn h0 2 (by omega)) ?_
   generalize e3:pi s n 2 z.2=y1
   unfold D1
   repeat' (first|refine JU ?_|refine JG a5 JA ?_|(apply aM;first|refine JH a5 0 JE ?_|refine JH a5 1 JE ?_|refine JH a5 2 JE ?_|refine JH a5 3 JE ?_|fail))
   refine v7 (nr s hs F hF n hn h0 2 (by omega)) ?_
   generalize e4:pi s n 2 y1.2=y2
   unfold D1
   repeat' (first|refine JU ?_|refine JG a5 JA ?_|(apply aM;first|refine JH a5 0 JE ?_|refine JH a5 1 JE ?_|refine JH a5 2 JE ?_|refine JH a5 3 JE ?_|fail))
   have hv:jj s n p1.2=((y1.1,y2.1),y2.2):=by simp [jj,c9,ret,e2,e3,e4,hz]
   rw [hv] at K
   exact K _ rfl
  ·have hz:=Jy hz
   repeat' (first|refine JU ?_|fail)
   have hv:jj s n p1.2=(([],[]),z.2):=by simp [jj,c9,ret,e2,hz]
   rw [hv] at K
   exact K _ rfl
 generalize e3:jj s n p1.2=w
 have ha0:(b6 [p1.1])[0]?=some [.imm 1 (aW p1.1)]:=rfl
 have hial:(aW p1.1).length=p1.1.length:=aZ _
 by_cases h15:kind=1∨kind=5
 ·have hv:gC s n kind calls m=(⟨w.1.1,[p1.1],w.1.2,(ga s n p1.1.length w.2).1,[],0⟩,(ga s n p1.1.length w.2).2):=by simp [gC,c9,ret,e1,e3,h6,h15]
  rw [hv]
  rcases h15 with rfl | rfl
  all_goals
   repeat' (first|refine JU ?_|refine am ?_|refine JG a5 JA ?_|refine bD rfl ?_|refine bC rfl ?_)
   refine aP [0,6,7,8] (α:=Nat×Option (Nat×Nat)) (fun x=>[(9,aF x.1)]) (fun x=>x.1≤p1.1.length) (fun x=>[dT b s F (ga s n x.1 w.2).2,(rb,.box [.imm 1 (b6 w.1.1),.vec (some (kb,1)) 1 (b6 [p1.1]),.imm 1 (b6 w.1.2),.vec x.2 1 (aW (ga s n x.1 w.2).1),.vec none 2 [],aF 0] 79),(tb,.box [bT,bT,bT,bT,bT,aF 0] 79)]++(tok x.2 3 1 (aW (ga s n x.1 w.2).1).length++(tok (some (kb,1)) 22 1 1++[]))) (fun x=>p1.1.length - x.1) (0,none) rfl ⟨rfl,trivial⟩ (Nat.zero_le _) (fun _ _ h=>h) ?_
   rintro ⟨i,q⟩ hi
   dsimp only at hi ⊢
   have hol:=vg s hs n w.2 i
   have hstep:ga s n (i+1) w.2=((ga s n i w.2).1++[(dr s n (ga s n i w.2).2).1],(dr s n (ga s n i w.2).2).2):=rfl
   try dsimp only [Jt,Js,Jr,Kz]
   repeat' (first|refine JU ?_|refine JG a5 JA ?_|(apply bF;first|refine JJ a5 0 JD ?_|refine JJ a5 1 JD ?_|refine JJ a5 2 JD ?_|refine JJ a5 3 JD ?_|refine JK a5 0 JD ?_|refine JK a5 1 JD ?_|refine JK a5 2 JD ?_|refine JL a5 1 JB (by assumption) rfl ?_|refine JL a5 0 JB (by assumption) rfl ?_|fail)|(apply aL;first|refine aK a5 ?_|refine aG a5 ?_)|fail)
   refine ar rfl (fun h=>?_) (fun h=>?_)
   ·have hil:i < p1.1.length:=by have:=Jz h;omega
    generalize ga s n i w.2=st at hol hstep ⊢
    have hoil:(aW st.1).length=st.1.length:=aZ _
    repeat' (first|refine JU ?_|refine am ?_)
    refine di [.cell (rb,3,.vec q 1 (aW st.1))] 6 [(0,.v),(1,.k),(2,.v),(3,.v),(4,.f),(5,.v)] none ?_ trivial rfl (by kernel_rfl) (by kernel_rfl) (by kernel_rfl) bQ (by kernel_rfl) rfl
    repeat' (first|refine aD ?_|refine b8 a5 ?_|fail)
    refine dJ a5 0 rfl rfl rfl (bP 1 rfl rfl c5) (by first | trivial | rfl) ?_
    repeat' (first|refine aD ?_|refine b8 a5 ?_|fail)
    refine eF (bP 1 rfl rfl c5) ?_
    generalize dr s n st.2=o at hstep ⊢
    repeat' (first|refine aD ?_|refine ej a5 ?_|fail)
    refine JQ [0,6,7,8,9,98,102] JA ?_
    repeat' (first|fail)
    refine bI a5 _ rfl rfl rfl rfl (eI (A:=[_,_,_])) (by simp [aZ];omega) (by simp [aZ];omega) rfl fun q'=>?_
    refine aJ (aR (eI (A:=[_,_,_])).symm) ?_
    repeat' (first|refine JU ?_|refine JG a5 JA ?_|(apply aS;refine aQ ?_)|(apply aM;first|refine JH a5 0 JE ?_|refine JH a5 1 JE ?_|refine JH a5 2 JE ?_|refine JH a5 3 JE ?_|fail))
    exact aC (i+1,q') rfl ⟨by rw [Jw];rfl,trivial⟩ (by dsimp only;omega) (by dsimp only;omega) (fun _ _ h=>by dsimp only;rw [hstep];simpa [fq,fj,aW] using h)
   have hil:i=p1.1.length:=by have:=Jy h;omega
   subst hil
   generalize ga s n p1.1.length w.2=st
   repeat' (first|refine JU ?_|(apply bF;first|refine JJ a5 0 JD ?_|refine JJ a5 1 JD ?_|refine JJ a5 2 JD ?_|refine JJ a5 3 JD ?_|refine JK a5 0 JD ?_|refine JK a5 1 JD ?_|refine JK a5 2 JD ?_|refine JL a5 1 JB (by assumption) rfl ?_|refine JL a5 0 JB (by assumption) rfl ?_|fail)|(apply aM;first|refine JH a5 0 JE ?_|refine JH a5 1 JE ?_|refine JH a5 2 JE ?_|refine JH a5 3 JE ?_|fail))
   exact bk (bE 2 (cs':=bB ⟨w.1.1,[p1.1],w.1.2,st.1,[],0⟩) rfl fun σ vs h=>mF.vrs (a:=[.imm 1 (b6 w.1.1),.vec (some (kb,1)) 1 (b6 [p1.1]),.imm 1 (b6 w.1.2),.vec q 1 (aW st.1),.vec none 2 [],aF 0]) (b:=bB ⟨w.1.1,[p1.1],w.1.2,st.1,[],0⟩) ⟨cY.refl _,cY.im,cY.refl _,cY.im,cY.im,cY.refl _,trivial⟩ h) (iY a5 2 [dT b s F st.2] rfl rfl rfl rfl rfl (List.Sublist.cons_cons _ (List.nil_sublist _)) ⟨rfl,rfl⟩)
 by_cases h2:kind=2
 ·subst h2
  repeat' (first|refine JU ?_|refine am ?_|refine JG a5 JA ?_|refine bD rfl ?_|refine bC rfl ?_)
  refine cD ?_
  have hc:=cq s hs w.2.a (n:=4) (by omega)
  have hc:0≤(dr s 4 w.2).1∧(dr s 4 w.2).1 < 4:=hc
  generalize e4:dr s 4 w.2=y at hc ⊢
  obtain ⟨k,hkk⟩:∃k:Nat,y.1=k:=⟨y.1.toNat,by omega⟩
  have hv:gC s n 2 calls m=(⟨w.1.1,[p1.1],w.1.2,(ga s n k y.2).1,[],0⟩,(ga s n k y.2).2):=by simp [gC,c9,ret,e1,e3,e4,hkk]
  rw [hv,hkk]
  repeat' (first|refine JU ?_|refine am ?_|refine JG a5 JA ?_)
  refine aP [0,6,7,8,10] (α:=Nat×Option (Nat×Nat)) (fun x=>[(11,aF x.1)]) (fun x=>x.1≤k) (fun x=>[dT b s F (ga s n x.1 y.2).2,(rb,.box [.imm 1 (b6 w.1.1),.vec (some (kb,1)) 1 (b6 [p1.1]),.imm 1 (b6 w.1.2),.vec x.2 1 (aW (ga s n x.1 y.2).1),.vec none 2 [],aF 0] 79),(tb,.box [bT,bT,bT,bT,bT,aF 0] 79)]++(tok x.2 3 1 (aW (ga s n x.1 y.2).1).length++(tok (some (kb,1)) 22 1 1++[]))) (fun x=>k - x.1) (0,none) rfl ⟨rfl,trivial⟩ (Nat.zero_le _) (fun _ _ h=>h) ?_
  rintro ⟨i,q⟩ hi
  dsimp only at hi ⊢
  have hol:=vg s hs n y.2 i
  have hstep:ga s n (i+1) y.2=((ga s n i y.2).1++[(dr s n (ga s n i y.2).2).1],(dr s n (ga s n i y.2).2).2):=rfl
  try dsimp only [Jt,Js,Jr,Kz]
  repeat' (first|refine JU ?_|refine JG a5 JA ?_)
  refine ar rfl (fun h=>?_) (fun h=>?_)
  ·have hil:i < k:=by have:=Jz h;omega
   generalize ga s n i y.2=st at hol hstep ⊢
   have hoil:(aW st.1).length=st.1.length:=aZ _
   repeat' (first|refine JU ?_|refine am ?_)
   refine di [.cell (rb,3,.vec q 1 (aW st.1))] 6 [(0,.v),(1,.k),(2,.v),(3,.v),(4,.f),(5,.v)] none ?_ trivial rfl (by kernel_rfl) (by kernel_rfl) (by kernel_rfl) bQ (by kernel_rfl) rfl
   repeat' (first|refine aD ?_|refine b8 a5 ?_|fail)
   refine dJ a5 0 rfl rfl rfl (bP 1 rfl rfl c5) (by first | trivial | rfl) ?_
   repeat' (first|refine aD ?_|refine b8 a5 ?_|fail)
   refine eF (bP 1 rfl rfl c5) ?_
   generalize dr s n st.2=o at hstep ⊢
   repeat' (first|refine aD ?_|refine ej a5 ?_|fail)
   refine JQ [0,6,7,8,10,11,115,119] JA ?_
   repeat' (first|fail)
   refine bI a5 _ rfl rfl rfl rfl (eI (A:=[_,_,_])) (by simp [aZ];omega) (by simp [aZ];omega) rfl fun q'=>?_
   refine aJ (aR (eI (A:=[_,_,_])).symm) ?_
   repeat' (first|refine JU ?_|refine JG a5 JA ?_|(apply aS;refine aQ ?_)|(apply aM;first|refine JH a5 0 JE ?_|refine JH a5 1 JE ?_|refine JH a5 2 JE ?_|refine JH a5 3 JE ?_|fail))
   exact aC (i+1,q') rfl ⟨by rw [Jw];rfl,trivial⟩ (by dsimp only;omega) (by dsimp only;omega) (fun _ _ h=>by dsimp only;rw [hstep];simpa [fq,fj,aW] using h)
  have hil:i=k:=by have:=Jy h;omega
  subst hil
  generalize ga s n i y.2=st
  repeat' (first|refine JU ?_|(apply bF;first|refine JJ a5 0 JD ?_|refine JJ a5 1 JD ?_|refine JJ a5 2 JD ?_|refine JJ a5 3 JD ?_|refine JK a5 0 JD ?_|refine JK a5 1 JD ?_|refine JK a5 2 JD ?_|refine JL a5 1 JB (by assumption) rfl ?_|refine JL a5 0 JB (by assumption) rfl ?_|fail)|(apply aM;first|refine JH a5 0 JE ?_|refine JH a5 1 JE ?_|refine JH a5 2 JE ?_|refine JH a5 3 JE ?_|fail))
  exact bk (bE 2 (cs':=bB ⟨w.1.1,[p1.1],w.1.2,st.1,[],0⟩) rfl fun σ vs h=>mF.vrs (a:=[.imm 1 (b6 w.1.1),.vec (some (kb,1)) 1 (b6 [p1.1]),.imm 1 (b6 w.1.2),.vec q 1 (aW st.1),.vec none 2 [],aF 0]) (b:=bB ⟨w.1.1,[p1.1],w.1.2,st.1,[],0⟩) ⟨cY.refl _,cY.im,cY.refl _,cY.im,cY.im,cY.refl _,trivial⟩ h) (iY a5 2 [dT b s F st.2] rfl rfl rfl rfl rfl (List.Sublist.cons_cons _ (List.nil_sublist _)) ⟨rfl,rfl⟩)
 have hrow:=nq s (n:=n) (by omega) w.2
 by_cases h3:kind=3
 ·subst h3
  repeat' (first|refine JU ?_|refine am ?_|refine JG a5 JA ?_|refine bD rfl ?_|refine bC rfl ?_)
  refine di [.cell (rb,1,.vec (some (kb,1)) 1 (b6 [p1.1]))] 4 [(0,.v),(1,.k),(2,.v),(3,.f)] none ?_ trivial rfl (by kernel_rfl) (by kernel_rfl) (by kernel_rfl) bQ (by kernel_rfl) rfl
  repeat' (first|refine aD ?_|refine b8 a5 ?_|fail)
  refine dJ a5 0 rfl rfl rfl (bP 1 rfl rfl c5) (by first | trivial | rfl) ?_
  repeat' (first|refine aD ?_|refine b8 a5 ?_|fail)
  refine rZ (nr s hs F hF n hn h0 2 (by omega)) (bP 1 rfl rfl c5) ?_
  generalize e4:pi s n 2 w.2=y at hrow ⊢
  have hrl:=hrow.1
  unfold D1
  repeat' (first|fail)
  refine JQ [0,6,7,8,125,127] JA ?_
  repeat' (first|fail)
  refine bI a5 _ rfl rfl rfl rfl (eI (A:=[_,_,_])) (by simp [fG s hs];omega) (by simp [fG s hs];omega) rfl fun q'=>?_
  refine aJ (aR (eI (A:=[_,_,_])).symm) ?_
  rw [sI s hs]
  repeat' (first|refine JU ?_|refine JG a5 JA ?_|(apply aM;first|refine JH a5 0 JE ?_|refine JH a5 1 JE ?_|refine JH a5 2 JE ?_|refine JH a5 3 JE ?_|fail))
  refine cD ?_
  generalize e5:dr s n y.2=o
  have hv:gC s n 3 calls m=(⟨w.1.1,p1.1::y.1,w.1.2,[o.1],[],0⟩,o.2):=by simp [gC,c9,ret,e1,e3,e4,e5]
  rw [hv]
  repeat' (first|refine JU ?_|refine JG a5 JA ?_|(apply bF;first|refine JJ a5 0 JD ?_|refine JJ a5 1 JD ?_|refine JJ a5 2 JD ?_|refine JJ a5 3 JD ?_|refine JK a5 0 JD ?_|refine JK a5 1 JD ?_|refine JK a5 2 JD ?_|refine JL a5 1 JB (by assumption) rfl ?_|refine JL a5 0 JB (by assumption) rfl ?_|fail)|(apply aM;first|refine JH a5 0 JE ?_|refine JH a5 1 JE ?_|refine JH a5 2 JE ?_|refine JH a5 3 JE ?_|fail)|refine bN a5 ?_|fail)
  exact bk (bE 2 (cs':=bB ⟨w.1.1,p1.1::y.1,w.1.2,[o.1],[],0⟩) rfl fun σ vs h=>mF.vrs (a:=[.imm 1 (b6 w.1.1),.vec q' 1 (b6 (p1.1::y.1)),.imm 1 (b6 w.1.2),.imm 1 (aW [o.1]),.vec none 2 [],aF 0]) (b:=bB ⟨w.1.1,p1.1::y.1,w.1.2,[o.1],[],0⟩) ⟨cY.refl _,cY.im,cY.refl _,cY.refl _,cY.im,cY.refl _,trivial⟩ h) (iY a5 2 [dT b s F o.2] rfl rfl rfl rfl rfl (List.Sublist.cons_cons _ (List.nil_sublist _)) ⟨rfl,rfl⟩)
 have h4:kind=4:=by omega
 subst h4
 repeat' (first|refine JU ?_|refine am ?_|refine JG a5 JA ?_|refine bC rfl ?_)
 refine di [.cell (rb,1,.vec (some (kb,1)) 1 (b6 [p1.1]))] 4 [(0,.v),(1,.k),(2,.v),(3,.f)] none ?_ trivial rfl (by kernel_rfl) (by kernel_rfl) (by kernel_rfl) bQ (by kernel_rfl) rfl
 repeat' (first|refine aD ?_|refine b8 a5 ?_|fail)
 refine dJ a5 0 rfl rfl rfl (bP 1 rfl rfl c5) (by first | trivial | rfl) ?_
 repeat' (first|refine aD ?_|refine b8 a5 ?_|fail)
 refine rZ (nr s hs F hF n hn h0 2 (by omega)) (bP 1 rfl rfl c5) ?_
 generalize e4:pi s n 2 w.2=y at hrow ⊢
 have hrl:=hrow.1
 unfold D1
 repeat' (first|fail)
 refine JQ [0,2,6,7,50,52] JA ?_
 repeat' (first|fail)
 refine bI a5 _ rfl rfl rfl rfl (eI (A:=[_,_,_])) (by simp [fG s hs];omega) (by simp [fG s hs];omega) rfl fun q1=>?_
 refine aJ (aR (eI (A:=[_,_,_])).symm) ?_
 rw [sI s hs]
 repeat' (first|refine JU ?_|refine JG a5 JA ?_|(apply aM;first|refine JH a5 0 JE ?_|refine JH a5 1 JE ?_|refine JH a5 2 JE ?_|refine JH a5 3 JE ?_|fail))
 refine cD ?_
 have hc:=cq s hs y.2.a (n:=3) (by omega)
 have hc:0≤(dr s 3 y.2).1∧(dr s 3 y.2).1 < 3:=hc
 generalize e5:dr s 3 y.2=o at hc ⊢
 obtain ⟨k,hkk⟩:∃k:Nat,o.1=k:=⟨o.1.toNat,by omega⟩
 have hv:gC s n 4 calls m=(⟨w.1.1,p1.1::y.1,w.1.2,[],(f8 s (p1.1::y.1).length calls (if calls.length=0 then 0 else k) o.2).1,0⟩,(f8 s (p1.1::y.1).length calls (if calls.length=0 then 0 else k) o.2).2):=by simp [gC,c9,ret,e1,e3,e4,e5,hkk]
 rw [hv,hkk]
 have hrw:(b6 (p1.1::y.1)).length=(p1.1::y.1).length:=fG s hs _
 have hrw2:(p1.1::y.1).length=y.1.length+1:=rfl
 have hcal:(aW calls).length=calls.length:=aZ _
 repeat' (first|refine JU ?_|refine am ?_|refine JG a5 JA ?_)
 have hcon:∀i,(f8 s (p1.1::y.1).length calls i o.2).1.length=i:=fun i=>wf s hs _ calls o.2 i
 generalize hKK:(if calls.length=0 then 0 else k)=KK
 have hK:∀i:Nat,i < KK↔i < k∧0 < calls.length:=fun i=>by rw [←hKK];split <;> omega
 refine aP [0,2,6,7,12] (α:=Nat×Option (Nat×Nat)) (fun x=>[(13,aF x.1)]) (fun x=>x.1≤KK) (fun x=>[dT b s F (f8 s (p1.1::y.1).length calls x.1 o.2).2,(rb,.box [.imm 1 (b6 w.1.1),.vec q1 1 (b6 (p1.1::y.1)),.imm 1 (b6 w.1.2),.vec none 1 [],.vec x.2 2 ((f8 s (p1.1::y.1).length calls x.1 o.2).1.map eM),aF 0] 79),(tb,.box [bT,bT,bT,bT,bT,aF 0] 79)]++(tok x.2 81 2 ((f8 s (p1.1::y.1).length calls x.1 o.2).1.map eM).length++(tok q1 22 1 (b6 (p1.1::y.1)).length++[]))) (fun x=>KK - x.1) (0,none) rfl ⟨rfl,trivial⟩ (Nat.zero_le _) (fun _ _ h=>h) ?_
 rintro ⟨i,q⟩ hi
 dsimp only at hi ⊢
 have hol:=hcon i
 have hstep:f8 s (p1.1::y.1).length calls (i+1) o.2=(c9 (dr s (p1.1::y.1).length) fun a=>c9 (dr s calls.length) fun z=>ret ((f8 s (p1.1::y.1).length calls i o.2).1++[(⟨a,calls.getD z.toNat 0⟩:gQ)])) (f8 s (p1.1::y.1).length calls i o.2).2:=rfl
 try dsimp only [Jt,Js,Jr,Kz]
 repeat' (first|refine JU ?_|refine JG a5 JA ?_)
 by_cases hik:i < KK
 ·have hik2:=(hK i).1 hik
  rw [decide_eq_true (show ((i:Nat):Int) < (k:Int) by omega)]
  repeat' (first|refine JU ?_|refine JG a5 JA ?_|refine JO JA ?_)
  rw [decide_eq_true (show (0:Int) < (((aW calls).length:Nat):Int) by omega)]
  generalize f8 s (p1.1::y.1).length calls i o.2=st at hol hstep ⊢
  have hoil:(st.1.map eM).length=st.1.length:=Jv ..
  repeat' (first|refine JU ?_|refine am ?_|refine bD rfl ?_)
  refine di [.cell (rb,4,.vec q 2 (st.1.map eM))] 16 [(0,.v),(1,.k),(2,.v),(3,.v),(4,.l),(5,.v),(7,.v),(8,.v),(9,.v),(10,.v),(6,.f),(11,.f),(12,.v),(13,.v),(14,.v),(15,.v)] none ?_ trivial rfl (by kernel_rfl) (by kernel_rfl) (by kernel_rfl) bQ (by kernel_rfl) rfl
  repeat' (first|refine aD ?_|refine b8 a5 ?_|fail)
  refine dJ a5 0 rfl rfl rfl (bP 1 rfl rfl c5) (by first | trivial | rfl) ?_
  repeat' (first|refine aD ?_|refine b8 a5 ?_|refine ce a5 1 rfl rfl rfl rfl (by first|trivial|rfl) ?_)
  rw [hrw]
  refine eF (bP 1 rfl rfl c5) ?_
  unfold c9 at hstep
  generalize dr s (p1.1::y.1).length st.2=g1 at hstep ⊢
  dsimp only at hstep
  repeat' (first|refine aD ?_|fail)
  rw [hcal]
  refine eF (bP 1 rfl rfl c5) ?_
  have hg:=cq s hs g1.2.a (n:=calls.length) (by omega)
  have hg:0≤(dr s calls.length g1.2).1∧(dr s calls.length g1.2).1 < calls.length:=hg
  generalize dr s calls.length g1.2=g2 at hg hstep ⊢
  have hgl:(aW calls)[g2.1.toNat]?=some [aF (calls.getD g2.1.toNat 0)]:=bO (by rw [List.getD_eq_getElem?_getD,Hb (show g2.1.toNat < calls.length by omega)];rfl)
  dsimp only [ret] at hstep
  repeat' (first|refine aD ?_|refine b8 a5 ?_|(apply bW;refine ci a5 ?_)|refine ej a5 ?_|fail)
  refine JQ [0,2,6,7,12,13,68,82] JA ?_
  repeat' (first|fail)
  refine bI a5 _ rfl rfl rfl rfl (eI (A:=[_,_,_])) (by simp;omega) (by simp;omega) rfl fun q'=>?_
  refine aJ (aR (eI (A:=[_,_,_])).symm) ?_
  repeat' (first|refine JU ?_|refine JG a5 JA ?_|(apply aS;refine aQ ?_)|(apply aM;first|refine JH a5 0 JE ?_|refine JH a5 1 JE ?_|refine JH a5 2 JE ?_|refine JH a5 3 JE ?_|fail))
  exact aC (i+1,q') rfl ⟨by rw [Jw];rfl,trivial⟩ (by dsimp only;omega) (by dsimp only;omega) (fun _ _ h=>by dsimp only;rw [hstep];simpa [fq,fj,eM] using h)
 have hiK:i=KK:=by omega
 subst hiK
 generalize f8 s (p1.1::y.1).length calls i o.2=st
 have hno:¬(i < k∧0 < calls.length):=fun h=>absurd ((hK i).2 h) (by omega)
 by_cases hik2:i < k
 ·rw [decide_eq_true (show ((i:Nat):Int) < (k:Int) by omega)]
  repeat' (first|refine JU ?_|refine JG a5 JA ?_|refine JO JA ?_)
  rw [decide_eq_false (show ¬(0:Int) < (((aW calls).length:Nat):Int) by omega)]
  repeat' (first|refine JU ?_|(apply bF;first|refine JJ a5 0 JD ?_|refine JJ a5 1 JD ?_|refine JJ a5 2 JD ?_|refine JJ a5 3 JD ?_|refine JK a5 0 JD ?_|refine JK a5 1 JD ?_|refine JK a5 2 JD ?_|refine JL a5 1 JB (by assumption) rfl ?_|refine JL a5 0 JB (by assumption) rfl ?_|fail)|(apply aM;first|refine JH a5 0 JE ?_|refine JH a5 1 JE ?_|refine JH a5 2 JE ?_|refine JH a5 3 JE ?_|fail)|refine bC rfl ?_)
  exact bk (bE 2 (cs':=bB ⟨w.1.1,p1.1::y.1,w.1.2,[],st.1,0⟩) rfl fun σ vs h=>mF.vrs (a:=[.imm 1 (b6 w.1.1),.vec q1 1 (b6 (p1.1::y.1)),.imm 1 (b6 w.1.2),.vec none 1 [],.vec q 2 (st.1.map eM),aF 0]) (b:=bB ⟨w.1.1,p1.1::y.1,w.1.2,[],st.1,0⟩) ⟨cY.refl _,cY.im,cY.refl _,cY.im,cY.im,cY.refl _,trivial⟩ h) (iY a5 2 [dT b s F st.2] rfl rfl rfl rfl rfl (List.Sublist.cons_cons _ (List.nil_sublist _)) ⟨rfl,rfl⟩)
 ·rw [decide_eq_false (show ¬((i:Nat):Int) < (k:Int) by omega)]
  repeat' (first|refine JU ?_|refine JG a5 JA ?_|refine JP JC ?_|(apply bF;first|refine JJ a5 0 JD ?_|refine JJ a5 1 JD ?_|refine JJ a5 2 JD ?_|refine JJ a5 3 JD ?_|refine JK a5 0 JD ?_|refine JK a5 1 JD ?_|refine JK a5 2 JD ?_|refine JL a5 1 JB (by assumption) rfl ?_|refine JL a5 0 JB (by assumption) rfl ?_|fail)|(apply aM;first|refine JH a5 0 JE ?_|refine JH a5 1 JE ?_|refine JH a5 2 JE ?_|refine JH a5 3 JE ?_|fail)|refine bC rfl ?_)
  exact bk (bE 2 (cs':=bB ⟨w.1.1,p1.1::y.1,w.1.2,[],st.1,0⟩) rfl fun σ vs h=>mF.vrs (a:=[.imm 1 (b6 w.1.1),.vec q1 1 (b6 (p1.1::y.1)),.imm 1 (b6 w.1.2),.vec none 1 [],.vec q 2 (st.1.map eM),aF 0]) (b:=bB ⟨w.1.1,p1.1::y.1,w.1.2,[],st.1,0⟩) ⟨cY.refl _,cY.im,cY.refl _,cY.im,cY.im,cY.refl _,trivial⟩ h) (iY a5 2 [dT b s F st.2] rfl rfl rfl rfl rfl (List.Sublist.cons_cons _ (List.nil_sublist _)) ⟨rfl,rfl⟩)
end Go.Proofs.YtpmdfoaadejmkaaGreatDoor
namespace Go.Proofs.YtpmdfoaadejmkaaGreatDoor
open Go.RowKit
attribute [local irreducible] AT bK AX AO Av Kt bh dw DA cK
def fx (i j:Nat) (l:aO):List AV:=[aF l.Kind,dY l.Ignore,if j < i then .imm 6 (l.Rules.map bB) else bT]
def eG (i:Nat):Nat→List aO→List AV
 | _,[]=>[]
 | k,l::r=>fx i k l++eG i (k+1) r
theorem Cm (i:Nat):∀(l:List aO) (k:Nat),(eG i k l).length=l.length * 3
 | [],k=>rfl
 | x::l,k=>by
  rw [eG,List.length_append,Cm i l (k+1),List.length_cons,Nat.add_mul]
  simp [fx]
  omega
theorem tj (i:Nat):∀(l:List aO) (k j c:Nat),c < 3→(eG i k l)[j * 3+c]?=(l[j]?).bind fun x=>(fx i (k+j) x)[c]?
 | [],k,j,c,_=>by simp [eG]
 | x::l,k,0,c,hc=>by
  rw [eG,List.getElem?_append_left (by simp [fx];omega)]
  simp
 | x::l,k,j+1,c,hc=>by
  rw [eG,List.getElem?_append_right (by simp [fx];omega)]
  have h1:(j+1) * 3+c - (fx i k x).length=j * 3+c:=by simp [fx];omega
  rw [h1,tj i l (k+1) j c hc,List.getElem?_cons_succ]
  rw [show k+1+j=k+(j+1) by omega]
theorem y8 (i:Nat):∀(l:List aO) (k:Nat) (x:aO),eG i k (l++[x])=eG i k l++fx i (k+l.length) x
 | [],k,x=>by simp [eG]
 | y::l,k,x=>by
  rw [Jt,eG,y8 i l (k+1) x,eG,List.append_assoc,List.length_cons,show k+1+l.length=k+(l.length+1) by omega]
theorem Co {i:Nat} {l:List aO} {q:aO} {rs:List bc} (hq:l[i]?=some q):(eG i 0 l).set (i * 3+2) (.imm 6 (rs.map bB))=eG (i+1) 0 (l.set i { q with Rules:=rs }):=by
 have hil:=(Jq hq).1
 apply List.ext_getElem?
 intro p
 obtain ⟨j,c,hc,rfl⟩:∃j c,c < 3∧p=j * 3+c:=⟨p / 3,p % 3,Nat.mod_lt _ (by omega),by omega⟩
 rw [tj _ _ _ _ _ hc]
 by_cases e:i * 3+2=j * 3+c
 ·have hj:j=i:=by omega
  have hc2:c=2:=by omega
  subst hj;subst hc2
  rw [List.getElem?_set_self (by rw [Cm];omega),List.getElem?_set_self hil]
  simp [fx]
 ·rw [List.getElem?_set_ne e,tj _ _ _ _ _ hc]
  by_cases hj:i=j
  ·subst hj
   rw [hq,List.getElem?_set_self hil]
   have hc2:c=0∨c=1:=by omega
   rcases hc2 with rfl | rfl <;> rfl
  ·rw [List.getElem?_set_ne hj]
   cases l[j]? with
   | none=>rfl
   | some x=>
    simp only [Option.bind_some,Nat.zero_add]
    have hc3:c=0∨c=1∨c=2:=by omega
    rcases hc3 with rfl | rfl | rfl
    ·rfl
    ·rfl
    ·simp only [fx]
     by_cases hlt:j < i
     ·rw [if_pos hlt,if_pos (by omega)]
     ·rw [if_neg hlt,if_neg (by omega)]
theorem EK {i:Nat} {l:List aO} {q:aO} (hq:l[i]?=some q) (h0:q.Rules=[]):(eG i 0 l).set (i * 3+2) (.imm 6 [])=eG (i+1) 0 l:=by
 have:=Co (rs:=[]) hq
 rw [show l.set i { q with Rules:=[] }=l from ?_] at this
 ·exact this
 ·have:({ q with Rules:=[] }:aO)=q:=by cases q;simp at h0;simp [h0]
  rw [this]
  apply List.ext_getElem?
  intro j
  by_cases e:i=j
  ·subst e;rw [List.getElem?_set_self (Jq hq).1,hq]
  ·rw [List.getElem?_set_ne e]
theorem Cl:∀(l:List aO) (i k:Nat),k+l.length≤i→eG i k l=(l.map bi).flatten
 | [],i,k,_=>rfl
 | x::l,i,k,h=>by
  simp only [List.length_cons] at h
  rw [eG,Cl l i (k+1) (by omega),Jr,List.flatten_cons]
  congr 1
  simp only [fx]
  rw [if_pos (by omega)]
  rfl
def zF (i:Nat):Option (Nat×List AV×Nat)→AV
 | none=>bT
 | some (b,_,cap)=> .sc (.slice (some ⟨b,0,none⟩) i cap)
def Ci:Option (Nat×List AV×Nat)→AL
 | none=>[]
 | some (b,cs,_)=>[(b,.box cs 59)]
def y7 (n i:Nat) (l:List aO):Option (Nat×List AV×Nat)→Prop
 | none=>n=0
 | some (_,cs,cap)=>cs.length=cap * 3∧n≤cap∧cap≤maxLen∧cs.take (n * 3)=eG i 0 l
end Go.Proofs.YtpmdfoaadejmkaaGreatDoor
