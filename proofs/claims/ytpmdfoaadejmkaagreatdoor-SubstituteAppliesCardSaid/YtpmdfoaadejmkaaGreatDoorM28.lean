/-
  The maker: rules.
-/
import Derived.Test.YtpmdfoaadejmkaaGreatDoorM27
import Derived.Test.YtpmdfoaadejmkaaGreatDoorM12
namespace Go.Proofs.YtpmdfoaadejmkaaGreatDoor
open Go.RowKit
attribute [local irreducible] AT bI AX AO Av Kt bi dx DA cK
variable (s:List Int) (hs:s.length≤1000000) (F:MF)
include hs
def FP (r:bc):AV:= .agg (bB r)
def Jh (rb:Nat) (b0 b1 b2 b3 b4:AV) (x:Int):Nat×AB:=(rb,.box [b0,b1,b2,b3,b4,aF x] 79)
theorem sK (a:List Int) (l:List (List Int)):b9 [a]++b9 l=b9 (a::l):=by
 have _:=hs
 clear hs
 rfl
theorem vh (n:Int) (m:MS) (k:Nat):(g9 s n k m).1.length=k:=by
 have _:=hs
 clear hs
 induction k with
 | zero=>rfl
 | succ k ih=>
  have:g9 s n (k+1) m=((g9 s n k m).1++[(dr s n (g9 s n k m).2).1],(dr s n (g9 s n k m).2).2):=rfl
  rw [this]
  simp [ih]
theorem wf (nn:Int) (calls:List Int) (m:MS) (k:Nat):(f7 s nn calls k m).1.length=k:=by
 have _:=hs
 clear hs
 induction k with
 | zero=>rfl
 | succ i ih=>
  have:f7 s nn calls (i+1) m=(c8 (dr s nn) fun a=>c8 (dr s calls.length) fun z=>ret ((f7 s nn calls i m).1++[(⟨a,calls.getD z.toNat 0⟩:gR)])) (f7 s nn calls i m).2:=rfl
  rw [this]
  simp [c8,ret,ih]
set_option maxHeartbeats 16000000 in
theorem A7 {kg:Option (Nat×Nat)} {gl:List (List AV)} (hF:F.gl= .vec kg 9 gl) (n:Nat) (hn:gl.length=n) (h0:0 < n∧n≤1000) (kind:Int) (hk:1≤kind∧kind≤6) (calls:List Int) (hcl:calls.length≤1000):rA 176 [aF kind,.imm 1 (aX calls)] s F (gB s n kind calls) FP:=by
 intro b m
 refine aM Tryz.func176 rfl Tryz.ntmps176 rfl fun B=>?_
 repeat' (first|refine Ji ?_|refine JF a5 H6 ?_|(apply bE;first|refine JI a5 0 JC ?_|refine JI a5 1 JC ?_|refine JI a5 2 JC ?_|refine JI a5 3 JC ?_|refine JJ a5 0 JC ?_|refine JJ a5 1 JC ?_|refine JJ a5 2 JC ?_|refine JK a5 1 JA (by assumption) rfl ?_|refine JK a5 0 JA (by assumption) rfl ?_|fail)|refine bj a5 fun _=>?_|fail)
 rw [hF]
 repeat' (first|refine Ji ?_|refine JF a5 H6 ?_)
 rw [hn]
 rename_i tb rb
 refine aI (aQ (L':=[dR b s F m,(rb,.box [bS,bS,bS,bS,bS,aF 0] 79),(tb,.box [bS,bS,bS,bS,bS,aF 0] 79)]) (List.perm_append_comm (l₁:=[_,_]))) ?_
 refine v9 (rj s hs F hF n hn h0) ?_
 have ha:=pG s (n:=n) (by omega) m
 generalize e1:ny s n m=p1 at ha ⊢
 have haf:=ha.few
 unfold EW
 repeat' (first|refine Ji ?_|refine JF a5 H6 ?_|(apply aK;first|refine JG a5 0 JD ?_|refine JG a5 1 JD ?_|refine JG a5 2 JD ?_|refine JG a5 3 JD ?_|fail)|refine lj (d:=22) a5 fun _=>?_|fail)
 rename_i kb
 refine c5 (aQ (L':=[dR b s F p1.2,(rb,.box [bS,.vec (some (kb,1)) 1 (b9 [p1.1]),bS,bS,bS,aF 0] 79),(tb,.box [bS,bS,bS,bS,bS,aF 0] 79)]++(tok (some (kb,1)) 22 1 1++[])) (List.perm_append_comm (l₁:=[_]))) ?_
 repeat' (first|fail)
 refine ar rfl (fun h6=>?_) (fun h6=>?_)
 ·have h6:=Jy h6
  subst h6
  repeat' (first|refine Ji ?_|fail)
  refine dk [.cell (rb,1,.vec (some (kb,1)) 1 (b9 [p1.1]))] 5 [(0,.v),(1,.k),(2,.v),(3,.f),(4,.v)] none ?_ trivial rfl (by kernel_rfl) (by kernel_rfl) (by kernel_rfl) bR (by kernel_rfl) rfl
  repeat' (first|refine aD ?_|refine b7 a5 ?_|fail)
  refine dI a5 0 rfl rfl rfl (bN 1 rfl rfl bY) (by first | trivial | rfl) ?_
  repeat' (first|refine aD ?_|refine b7 a5 ?_|fail)
  refine s4 (rj s hs F hF n hn h0) (bN 1 rfl rfl bY) ?_
  generalize e2:ny s n p1.2=p2
  unfold EW
  repeat' (first|refine aD ?_|refine ej a5 ?_|fail)
  refine JQ [0,6,7,27,30] H6 ?_
  repeat' (first|fail)
  refine bK a5 _ rfl rfl rfl rfl (eI (A:=[_,_,_])) (by simp [fF s hs]) (by simp [fF s hs]) rfl fun q'=>?_
  refine aI (aQ (eI (A:=[_,_,_])).symm) ?_
  repeat' (first|refine Ji ?_|refine JF a5 H6 ?_|(apply aK;first|refine JG a5 0 JD ?_|refine JG a5 1 JD ?_|refine JG a5 2 JD ?_|refine JG a5 3 JD ?_|fail))
  refine cC ?_
  have hx:=co s hs p2.2.a (n:=41) (by omega)
  have hx:0≤(dr s 41 p2.2).1∧(dr s 41 p2.2).1 < 41:=hx
  generalize e3:dr s 41 p2.2=p3 at hx ⊢
  repeat' (first|refine Ji ?_|refine JF a5 H6 ?_|(apply bE;first|refine JI a5 0 JC ?_|refine JI a5 1 JC ?_|refine JI a5 2 JC ?_|refine JI a5 3 JC ?_|refine JJ a5 0 JC ?_|refine JJ a5 1 JC ?_|refine JJ a5 2 JC ?_|refine JK a5 1 JA (by assumption) rfl ?_|refine JK a5 0 JA (by assumption) rfl ?_|fail)|(apply aS;refine aR ?_)|(apply aK;first|refine JG a5 0 JD ?_|refine JG a5 1 JD ?_|refine JG a5 2 JD ?_|refine JG a5 3 JD ?_|fail))
  have hv:gB s n 6 calls m=(⟨[],[p1.1,p2.1],[],[],[],p3.1 * 10 - 200⟩,p3.2):=by simp [gB,FN,c8,ret,e1,e2,e3]
  rw [hv]
  refine bk (bD 2 (cs':=bB ⟨[],[p1.1,p2.1],[],[],[],p3.1 * 10 - 200⟩) rfl fun σ vs h=>mH.vrs (a:=[bS,.vec q' 1 (b9 [p1.1,p2.1]),bS,bS,bS,aF (p3.1 * 10 - 200)]) (b:=bB ⟨[],[p1.1,p2.1],[],[],[],p3.1 * 10 - 200⟩) ⟨cU.nil 1,cU.im,cU.nil 1,cU.nil 1,cU.nil 2,cU.refl _,trivial⟩ h) (j4 a5 2 [dR b s F p3.2] rfl rfl rfl rfl rfl (List.Sublist.cons_cons _ (List.nil_sublist _)) ⟨rfl,rfl⟩)
 have h6:=Jx h6
 refine c5 (bD 1 (cs':=[.imm 1 [],.vec (some (kb,1)) 1 (b9 [p1.1]),.imm 1 [],.vec none 1 [],.vec none 2 [],aF 0]) rfl fun σ vs h=>mH.vrs (a:=[bS,.vec (some (kb,1)) 1 (b9 [p1.1]),bS,bS,bS,aF 0]) (b:=[.imm 1 [],.vec (some (kb,1)) 1 (b9 [p1.1]),.imm 1 [],.vec none 1 [],.vec none 2 [],aF 0]) ⟨cU.nil 1,cU.refl _,cU.nil 1,cU.vecN 1,cU.vecN 2,cU.refl _,trivial⟩ h) ?_
 repeat' (first|refine Ji ?_|refine JF a5 H6 ?_)
 refine cC ?_
 generalize e2:dr s 2 p1.2=z
 repeat' (first|refine Ji ?_|refine JF a5 H6 ?_)
 refine t5 [0,1,2,6,7,8] ([dR b s F (jl s n p1.2).2,(rb,.box [.imm 1 (b9 (jl s n p1.2).1.1),.vec (some (kb,1)) 1 (b9 [p1.1]),.imm 1 (b9 (jl s n p1.2).1.2),.vec none 1 [],.vec none 2 [],aF 0] 79),(tb,.box [bS,bS,bS,bS,bS,aF 0] 79)]++(tok (some (kb,1)) 22 1 1++[])) rfl (fun Q' K=>?_) ?_
 ·refine ar rfl (fun hz=>?_) (fun hz=>?_)
  ·have hz:=Jy hz
   repeat' (first|refine Ji ?_|refine JF a5 H6 ?_)
   refine v9 (nv s hs F hF n hn h0 2 (by omega)) ?_
   generalize e3:pk s n 2 z.2=y1
   unfold CW
   repeat' (first|refine Ji ?_|refine JF a5 H6 ?_|(apply aK;first|refine JG a5 0 JD ?_|refine JG a5 1 JD ?_|refine JG a5 2 JD ?_|refine JG a5 3 JD ?_|fail))
   refine v9 (nv s hs F hF n hn h0 2 (by omega)) ?_
   generalize e4:pk s n 2 y1.2=y2
   unfold CW
   repeat' (first|refine Ji ?_|refine JF a5 H6 ?_|(apply aK;first|refine JG a5 0 JD ?_|refine JG a5 1 JD ?_|refine JG a5 2 JD ?_|refine JG a5 3 JD ?_|fail))
   have hv:jl s n p1.2=((y1.1,y2.1),y2.2):=by simp [jl,c8,ret,e2,e3,e4,hz]
   rw [hv] at K
   exact K _ rfl
  ·have hz:=Jx hz
   repeat' (first|refine Ji ?_|fail)
   have hv:jl s n p1.2=(([],[]),z.2):=by simp [jl,c8,ret,e2,hz]
   rw [hv] at K
   exact K _ rfl
 generalize e3:jl s n p1.2=w
 have ha0:(b9 [p1.1])[0]?=some [.imm 1 (aX p1.1)]:=rfl
 have hial:(aX p1.1).length=p1.1.length:=aZ _
 by_cases h15:kind=1∨kind=5
 ·have hv:gB s n kind calls m=(⟨w.1.1,[p1.1],w.1.2,(g9 s n p1.1.length w.2).1,[],0⟩,(g9 s n p1.1.length w.2).2):=by simp [gB,c8,ret,e1,e3,h6,h15]
  rw [hv]
  rcases h15 with rfl | rfl
  all_goals
   repeat' (first|refine Ji ?_|refine am ?_|refine JF a5 H6 ?_|refine bC rfl ?_|refine bA rfl ?_)
   refine aP [0,6,7,8] (α:=Nat×Option (Nat×Nat)) (fun x=>[(9,aF x.1)]) (fun x=>x.1≤p1.1.length) (fun x=>[dR b s F (g9 s n x.1 w.2).2,(rb,.box [.imm 1 (b9 w.1.1),.vec (some (kb,1)) 1 (b9 [p1.1]),.imm 1 (b9 w.1.2),.vec x.2 1 (aX (g9 s n x.1 w.2).1),.vec none 2 [],aF 0] 79),(tb,.box [bS,bS,bS,bS,bS,aF 0] 79)]++(tok x.2 3 1 (aX (g9 s n x.1 w.2).1).length++(tok (some (kb,1)) 22 1 1++[]))) (fun x=>p1.1.length - x.1) (0,none) rfl ⟨rfl,trivial⟩ (Nat.zero_le _) (fun _ _ h=>h) ?_
   rintro ⟨i,q⟩ hi
   dsimp only at hi ⊢
   have hol:=vh s hs n w.2 i
   have hstep:g9 s n (i+1) w.2=((g9 s n i w.2).1++[(dr s n (g9 s n i w.2).2).1],(dr s n (g9 s n i w.2).2).2):=rfl
   try dsimp only [Js,Jr,Jq,Jl]
   repeat' (first|refine Ji ?_|refine JF a5 H6 ?_|(apply bE;first|refine JI a5 0 JC ?_|refine JI a5 1 JC ?_|refine JI a5 2 JC ?_|refine JI a5 3 JC ?_|refine JJ a5 0 JC ?_|refine JJ a5 1 JC ?_|refine JJ a5 2 JC ?_|refine JK a5 1 JA (by assumption) rfl ?_|refine JK a5 0 JA (by assumption) rfl ?_|fail)|(apply aO;first|refine aN a5 ?_|refine aG a5 ?_)|fail)
   refine ar rfl (fun h=>?_) (fun h=>?_)
   ·have hil:i < p1.1.length:=by have:=Jy h;omega
    generalize g9 s n i w.2=st at hol hstep ⊢
    have hoil:(aX st.1).length=st.1.length:=aZ _
    repeat' (first|refine Ji ?_|refine am ?_)
    refine dk [.cell (rb,3,.vec q 1 (aX st.1))] 6 [(0,.v),(1,.k),(2,.v),(3,.v),(4,.f),(5,.v)] none ?_ trivial rfl (by kernel_rfl) (by kernel_rfl) (by kernel_rfl) bR (by kernel_rfl) rfl
    repeat' (first|refine aD ?_|refine b7 a5 ?_|fail)
    refine dI a5 0 rfl rfl rfl (bN 1 rfl rfl bY) (by first | trivial | rfl) ?_
    repeat' (first|refine aD ?_|refine b7 a5 ?_|fail)
    refine eF (bN 1 rfl rfl bY) ?_
    generalize dr s n st.2=o at hstep ⊢
    repeat' (first|refine aD ?_|refine ej a5 ?_|fail)
    refine JQ [0,6,7,8,9,98,102] H6 ?_
    repeat' (first|fail)
    refine bK a5 _ rfl rfl rfl rfl (eI (A:=[_,_,_])) (by simp [aZ];omega) (by simp [aZ];omega) rfl fun q'=>?_
    refine aI (aQ (eI (A:=[_,_,_])).symm) ?_
    repeat' (first|refine Ji ?_|refine JF a5 H6 ?_|(apply aS;refine aR ?_)|(apply aK;first|refine JG a5 0 JD ?_|refine JG a5 1 JD ?_|refine JG a5 2 JD ?_|refine JG a5 3 JD ?_|fail))
    exact aC (i+1,q') rfl ⟨by rw [Jv];rfl,trivial⟩ (by dsimp only;omega) (by dsimp only;omega) (fun _ _ h=>by dsimp only;rw [hstep];simpa [fp,fi,aX] using h)
   have hil:i=p1.1.length:=by have:=Jx h;omega
   subst hil
   generalize g9 s n p1.1.length w.2=st
   repeat' (first|refine Ji ?_|(apply bE;first|refine JI a5 0 JC ?_|refine JI a5 1 JC ?_|refine JI a5 2 JC ?_|refine JI a5 3 JC ?_|refine JJ a5 0 JC ?_|refine JJ a5 1 JC ?_|refine JJ a5 2 JC ?_|refine JK a5 1 JA (by assumption) rfl ?_|refine JK a5 0 JA (by assumption) rfl ?_|fail)|(apply aK;first|refine JG a5 0 JD ?_|refine JG a5 1 JD ?_|refine JG a5 2 JD ?_|refine JG a5 3 JD ?_|fail))
   exact bk (bD 2 (cs':=bB ⟨w.1.1,[p1.1],w.1.2,st.1,[],0⟩) rfl fun σ vs h=>mH.vrs (a:=[.imm 1 (b9 w.1.1),.vec (some (kb,1)) 1 (b9 [p1.1]),.imm 1 (b9 w.1.2),.vec q 1 (aX st.1),.vec none 2 [],aF 0]) (b:=bB ⟨w.1.1,[p1.1],w.1.2,st.1,[],0⟩) ⟨cU.refl _,cU.im,cU.refl _,cU.im,cU.im,cU.refl _,trivial⟩ h) (j4 a5 2 [dR b s F st.2] rfl rfl rfl rfl rfl (List.Sublist.cons_cons _ (List.nil_sublist _)) ⟨rfl,rfl⟩)
 by_cases h2:kind=2
 ·subst h2
  repeat' (first|refine Ji ?_|refine am ?_|refine JF a5 H6 ?_|refine bC rfl ?_|refine bA rfl ?_)
  refine cC ?_
  have hc:=co s hs w.2.a (n:=4) (by omega)
  have hc:0≤(dr s 4 w.2).1∧(dr s 4 w.2).1 < 4:=hc
  generalize e4:dr s 4 w.2=y at hc ⊢
  obtain ⟨k,hkk⟩:∃k:Nat,y.1=k:=⟨y.1.toNat,by omega⟩
  have hv:gB s n 2 calls m=(⟨w.1.1,[p1.1],w.1.2,(g9 s n k y.2).1,[],0⟩,(g9 s n k y.2).2):=by simp [gB,c8,ret,e1,e3,e4,hkk]
  rw [hv,hkk]
  repeat' (first|refine Ji ?_|refine am ?_|refine JF a5 H6 ?_)
  refine aP [0,6,7,8,10] (α:=Nat×Option (Nat×Nat)) (fun x=>[(11,aF x.1)]) (fun x=>x.1≤k) (fun x=>[dR b s F (g9 s n x.1 y.2).2,(rb,.box [.imm 1 (b9 w.1.1),.vec (some (kb,1)) 1 (b9 [p1.1]),.imm 1 (b9 w.1.2),.vec x.2 1 (aX (g9 s n x.1 y.2).1),.vec none 2 [],aF 0] 79),(tb,.box [bS,bS,bS,bS,bS,aF 0] 79)]++(tok x.2 3 1 (aX (g9 s n x.1 y.2).1).length++(tok (some (kb,1)) 22 1 1++[]))) (fun x=>k - x.1) (0,none) rfl ⟨rfl,trivial⟩ (Nat.zero_le _) (fun _ _ h=>h) ?_
  rintro ⟨i,q⟩ hi
  dsimp only at hi ⊢
  have hol:=vh s hs n y.2 i
  have hstep:g9 s n (i+1) y.2=((g9 s n i y.2).1++[(dr s n (g9 s n i y.2).2).1],(dr s n (g9 s n i y.2).2).2):=rfl
  try dsimp only [Js,Jr,Jq,Jl]
  repeat' (first|refine Ji ?_|refine JF a5 H6 ?_)
  refine ar rfl (fun h=>?_) (fun h=>?_)
  ·have hil:i < k:=by have:=Jy h;omega
   generalize g9 s n i y.2=st at hol hstep ⊢
   have hoil:(aX st.1).length=st.1.length:=aZ _
   repeat' (first|refine Ji ?_|refine am ?_)
   refine dk [.cell (rb,3,.vec q 1 (aX st.1))] 6 [(0,.v),(1,.k),(2,.v),(3,.v),(4,.f),(5,.v)] none ?_ trivial rfl (by kernel_rfl) (by kernel_rfl) (by kernel_rfl) bR (by kernel_rfl) rfl
   repeat' (first|refine aD ?_|refine b7 a5 ?_|fail)
   refine dI a5 0 rfl rfl rfl (bN 1 rfl rfl bY) (by first | trivial | rfl) ?_
   repeat' (first|refine aD ?_|refine b7 a5 ?_|fail)
   refine eF (bN 1 rfl rfl bY) ?_
   generalize dr s n st.2=o at hstep ⊢
   repeat' (first|refine aD ?_|refine ej a5 ?_|fail)
   refine JQ [0,6,7,8,10,11,115,119] H6 ?_
   repeat' (first|fail)
   refine bK a5 _ rfl rfl rfl rfl (eI (A:=[_,_,_])) (by simp [aZ];omega) (by simp [aZ];omega) rfl fun q'=>?_
   refine aI (aQ (eI (A:=[_,_,_])).symm) ?_
   repeat' (first|refine Ji ?_|refine JF a5 H6 ?_|(apply aS;refine aR ?_)|(apply aK;first|refine JG a5 0 JD ?_|refine JG a5 1 JD ?_|refine JG a5 2 JD ?_|refine JG a5 3 JD ?_|fail))
   exact aC (i+1,q') rfl ⟨by rw [Jv];rfl,trivial⟩ (by dsimp only;omega) (by dsimp only;omega) (fun _ _ h=>by dsimp only;rw [hstep];simpa [fp,fi,aX] using h)
  have hil:i=k:=by have:=Jx h;omega
  subst hil
  generalize g9 s n i y.2=st
  repeat' (first|refine Ji ?_|(apply bE;first|refine JI a5 0 JC ?_|refine JI a5 1 JC ?_|refine JI a5 2 JC ?_|refine JI a5 3 JC ?_|refine JJ a5 0 JC ?_|refine JJ a5 1 JC ?_|refine JJ a5 2 JC ?_|refine JK a5 1 JA (by assumption) rfl ?_|refine JK a5 0 JA (by assumption) rfl ?_|fail)|(apply aK;first|refine JG a5 0 JD ?_|refine JG a5 1 JD ?_|refine JG a5 2 JD ?_|refine JG a5 3 JD ?_|fail))
  exact bk (bD 2 (cs':=bB ⟨w.1.1,[p1.1],w.1.2,st.1,[],0⟩) rfl fun σ vs h=>mH.vrs (a:=[.imm 1 (b9 w.1.1),.vec (some (kb,1)) 1 (b9 [p1.1]),.imm 1 (b9 w.1.2),.vec q 1 (aX st.1),.vec none 2 [],aF 0]) (b:=bB ⟨w.1.1,[p1.1],w.1.2,st.1,[],0⟩) ⟨cU.refl _,cU.im,cU.refl _,cU.im,cU.im,cU.refl _,trivial⟩ h) (j4 a5 2 [dR b s F st.2] rfl rfl rfl rfl rfl (List.Sublist.cons_cons _ (List.nil_sublist _)) ⟨rfl,rfl⟩)
 have hrow:=nu s (n:=n) (by omega) w.2
 by_cases h3:kind=3
 ·subst h3
  repeat' (first|refine Ji ?_|refine am ?_|refine JF a5 H6 ?_|refine bC rfl ?_|refine bA rfl ?_)
  refine dk [.cell (rb,1,.vec (some (kb,1)) 1 (b9 [p1.1]))] 4 [(0,.v),(1,.k),(2,.v),(3,.f)] none ?_ trivial rfl (by kernel_rfl) (by kernel_rfl) (by kernel_rfl) bR (by kernel_rfl) rfl
  repeat' (first|refine aD ?_|refine b7 a5 ?_|fail)
  refine dI a5 0 rfl rfl rfl (bN 1 rfl rfl bY) (by first | trivial | rfl) ?_
  repeat' (first|refine aD ?_|refine b7 a5 ?_|fail)
  refine s4 (nv s hs F hF n hn h0 2 (by omega)) (bN 1 rfl rfl bY) ?_
  generalize e4:pk s n 2 w.2=y at hrow ⊢
  have hrl:=hrow.1
  unfold CW
  repeat' (first|fail)
  refine JQ [0,6,7,8,125,127] H6 ?_
  repeat' (first|fail)
  refine bK a5 _ rfl rfl rfl rfl (eI (A:=[_,_,_])) (by simp [fF s hs];omega) (by simp [fF s hs];omega) rfl fun q'=>?_
  refine aI (aQ (eI (A:=[_,_,_])).symm) ?_
  rw [sK s hs]
  repeat' (first|refine Ji ?_|refine JF a5 H6 ?_|(apply aK;first|refine JG a5 0 JD ?_|refine JG a5 1 JD ?_|refine JG a5 2 JD ?_|refine JG a5 3 JD ?_|fail))
  refine cC ?_
  generalize e5:dr s n y.2=o
  have hv:gB s n 3 calls m=(⟨w.1.1,p1.1::y.1,w.1.2,[o.1],[],0⟩,o.2):=by simp [gB,c8,ret,e1,e3,e4,e5]
  rw [hv]
  repeat' (first|refine Ji ?_|refine JF a5 H6 ?_|(apply bE;first|refine JI a5 0 JC ?_|refine JI a5 1 JC ?_|refine JI a5 2 JC ?_|refine JI a5 3 JC ?_|refine JJ a5 0 JC ?_|refine JJ a5 1 JC ?_|refine JJ a5 2 JC ?_|refine JK a5 1 JA (by assumption) rfl ?_|refine JK a5 0 JA (by assumption) rfl ?_|fail)|(apply aK;first|refine JG a5 0 JD ?_|refine JG a5 1 JD ?_|refine JG a5 2 JD ?_|refine JG a5 3 JD ?_|fail)|refine bM a5 ?_|fail)
  exact bk (bD 2 (cs':=bB ⟨w.1.1,p1.1::y.1,w.1.2,[o.1],[],0⟩) rfl fun σ vs h=>mH.vrs (a:=[.imm 1 (b9 w.1.1),.vec q' 1 (b9 (p1.1::y.1)),.imm 1 (b9 w.1.2),.imm 1 (aX [o.1]),.vec none 2 [],aF 0]) (b:=bB ⟨w.1.1,p1.1::y.1,w.1.2,[o.1],[],0⟩) ⟨cU.refl _,cU.im,cU.refl _,cU.refl _,cU.im,cU.refl _,trivial⟩ h) (j4 a5 2 [dR b s F o.2] rfl rfl rfl rfl rfl (List.Sublist.cons_cons _ (List.nil_sublist _)) ⟨rfl,rfl⟩)
 have h4:kind=4:=by omega
 subst h4
 repeat' (first|refine Ji ?_|refine am ?_|refine JF a5 H6 ?_|refine bA rfl ?_)
 refine dk [.cell (rb,1,.vec (some (kb,1)) 1 (b9 [p1.1]))] 4 [(0,.v),(1,.k),(2,.v),(3,.f)] none ?_ trivial rfl (by kernel_rfl) (by kernel_rfl) (by kernel_rfl) bR (by kernel_rfl) rfl
 repeat' (first|refine aD ?_|refine b7 a5 ?_|fail)
 refine dI a5 0 rfl rfl rfl (bN 1 rfl rfl bY) (by first | trivial | rfl) ?_
 repeat' (first|refine aD ?_|refine b7 a5 ?_|fail)
 refine s4 (nv s hs F hF n hn h0 2 (by omega)) (bN 1 rfl rfl bY) ?_
 generalize e4:pk s n 2 w.2=y at hrow ⊢
 have hrl:=hrow.1
 unfold CW
 repeat' (first|fail)
 refine JQ [0,2,6,7,50,52] H6 ?_
 repeat' (first|fail)
 refine bK a5 _ rfl rfl rfl rfl (eI (A:=[_,_,_])) (by simp [fF s hs];omega) (by simp [fF s hs];omega) rfl fun q1=>?_
 refine aI (aQ (eI (A:=[_,_,_])).symm) ?_
 rw [sK s hs]
 repeat' (first|refine Ji ?_|refine JF a5 H6 ?_|(apply aK;first|refine JG a5 0 JD ?_|refine JG a5 1 JD ?_|refine JG a5 2 JD ?_|refine JG a5 3 JD ?_|fail))
 refine cC ?_
 have hc:=co s hs y.2.a (n:=3) (by omega)
 have hc:0≤(dr s 3 y.2).1∧(dr s 3 y.2).1 < 3:=hc
 generalize e5:dr s 3 y.2=o at hc ⊢
 obtain ⟨k,hkk⟩:∃k:Nat,o.1=k:=⟨o.1.toNat,by omega⟩
 have hv:gB s n 4 calls m=(⟨w.1.1,p1.1::y.1,w.1.2,[],(f7 s (p1.1::y.1).length calls (if calls.length=0 then 0 else k) o.2).1,0⟩,(f7 s (p1.1::y.1).length calls (if calls.length=0 then 0 else k) o.2).2):=by simp [gB,c8,ret,e1,e3,e4,e5,hkk]
 rw [hv,hkk]
 have hrw:(b9 (p1.1::y.1)).length=(p1.1::y.1).length:=fF s hs _
 have hrw2:(p1.1::y.1).length=y.1.length+1:=rfl
 have hcal:(aX calls).length=calls.length:=aZ _
 repeat' (first|refine Ji ?_|refine am ?_|refine JF a5 H6 ?_)
 have hcon:∀i,(f7 s (p1.1::y.1).length calls i o.2).1.length=i:=fun i=>wf s hs _ calls o.2 i
 generalize hKK:(if calls.length=0 then 0 else k)=KK
 have hK:∀i:Nat,i < KK↔i < k∧0 < calls.length:=fun i=>by rw [←hKK];split <;> omega
 refine aP [0,2,6,7,12] (α:=Nat×Option (Nat×Nat)) (fun x=>[(13,aF x.1)]) (fun x=>x.1≤KK) (fun x=>[dR b s F (f7 s (p1.1::y.1).length calls x.1 o.2).2,(rb,.box [.imm 1 (b9 w.1.1),.vec q1 1 (b9 (p1.1::y.1)),.imm 1 (b9 w.1.2),.vec none 1 [],.vec x.2 2 ((f7 s (p1.1::y.1).length calls x.1 o.2).1.map eM),aF 0] 79),(tb,.box [bS,bS,bS,bS,bS,aF 0] 79)]++(tok x.2 81 2 ((f7 s (p1.1::y.1).length calls x.1 o.2).1.map eM).length++(tok q1 22 1 (b9 (p1.1::y.1)).length++[]))) (fun x=>KK - x.1) (0,none) rfl ⟨rfl,trivial⟩ (Nat.zero_le _) (fun _ _ h=>h) ?_
 rintro ⟨i,q⟩ hi
 dsimp only at hi ⊢
 have hol:=hcon i
 have hstep:f7 s (p1.1::y.1).length calls (i+1) o.2=(c8 (dr s (p1.1::y.1).length) fun a=>c8 (dr s calls.length) fun z=>ret ((f7 s (p1.1::y.1).length calls i o.2).1++[(⟨a,calls.getD z.toNat 0⟩:gR)])) (f7 s (p1.1::y.1).length calls i o.2).2:=rfl
 try dsimp only [Js,Jr,Jq,Jl]
 repeat' (first|refine Ji ?_|refine JF a5 H6 ?_)
 by_cases hik:i < KK
 ·have hik2:=(hK i).1 hik
  rw [decide_eq_true (show ((i:Nat):Int) < (k:Int) by omega)]
  repeat' (first|refine Ji ?_|refine JF a5 H6 ?_|refine JN H6 ?_)
  rw [decide_eq_true (show (0:Int) < (((aX calls).length:Nat):Int) by omega)]
  generalize f7 s (p1.1::y.1).length calls i o.2=st at hol hstep ⊢
  have hoil:(st.1.map eM).length=st.1.length:=Ju ..
  repeat' (first|refine Ji ?_|refine am ?_|refine bC rfl ?_)
  refine dk [.cell (rb,4,.vec q 2 (st.1.map eM))] 16 [(0,.v),(1,.k),(2,.v),(3,.v),(4,.l),(5,.v),(7,.v),(8,.v),(9,.v),(10,.v),(6,.f),(11,.f),(12,.v),(13,.v),(14,.v),(15,.v)] none ?_ trivial rfl (by kernel_rfl) (by kernel_rfl) (by kernel_rfl) bR (by kernel_rfl) rfl
  repeat' (first|refine aD ?_|refine b7 a5 ?_|fail)
  refine dI a5 0 rfl rfl rfl (bN 1 rfl rfl bY) (by first | trivial | rfl) ?_
  repeat' (first|refine aD ?_|refine b7 a5 ?_|refine ca a5 1 rfl rfl rfl rfl (by first|trivial|rfl) ?_)
  rw [hrw]
  refine eF (bN 1 rfl rfl bY) ?_
  unfold c8 at hstep
  generalize dr s (p1.1::y.1).length st.2=g1 at hstep ⊢
  dsimp only at hstep
  repeat' (first|refine aD ?_|fail)
  rw [hcal]
  refine eF (bN 1 rfl rfl bY) ?_
  have hg:=co s hs g1.2.a (n:=calls.length) (by omega)
  have hg:0≤(dr s calls.length g1.2).1∧(dr s calls.length g1.2).1 < calls.length:=hg
  generalize dr s calls.length g1.2=g2 at hg hstep ⊢
  have hgl:(aX calls)[g2.1.toNat]?=some [aF (calls.getD g2.1.toNat 0)]:=bP (by rw [List.getD_eq_getElem?_getD,Jz (show g2.1.toNat < calls.length by omega)];rfl)
  dsimp only [ret] at hstep
  repeat' (first|refine aD ?_|refine b7 a5 ?_|(apply bV;refine cn a5 ?_)|refine ej a5 ?_|fail)
  refine JQ [0,2,6,7,12,13,68,82] H6 ?_
  repeat' (first|fail)
  refine bK a5 _ rfl rfl rfl rfl (eI (A:=[_,_,_])) (by simp;omega) (by simp;omega) rfl fun q'=>?_
  refine aI (aQ (eI (A:=[_,_,_])).symm) ?_
  repeat' (first|refine Ji ?_|refine JF a5 H6 ?_|(apply aS;refine aR ?_)|(apply aK;first|refine JG a5 0 JD ?_|refine JG a5 1 JD ?_|refine JG a5 2 JD ?_|refine JG a5 3 JD ?_|fail))
  exact aC (i+1,q') rfl ⟨by rw [Jv];rfl,trivial⟩ (by dsimp only;omega) (by dsimp only;omega) (fun _ _ h=>by dsimp only;rw [hstep];simpa [fp,fi,eM] using h)
 have hiK:i=KK:=by omega
 subst hiK
 generalize f7 s (p1.1::y.1).length calls i o.2=st
 have hno:¬(i < k∧0 < calls.length):=fun h=>absurd ((hK i).2 h) (by omega)
 by_cases hik2:i < k
 ·rw [decide_eq_true (show ((i:Nat):Int) < (k:Int) by omega)]
  repeat' (first|refine Ji ?_|refine JF a5 H6 ?_|refine JN H6 ?_)
  rw [decide_eq_false (show ¬(0:Int) < (((aX calls).length:Nat):Int) by omega)]
  repeat' (first|refine Ji ?_|(apply bE;first|refine JI a5 0 JC ?_|refine JI a5 1 JC ?_|refine JI a5 2 JC ?_|refine JI a5 3 JC ?_|refine JJ a5 0 JC ?_|refine JJ a5 1 JC ?_|refine JJ a5 2 JC ?_|refine JK a5 1 JA (by assumption) rfl ?_|refine JK a5 0 JA (by assumption) rfl ?_|fail)|(apply aK;first|refine JG a5 0 JD ?_|refine JG a5 1 JD ?_|refine JG a5 2 JD ?_|refine JG a5 3 JD ?_|fail)|refine bA rfl ?_)
  exact bk (bD 2 (cs':=bB ⟨w.1.1,p1.1::y.1,w.1.2,[],st.1,0⟩) rfl fun σ vs h=>mH.vrs (a:=[.imm 1 (b9 w.1.1),.vec q1 1 (b9 (p1.1::y.1)),.imm 1 (b9 w.1.2),.vec none 1 [],.vec q 2 (st.1.map eM),aF 0]) (b:=bB ⟨w.1.1,p1.1::y.1,w.1.2,[],st.1,0⟩) ⟨cU.refl _,cU.im,cU.refl _,cU.im,cU.im,cU.refl _,trivial⟩ h) (j4 a5 2 [dR b s F st.2] rfl rfl rfl rfl rfl (List.Sublist.cons_cons _ (List.nil_sublist _)) ⟨rfl,rfl⟩)
 ·rw [decide_eq_false (show ¬((i:Nat):Int) < (k:Int) by omega)]
  repeat' (first|refine Ji ?_|refine JF a5 H6 ?_|refine JO JB ?_|(apply bE;first|refine JI a5 0 JC ?_|refine JI a5 1 JC ?_|refine JI a5 2 JC ?_|refine JI a5 3 JC ?_|refine JJ a5 0 JC ?_|refine JJ a5 1 JC ?_|refine JJ a5 2 JC ?_|refine JK a5 1 JA (by assumption) rfl ?_|refine JK a5 0 JA (by assumption) rfl ?_|fail)|(apply aK;first|refine JG a5 0 JD ?_|refine JG a5 1 JD ?_|refine JG a5 2 JD ?_|refine JG a5 3 JD ?_|fail)|refine bA rfl ?_)
  exact bk (bD 2 (cs':=bB ⟨w.1.1,p1.1::y.1,w.1.2,[],st.1,0⟩) rfl fun σ vs h=>mH.vrs (a:=[.imm 1 (b9 w.1.1),.vec q1 1 (b9 (p1.1::y.1)),.imm 1 (b9 w.1.2),.vec none 1 [],.vec q 2 (st.1.map eM),aF 0]) (b:=bB ⟨w.1.1,p1.1::y.1,w.1.2,[],st.1,0⟩) ⟨cU.refl _,cU.im,cU.refl _,cU.im,cU.im,cU.refl _,trivial⟩ h) (j4 a5 2 [dR b s F st.2] rfl rfl rfl rfl rfl (List.Sublist.cons_cons _ (List.nil_sublist _)) ⟨rfl,rfl⟩)
end Go.Proofs.YtpmdfoaadejmkaaGreatDoor
namespace Go.Proofs.YtpmdfoaadejmkaaGreatDoor
open Go.RowKit
attribute [local irreducible] AT bI AX AO Av Kt bi dx DA cK
def fw (i j:Nat) (l:aL):List AV:=[aF l.Kind,dV l.Ignore,if j < i then .imm 6 (l.Rules.map bB) else bS]
def eG (i:Nat):Nat→List aL→List AV
 | _,[]=>[]
 | k,l::r=>fw i k l++eG i (k+1) r
theorem Cg (i:Nat):∀(l:List aL) (k:Nat),(eG i k l).length=l.length * 3
 | [],k=>rfl
 | x::l,k=>by
  rw [eG,List.length_append,Cg i l (k+1),List.length_cons,Nat.add_mul]
  simp [fw]
  omega
theorem tl (i:Nat):∀(l:List aL) (k j c:Nat),c < 3→(eG i k l)[j * 3+c]?=(l[j]?).bind fun x=>(fw i (k+j) x)[c]?
 | [],k,j,c,_=>by simp [eG]
 | x::l,k,0,c,hc=>by
  rw [eG,List.getElem?_append_left (by simp [fw];omega)]
  simp
 | x::l,k,j+1,c,hc=>by
  rw [eG,List.getElem?_append_right (by simp [fw];omega)]
  have h1:(j+1) * 3+c - (fw i k x).length=j * 3+c:=by simp [fw];omega
  rw [h1,tl i l (k+1) j c hc,List.getElem?_cons_succ]
  rw [show k+1+j=k+(j+1) by omega]
theorem y4 (i:Nat):∀(l:List aL) (k:Nat) (x:aL),eG i k (l++[x])=eG i k l++fw i (k+l.length) x
 | [],k,x=>by simp [eG]
 | y::l,k,x=>by
  rw [Js,eG,y4 i l (k+1) x,eG,List.append_assoc,List.length_cons,show k+1+l.length=k+(l.length+1) by omega]
theorem Ci {i:Nat} {l:List aL} {q:aL} {rs:List bc} (hq:l[i]?=some q):(eG i 0 l).set (i * 3+2) (.imm 6 (rs.map bB))=eG (i+1) 0 (l.set i { q with Rules:=rs }):=by
 have hil:=(Jp hq).1
 apply List.ext_getElem?
 intro p
 obtain ⟨j,c,hc,rfl⟩:∃j c,c < 3∧p=j * 3+c:=⟨p / 3,p % 3,Nat.mod_lt _ (by omega),by omega⟩
 rw [tl _ _ _ _ _ hc]
 by_cases e:i * 3+2=j * 3+c
 ·have hj:j=i:=by omega
  have hc2:c=2:=by omega
  subst hj;subst hc2
  rw [List.getElem?_set_self (by rw [Cg];omega),List.getElem?_set_self hil]
  simp [fw]
 ·rw [List.getElem?_set_ne e,tl _ _ _ _ _ hc]
  by_cases hj:i=j
  ·subst hj
   rw [hq,List.getElem?_set_self hil]
   have hc2:c=0∨c=1:=by omega
   rcases hc2 with rfl | rfl <;> rfl
  ·rw [List.getElem?_set_ne hj]
   cases l[j]? with
   | none=>rfl
   | some x=>
    simp only [Option.bind_some,Nat.zero_add]
    have hc3:c=0∨c=1∨c=2:=by omega
    rcases hc3 with rfl | rfl | rfl
    ·rfl
    ·rfl
    ·simp only [fw]
     by_cases hlt:j < i
     ·rw [if_pos hlt,if_pos (by omega)]
     ·rw [if_neg hlt,if_neg (by omega)]
theorem EE {i:Nat} {l:List aL} {q:aL} (hq:l[i]?=some q) (h0:q.Rules=[]):(eG i 0 l).set (i * 3+2) (.imm 6 [])=eG (i+1) 0 l:=by
 have:=Ci (rs:=[]) hq
 rw [show l.set i { q with Rules:=[] }=l from ?_] at this
 ·exact this
 ·have:({ q with Rules:=[] }:aL)=q:=by cases q;simp at h0;simp [h0]
  rw [this]
  apply List.ext_getElem?
  intro j
  by_cases e:i=j
  ·subst e;rw [List.getElem?_set_self (Jp hq).1,hq]
  ·rw [List.getElem?_set_ne e]
theorem Cf:∀(l:List aL) (i k:Nat),k+l.length≤i→eG i k l=(l.map bh).flatten
 | [],i,k,_=>rfl
 | x::l,i,k,h=>by
  simp only [List.length_cons] at h
  rw [eG,Cf l i (k+1) (by omega),Jq,List.flatten_cons]
  congr 1
  simp only [fw]
  rw [if_pos (by omega)]
  rfl
def zA (i:Nat):Option (Nat×List AV×Nat)→AV
 | none=>bS
 | some (b,_,cap)=> .sc (.slice (some ⟨b,0,none⟩) i cap)
def Cc:Option (Nat×List AV×Nat)→AL
 | none=>[]
 | some (b,cs,_)=>[(b,.box cs 59)]
def y3 (n i:Nat) (l:List aL):Option (Nat×List AV×Nat)→Prop
 | none=>n=0
 | some (_,cs,cap)=>cs.length=cap * 3∧n≤cap∧cap≤maxLen∧cs.take (n * 3)=eG i 0 l
end Go.Proofs.YtpmdfoaadejmkaaGreatDoor
