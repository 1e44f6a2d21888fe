/-
  The maker: rules.
-/
import Derived.Test.YtpmdfoaadejmkaaGreatDoorM27
import Derived.Test.YtpmdfoaadejmkaaGreatDoorM12
namespace Go.Proofs.YtpmdfoaadejmkaaGreatDoor
open Go.RowKit
attribute [local irreducible] AT bJ AX AO Av Kt bi dq DA cG
variable (s:List Int) (hs:s.length≤1000000) (F:MF)
include hs
def GI (r:bh):AV:= .agg (bC r)
def Kn (rb:Nat) (b0 b1 b2 b3 b4:AV) (x:Int):Nat×AB:=(rb,.box [b0,b1,b2,b3,b4,aF x] 79)
theorem tp (a:List Int) (l:List (List Int)):bc [a]++bc l=bc (a::l):=by
 have _:=hs
 clear hs
 rfl
theorem vW (n:Int) (m:MS) (k:Nat):(gt s n k m).1.length=k:=by
 have _:=hs
 clear hs
 induction k with
 | zero=>rfl
 | succ k ih=>
  have:gt s n (k+1) m=((gt s n k m).1++[(dr s n (gt s n k m).2).1],(dr s n (gt s n k m).2).2):=rfl
  rw [this]
  simp [ih]
theorem wY (nn:Int) (calls:List Int) (m:MS) (k:Nat):(fw s nn calls k m).1.length=k:=by
 have _:=hs
 clear hs
 induction k with
 | zero=>rfl
 | succ i ih=>
  have:fw s nn calls (i+1) m=(cn (dr s nn) fun a=>cn (dr s calls.length) fun z=>ret ((fw s nn calls i m).1++[(⟨a,calls.getD z.toNat 0⟩:gK)])) (fw s nn calls i m).2:=rfl
  rw [this]
  simp [cn,ret,ih]
set_option maxHeartbeats 16000000 in
theorem Bd {kg:Option (Nat×Nat)} {gl:List (List AV)} (hF:F.gl= .vec kg 9 gl) (n:Nat) (hn:gl.length=n) (h0:0 < n∧n≤1000) (kind:Int) (hk:1≤kind∧kind≤6) (calls:List Int) (hcl:calls.length≤1000):so 176 [aF kind,.imm 1 (aW calls)] s F (gP s n kind calls) GI:=by
 intro b m
 refine aN Tryz.func176 rfl Tryz.ntmps176 rfl fun B=>?_
 repeat' (first|refine L3 ?_|refine KG a4 HY ?_|(apply bo;first|refine KM a4 0 KC ?_|refine KM a4 1 KC ?_|refine KM a4 2 KC ?_|refine KM a4 3 KC ?_|refine KN a4 0 KC ?_|refine KN a4 1 KC ?_|refine KN a4 2 KC ?_|refine KO a4 1 KA (by assumption) rfl ?_|refine KO a4 0 KA (by assumption) rfl ?_|fail)|refine bq a4 fun _=>?_|fail)
 rw [hF]
 repeat' (first|refine L3 ?_|refine KG a4 HY ?_)
 rw [hn]
 rename_i tb rb
 refine aP (aI (L':=[eo b s F m,(rb,.box [bX,bX,bX,bX,bX,aF 0] 79),(tb,.box [bX,bX,bX,bX,bX,aF 0] 79)]) (List.perm_append_comm (l₁:=[_,_]))) ?_
 refine vR (s6 s hs F hF n hn h0) ?_
 have ha:=qk s (n:=n) (by omega) m
 generalize e1:o9 s n m=p1 at ha ⊢
 have haf:=ha.few
 unfold FW
 repeat' (first|refine L3 ?_|refine KG a4 HY ?_|(apply aM;first|refine KH a4 0 KE ?_|refine KH a4 1 KE ?_|refine KH a4 2 KE ?_|refine KH a4 3 KE ?_|fail)|refine rE (d:=22) a4 fun _=>?_|fail)
 rename_i kb
 refine c8 (aI (L':=[eo b s F p1.2,(rb,.box [bX,.vec (some (kb,1)) 1 (bc [p1.1]),bX,bX,bX,aF 0] 79),(tb,.box [bX,bX,bX,bX,bX,aF 0] 79)]++(tok (some (kb,1)) 22 1 1++[])) (List.perm_append_comm (l₁:=[_]))) ?_
 repeat' (first|fail)
 refine aw rfl (fun h6=>?_) (fun h6=>?_)
 ·have h6:=Ky h6
  subst h6
  repeat' (first|refine L3 ?_|fail)
  refine dC [.cell (rb,1,.vec (some (kb,1)) 1 (bc [p1.1]))] 5 [(0,.v),(1,.k),(2,.v),(3,.f),(4,.v)] none ?_ trivial rfl (by kernel_rfl) (by kernel_rfl) (by kernel_rfl) bI (by kernel_rfl) rfl
  repeat' (first|refine aB ?_|refine aX a4 ?_|fail)
  refine dY a4 0 rfl rfl rfl (bR 1 rfl rfl cj) (by first | trivial | rfl) ?_
  repeat' (first|refine aB ?_|refine aX a4 ?_|fail)
  refine sR (s6 s hs F hF n hn h0) (bR 1 rfl rfl cj) ?_
  generalize e2:o9 s n p1.2=p2
  unfold FW
  repeat' (first|refine aB ?_|refine eD a4 ?_|fail)
  refine KU [0,6,7,27,30] HY ?_
  repeat' (first|fail)
  refine bV a4 _ rfl rfl rfl rfl (eV (A:=[_,_,_])) (by simp [fS s hs]) (by simp [fS s hs]) rfl fun q'=>?_
  refine aP (aI (eV (A:=[_,_,_])).symm) ?_
  repeat' (first|refine L3 ?_|refine KG a4 HY ?_|(apply aM;first|refine KH a4 0 KE ?_|refine KH a4 1 KE ?_|refine KH a4 2 KE ?_|refine KH a4 3 KE ?_|fail))
  refine cL ?_
  have hx:=cB s hs p2.2.a (n:=41) (by omega)
  have hx:0≤(dr s 41 p2.2).1∧(dr s 41 p2.2).1 < 41:=hx
  generalize e3:dr s 41 p2.2=p3 at hx ⊢
  repeat' (first|refine L3 ?_|refine KG a4 HY ?_|(apply bo;first|refine KM a4 0 KC ?_|refine KM a4 1 KC ?_|refine KM a4 2 KC ?_|refine KM a4 3 KC ?_|refine KN a4 0 KC ?_|refine KN a4 1 KC ?_|refine KN a4 2 KC ?_|refine KO a4 1 KA (by assumption) rfl ?_|refine KO a4 0 KA (by assumption) rfl ?_|fail)|(apply aU;refine aT ?_)|(apply aM;first|refine KH a4 0 KE ?_|refine KH a4 1 KE ?_|refine KH a4 2 KE ?_|refine KH a4 3 KE ?_|fail))
  have hv:gP s n 6 calls m=(⟨[],[p1.1,p2.1],[],[],[],p3.1 * 10 - 200⟩,p3.2):=by simp [gP,GG,cn,ret,e1,e2,e3]
  rw [hv]
  refine bj (bG 2 (cs':=bC ⟨[],[p1.1,p2.1],[],[],[],p3.1 * 10 - 200⟩) rfl fun σ vs h=>mE.vrs (a:=[bX,.vec q' 1 (bc [p1.1,p2.1]),bX,bX,bX,aF (p3.1 * 10 - 200)]) (b:=bC ⟨[],[p1.1,p2.1],[],[],[],p3.1 * 10 - 200⟩) ⟨da.nil 1,da.im,da.nil 1,da.nil 1,da.nil 2,da.refl _,trivial⟩ h) (ju a4 2 [eo b s F p3.2] rfl rfl rfl rfl rfl (List.Sublist.cons_cons _ (List.nil_sublist _)) ⟨rfl,rfl⟩)
 have h6:=Kx h6
 refine c8 (bG 1 (cs':=[.imm 1 [],.vec (some (kb,1)) 1 (bc [p1.1]),.imm 1 [],.vec none 1 [],.vec none 2 [],aF 0]) rfl fun σ vs h=>mE.vrs (a:=[bX,.vec (some (kb,1)) 1 (bc [p1.1]),bX,bX,bX,aF 0]) (b:=[.imm 1 [],.vec (some (kb,1)) 1 (bc [p1.1]),.imm 1 [],.vec none 1 [],.vec none 2 [],aF 0]) ⟨da.nil 1,da.refl _,da.nil 1,da.vecN 1,da.vecN 2,da.refl _,trivial⟩ h) ?_
 repeat' (first|refine L3 ?_|refine KG a4 HY ?_)
 refine cL ?_
 generalize e2:dr s 2 p1.2=z
 repeat' (first|refine L3 ?_|refine KG a4 HY ?_)
 refine tQ [0,1,2,6,7,8] ([eo b s F (jM s n p1.2).2,(rb,.box [.imm 1 (bc (jM s n p1.2).1.1),.vec (some (kb,1)) 1 (bc [p1.1]),.imm 1 (bc (jM s n p1.2).1.2),.vec none 1 [],.vec none 2 [],aF 0] 79),(tb,.box [bX,bX,bX,bX,bX,aF 0] 79)]++(tok (some (kb,1)) 22 1 1++[])) rfl (fun Q' K=>?_) ?_
 ·refine aw rfl (fun hz=>?_) (fun hz=>?_)
  ·have hz:=Ky hz
   repeat' (first|refine L3 ?_|refine KG a4 HY ?_)
   refine vR (o8 s hs F hF n hn h0 2 (by omega)) ?_
   generalize e3:pW s n 2 z.2=y1
   unfold E0
   repeat' (first|refine L3 ?_|refine KG a4 HY ?_|(apply aM;first|refine KH a4 0 KE ?_|refine KH a4 1 KE ?_|refine KH a4 2 KE ?_|refine KH a4 3 KE ?_|fail))
   refine vR (o8 s hs F hF n hn h0 2 (by omega)) ?_
   generalize e4:pW s n 2 y1.2=y2
   unfold E0
   repeat' (first|refine L3 ?_|refine KG a4 HY ?_|(apply aM;first|refine KH a4 0 KE ?_|refine KH a4 1 KE ?_|refine KH a4 2 KE ?_|refine KH a4 3 KE ?_|fail))
   have hv:jM s n p1.2=((y1.1,y2.1),y2.2):=by simp [jM,cn,ret,e2,e3,e4,hz]
   rw [hv] at K
   exact K _ rfl
  ·have hz:=Kx hz
   repeat' (first|refine L3 ?_|fail)
   have hv:jM s n p1.2=(([],[]),z.2):=by simp [jM,cn,ret,e2,hz]
   rw [hv] at K
   exact K _ rfl
 generalize e3:jM s n p1.2=w
 have ha0:(bc [p1.1])[0]?=some [.imm 1 (aW p1.1)]:=rfl
 have hial:(aW p1.1).length=p1.1.length:=bb _
 by_cases h15:kind=1∨kind=5
 ·have hv:gP s n kind calls m=(⟨w.1.1,[p1.1],w.1.2,(gt s n p1.1.length w.2).1,[],0⟩,(gt s n p1.1.length w.2).2):=by simp [gP,cn,ret,e1,e3,h6,h15]
  rw [hv]
  rcases h15 with rfl | rfl
  all_goals
   repeat' (first|refine L3 ?_|refine ak ?_|refine KG a4 HY ?_|refine bH rfl ?_|refine bE rfl ?_)
   refine aR [0,6,7,8] (α:=Nat×Option (Nat×Nat)) (fun x=>[(9,aF x.1)]) (fun x=>x.1≤p1.1.length) (fun x=>[eo b s F (gt s n x.1 w.2).2,(rb,.box [.imm 1 (bc w.1.1),.vec (some (kb,1)) 1 (bc [p1.1]),.imm 1 (bc w.1.2),.vec x.2 1 (aW (gt s n x.1 w.2).1),.vec none 2 [],aF 0] 79),(tb,.box [bX,bX,bX,bX,bX,aF 0] 79)]++(tok x.2 3 1 (aW (gt s n x.1 w.2).1).length++(tok (some (kb,1)) 22 1 1++[]))) (fun x=>p1.1.length - x.1) (0,none) rfl ⟨rfl,trivial⟩ (Nat.zero_le _) (fun _ _ h=>h) ?_
   rintro ⟨i,q⟩ hi
   dsimp only at hi ⊢
   have hol:=vW s hs n w.2 i
   have hstep:gt s n (i+1) w.2=((gt s n i w.2).1++[(dr s n (gt s n i w.2).2).1],(dr s n (gt s n i w.2).2).2):=rfl
   try dsimp only [Kr,Kq,Kp,Lv]
   repeat' (first|refine L3 ?_|refine KG a4 HY ?_|(apply bo;first|refine KM a4 0 KC ?_|refine KM a4 1 KC ?_|refine KM a4 2 KC ?_|refine KM a4 3 KC ?_|refine KN a4 0 KC ?_|refine KN a4 1 KC ?_|refine KN a4 2 KC ?_|refine KO a4 1 KA (by assumption) rfl ?_|refine KO a4 0 KA (by assumption) rfl ?_|fail)|(apply aQ;first|refine aO a4 ?_|refine aG a4 ?_)|fail)
   refine aw rfl (fun h=>?_) (fun h=>?_)
   ·have hil:i < p1.1.length:=by have:=Ky h;omega
    generalize gt s n i w.2=st at hol hstep ⊢
    have hoil:(aW st.1).length=st.1.length:=bb _
    repeat' (first|refine L3 ?_|refine ak ?_)
    refine dC [.cell (rb,3,.vec q 1 (aW st.1))] 6 [(0,.v),(1,.k),(2,.v),(3,.v),(4,.f),(5,.v)] none ?_ trivial rfl (by kernel_rfl) (by kernel_rfl) (by kernel_rfl) bI (by kernel_rfl) rfl
    repeat' (first|refine aB ?_|refine aX a4 ?_|fail)
    refine dY a4 0 rfl rfl rfl (bR 1 rfl rfl cj) (by first | trivial | rfl) ?_
    repeat' (first|refine aB ?_|refine aX a4 ?_|fail)
    refine eT (bR 1 rfl rfl cj) ?_
    generalize dr s n st.2=o at hstep ⊢
    repeat' (first|refine aB ?_|refine eD a4 ?_|fail)
    refine KU [0,6,7,8,9,98,102] HY ?_
    repeat' (first|fail)
    refine bV a4 _ rfl rfl rfl rfl (eV (A:=[_,_,_])) (by simp [bb];omega) (by simp [bb];omega) rfl fun q'=>?_
    refine aP (aI (eV (A:=[_,_,_])).symm) ?_
    repeat' (first|refine L3 ?_|refine KG a4 HY ?_|(apply aU;refine aT ?_)|(apply aM;first|refine KH a4 0 KE ?_|refine KH a4 1 KE ?_|refine KH a4 2 KE ?_|refine KH a4 3 KE ?_|fail))
    exact aD (i+1,q') rfl ⟨by rw [Kv];rfl,trivial⟩ (by dsimp only;omega) (by dsimp only;omega) (fun _ _ h=>by dsimp only;rw [hstep];simpa [eZ,f5,aW] using h)
   have hil:i=p1.1.length:=by have:=Kx h;omega
   subst hil
   generalize gt s n p1.1.length w.2=st
   repeat' (first|refine L3 ?_|(apply bo;first|refine KM a4 0 KC ?_|refine KM a4 1 KC ?_|refine KM a4 2 KC ?_|refine KM a4 3 KC ?_|refine KN a4 0 KC ?_|refine KN a4 1 KC ?_|refine KN a4 2 KC ?_|refine KO a4 1 KA (by assumption) rfl ?_|refine KO a4 0 KA (by assumption) rfl ?_|fail)|(apply aM;first|refine KH a4 0 KE ?_|refine KH a4 1 KE ?_|refine KH a4 2 KE ?_|refine KH a4 3 KE ?_|fail))
   exact bj (bG 2 (cs':=bC ⟨w.1.1,[p1.1],w.1.2,st.1,[],0⟩) rfl fun σ vs h=>mE.vrs (a:=[.imm 1 (bc w.1.1),.vec (some (kb,1)) 1 (bc [p1.1]),.imm 1 (bc w.1.2),.vec q 1 (aW st.1),.vec none 2 [],aF 0]) (b:=bC ⟨w.1.1,[p1.1],w.1.2,st.1,[],0⟩) ⟨da.refl _,da.im,da.refl _,da.im,da.im,da.refl _,trivial⟩ h) (ju a4 2 [eo b s F st.2] rfl rfl rfl rfl rfl (List.Sublist.cons_cons _ (List.nil_sublist _)) ⟨rfl,rfl⟩)
 by_cases h2:kind=2
 ·subst h2
  repeat' (first|refine L3 ?_|refine ak ?_|refine KG a4 HY ?_|refine bH rfl ?_|refine bE rfl ?_)
  refine cL ?_
  have hc:=cB s hs w.2.a (n:=4) (by omega)
  have hc:0≤(dr s 4 w.2).1∧(dr s 4 w.2).1 < 4:=hc
  generalize e4:dr s 4 w.2=y at hc ⊢
  obtain ⟨k,hkk⟩:∃k:Nat,y.1=k:=⟨y.1.toNat,by omega⟩
  have hv:gP s n 2 calls m=(⟨w.1.1,[p1.1],w.1.2,(gt s n k y.2).1,[],0⟩,(gt s n k y.2).2):=by simp [gP,cn,ret,e1,e3,e4,hkk]
  rw [hv,hkk]
  repeat' (first|refine L3 ?_|refine ak ?_|refine KG a4 HY ?_)
  refine aR [0,6,7,8,10] (α:=Nat×Option (Nat×Nat)) (fun x=>[(11,aF x.1)]) (fun x=>x.1≤k) (fun x=>[eo b s F (gt s n x.1 y.2).2,(rb,.box [.imm 1 (bc w.1.1),.vec (some (kb,1)) 1 (bc [p1.1]),.imm 1 (bc w.1.2),.vec x.2 1 (aW (gt s n x.1 y.2).1),.vec none 2 [],aF 0] 79),(tb,.box [bX,bX,bX,bX,bX,aF 0] 79)]++(tok x.2 3 1 (aW (gt s n x.1 y.2).1).length++(tok (some (kb,1)) 22 1 1++[]))) (fun x=>k - x.1) (0,none) rfl ⟨rfl,trivial⟩ (Nat.zero_le _) (fun _ _ h=>h) ?_
  rintro ⟨i,q⟩ hi
  dsimp only at hi ⊢
  have hol:=vW s hs n y.2 i
  have hstep:gt s n (i+1) y.2=((gt s n i y.2).1++[(dr s n (gt s n i y.2).2).1],(dr s n (gt s n i y.2).2).2):=rfl
  try dsimp only [Kr,Kq,Kp,Lv]
  repeat' (first|refine L3 ?_|refine KG a4 HY ?_)
  refine aw rfl (fun h=>?_) (fun h=>?_)
  ·have hil:i < k:=by have:=Ky h;omega
   generalize gt s n i y.2=st at hol hstep ⊢
   have hoil:(aW st.1).length=st.1.length:=bb _
   repeat' (first|refine L3 ?_|refine ak ?_)
   refine dC [.cell (rb,3,.vec q 1 (aW st.1))] 6 [(0,.v),(1,.k),(2,.v),(3,.v),(4,.f),(5,.v)] none ?_ trivial rfl (by kernel_rfl) (by kernel_rfl) (by kernel_rfl) bI (by kernel_rfl) rfl
   repeat' (first|refine aB ?_|refine aX a4 ?_|fail)
   refine dY a4 0 rfl rfl rfl (bR 1 rfl rfl cj) (by first | trivial | rfl) ?_
   repeat' (first|refine aB ?_|refine aX a4 ?_|fail)
   refine eT (bR 1 rfl rfl cj) ?_
   generalize dr s n st.2=o at hstep ⊢
   repeat' (first|refine aB ?_|refine eD a4 ?_|fail)
   refine KU [0,6,7,8,10,11,115,119] HY ?_
   repeat' (first|fail)
   refine bV a4 _ rfl rfl rfl rfl (eV (A:=[_,_,_])) (by simp [bb];omega) (by simp [bb];omega) rfl fun q'=>?_
   refine aP (aI (eV (A:=[_,_,_])).symm) ?_
   repeat' (first|refine L3 ?_|refine KG a4 HY ?_|(apply aU;refine aT ?_)|(apply aM;first|refine KH a4 0 KE ?_|refine KH a4 1 KE ?_|refine KH a4 2 KE ?_|refine KH a4 3 KE ?_|fail))
   exact aD (i+1,q') rfl ⟨by rw [Kv];rfl,trivial⟩ (by dsimp only;omega) (by dsimp only;omega) (fun _ _ h=>by dsimp only;rw [hstep];simpa [eZ,f5,aW] using h)
  have hil:i=k:=by have:=Kx h;omega
  subst hil
  generalize gt s n i y.2=st
  repeat' (first|refine L3 ?_|(apply bo;first|refine KM a4 0 KC ?_|refine KM a4 1 KC ?_|refine KM a4 2 KC ?_|refine KM a4 3 KC ?_|refine KN a4 0 KC ?_|refine KN a4 1 KC ?_|refine KN a4 2 KC ?_|refine KO a4 1 KA (by assumption) rfl ?_|refine KO a4 0 KA (by assumption) rfl ?_|fail)|(apply aM;first|refine KH a4 0 KE ?_|refine KH a4 1 KE ?_|refine KH a4 2 KE ?_|refine KH a4 3 KE ?_|fail))
  exact bj (bG 2 (cs':=bC ⟨w.1.1,[p1.1],w.1.2,st.1,[],0⟩) rfl fun σ vs h=>mE.vrs (a:=[.imm 1 (bc w.1.1),.vec (some (kb,1)) 1 (bc [p1.1]),.imm 1 (bc w.1.2),.vec q 1 (aW st.1),.vec none 2 [],aF 0]) (b:=bC ⟨w.1.1,[p1.1],w.1.2,st.1,[],0⟩) ⟨da.refl _,da.im,da.refl _,da.im,da.im,da.refl _,trivial⟩ h) (ju a4 2 [eo b s F st.2] rfl rfl rfl rfl rfl (List.Sublist.cons_cons _ (List.nil_sublist _)) ⟨rfl,rfl⟩)
 have hrow:=o7 s (n:=n) (by omega) w.2
 by_cases h3:kind=3
 ·subst h3
  repeat' (first|refine L3 ?_|refine ak ?_|refine KG a4 HY ?_|refine bH rfl ?_|refine bE rfl ?_)
  refine dC [.cell (rb,1,.vec (some (kb,1)) 1 (bc [p1.1]))] 4 [(0,.v),(1,.k),(2,.v),(3,.f)] none ?_ trivial rfl (by kernel_rfl) (by kernel_rfl) (by kernel_rfl) bI (by kernel_rfl) rfl
  repeat' (first|refine aB ?_|refine aX a4 ?_|fail)
  refine dY a4 0 rfl rfl rfl (bR 1 rfl rfl cj) (by first | trivial | rfl) ?_
  repeat' (first|refine aB ?_|refine aX a4 ?_|fail)
  refine sR (o8 s hs F hF n hn h0 2 (by omega)) (bR 1 rfl rfl cj) ?_
  generalize e4:pW s n 2 w.2=y at hrow ⊢
  have hrl:=hrow.1
  unfold E0
  repeat' (first|fail)
  refine KU [0,6,7,8,125,127] HY ?_
  repeat' (first|fail)
  refine bV a4 _ rfl rfl rfl rfl (eV (A:=[_,_,_])) (by simp [fS s hs];omega) (by simp [fS s hs];omega) rfl fun q'=>?_
  refine aP (aI (eV (A:=[_,_,_])).symm) ?_
  rw [tp s hs]
  repeat' (first|refine L3 ?_|refine KG a4 HY ?_|(apply aM;first|refine KH a4 0 KE ?_|refine KH a4 1 KE ?_|refine KH a4 2 KE ?_|refine KH a4 3 KE ?_|fail))
  refine cL ?_
  generalize e5:dr s n y.2=o
  have hv:gP s n 3 calls m=(⟨w.1.1,p1.1::y.1,w.1.2,[o.1],[],0⟩,o.2):=by simp [gP,cn,ret,e1,e3,e4,e5]
  rw [hv]
  repeat' (first|refine L3 ?_|refine KG a4 HY ?_|(apply bo;first|refine KM a4 0 KC ?_|refine KM a4 1 KC ?_|refine KM a4 2 KC ?_|refine KM a4 3 KC ?_|refine KN a4 0 KC ?_|refine KN a4 1 KC ?_|refine KN a4 2 KC ?_|refine KO a4 1 KA (by assumption) rfl ?_|refine KO a4 0 KA (by assumption) rfl ?_|fail)|(apply aM;first|refine KH a4 0 KE ?_|refine KH a4 1 KE ?_|refine KH a4 2 KE ?_|refine KH a4 3 KE ?_|fail)|refine bW a4 ?_|fail)
  exact bj (bG 2 (cs':=bC ⟨w.1.1,p1.1::y.1,w.1.2,[o.1],[],0⟩) rfl fun σ vs h=>mE.vrs (a:=[.imm 1 (bc w.1.1),.vec q' 1 (bc (p1.1::y.1)),.imm 1 (bc w.1.2),.imm 1 (aW [o.1]),.vec none 2 [],aF 0]) (b:=bC ⟨w.1.1,p1.1::y.1,w.1.2,[o.1],[],0⟩) ⟨da.refl _,da.im,da.refl _,da.refl _,da.im,da.refl _,trivial⟩ h) (ju a4 2 [eo b s F o.2] rfl rfl rfl rfl rfl (List.Sublist.cons_cons _ (List.nil_sublist _)) ⟨rfl,rfl⟩)
 have h4:kind=4:=by omega
 subst h4
 repeat' (first|refine L3 ?_|refine ak ?_|refine KG a4 HY ?_|refine bE rfl ?_)
 refine dC [.cell (rb,1,.vec (some (kb,1)) 1 (bc [p1.1]))] 4 [(0,.v),(1,.k),(2,.v),(3,.f)] none ?_ trivial rfl (by kernel_rfl) (by kernel_rfl) (by kernel_rfl) bI (by kernel_rfl) rfl
 repeat' (first|refine aB ?_|refine aX a4 ?_|fail)
 refine dY a4 0 rfl rfl rfl (bR 1 rfl rfl cj) (by first | trivial | rfl) ?_
 repeat' (first|refine aB ?_|refine aX a4 ?_|fail)
 refine sR (o8 s hs F hF n hn h0 2 (by omega)) (bR 1 rfl rfl cj) ?_
 generalize e4:pW s n 2 w.2=y at hrow ⊢
 have hrl:=hrow.1
 unfold E0
 repeat' (first|fail)
 refine KU [0,2,6,7,50,52] HY ?_
 repeat' (first|fail)
 refine bV a4 _ rfl rfl rfl rfl (eV (A:=[_,_,_])) (by simp [fS s hs];omega) (by simp [fS s hs];omega) rfl fun q1=>?_
 refine aP (aI (eV (A:=[_,_,_])).symm) ?_
 rw [tp s hs]
 repeat' (first|refine L3 ?_|refine KG a4 HY ?_|(apply aM;first|refine KH a4 0 KE ?_|refine KH a4 1 KE ?_|refine KH a4 2 KE ?_|refine KH a4 3 KE ?_|fail))
 refine cL ?_
 have hc:=cB s hs y.2.a (n:=3) (by omega)
 have hc:0≤(dr s 3 y.2).1∧(dr s 3 y.2).1 < 3:=hc
 generalize e5:dr s 3 y.2=o at hc ⊢
 obtain ⟨k,hkk⟩:∃k:Nat,o.1=k:=⟨o.1.toNat,by omega⟩
 have hv:gP s n 4 calls m=(⟨w.1.1,p1.1::y.1,w.1.2,[],(fw s (p1.1::y.1).length calls (if calls.length=0 then 0 else k) o.2).1,0⟩,(fw s (p1.1::y.1).length calls (if calls.length=0 then 0 else k) o.2).2):=by simp [gP,cn,ret,e1,e3,e4,e5,hkk]
 rw [hv,hkk]
 have hrw:(bc (p1.1::y.1)).length=(p1.1::y.1).length:=fS s hs _
 have hrw2:(p1.1::y.1).length=y.1.length+1:=rfl
 have hcal:(aW calls).length=calls.length:=bb _
 repeat' (first|refine L3 ?_|refine ak ?_|refine KG a4 HY ?_)
 have hcon:∀i,(fw s (p1.1::y.1).length calls i o.2).1.length=i:=fun i=>wY s hs _ calls o.2 i
 generalize hKK:(if calls.length=0 then 0 else k)=KK
 have hK:∀i:Nat,i < KK↔i < k∧0 < calls.length:=fun i=>by rw [←hKK];split <;> omega
 refine aR [0,2,6,7,12] (α:=Nat×Option (Nat×Nat)) (fun x=>[(13,aF x.1)]) (fun x=>x.1≤KK) (fun x=>[eo b s F (fw s (p1.1::y.1).length calls x.1 o.2).2,(rb,.box [.imm 1 (bc w.1.1),.vec q1 1 (bc (p1.1::y.1)),.imm 1 (bc w.1.2),.vec none 1 [],.vec x.2 2 ((fw s (p1.1::y.1).length calls x.1 o.2).1.map eK),aF 0] 79),(tb,.box [bX,bX,bX,bX,bX,aF 0] 79)]++(tok x.2 81 2 ((fw s (p1.1::y.1).length calls x.1 o.2).1.map eK).length++(tok q1 22 1 (bc (p1.1::y.1)).length++[]))) (fun x=>KK - x.1) (0,none) rfl ⟨rfl,trivial⟩ (Nat.zero_le _) (fun _ _ h=>h) ?_
 rintro ⟨i,q⟩ hi
 dsimp only at hi ⊢
 have hol:=hcon i
 have hstep:fw s (p1.1::y.1).length calls (i+1) o.2=(cn (dr s (p1.1::y.1).length) fun a=>cn (dr s calls.length) fun z=>ret ((fw s (p1.1::y.1).length calls i o.2).1++[(⟨a,calls.getD z.toNat 0⟩:gK)])) (fw s (p1.1::y.1).length calls i o.2).2:=rfl
 try dsimp only [Kr,Kq,Kp,Lv]
 repeat' (first|refine L3 ?_|refine KG a4 HY ?_)
 by_cases hik:i < KK
 ·have hik2:=(hK i).1 hik
  rw [decide_eq_true (show ((i:Nat):Int) < (k:Int) by omega)]
  repeat' (first|refine L3 ?_|refine KG a4 HY ?_|refine KR HY ?_)
  rw [decide_eq_true (show (0:Int) < (((aW calls).length:Nat):Int) by omega)]
  generalize fw s (p1.1::y.1).length calls i o.2=st at hol hstep ⊢
  have hoil:(st.1.map eK).length=st.1.length:=Ku ..
  repeat' (first|refine L3 ?_|refine ak ?_|refine bH rfl ?_)
  refine dC [.cell (rb,4,.vec q 2 (st.1.map eK))] 16 [(0,.v),(1,.k),(2,.v),(3,.v),(4,.l),(5,.v),(7,.v),(8,.v),(9,.v),(10,.v),(6,.f),(11,.f),(12,.v),(13,.v),(14,.v),(15,.v)] none ?_ trivial rfl (by kernel_rfl) (by kernel_rfl) (by kernel_rfl) bI (by kernel_rfl) rfl
  repeat' (first|refine aB ?_|refine aX a4 ?_|fail)
  refine dY a4 0 rfl rfl rfl (bR 1 rfl rfl cj) (by first | trivial | rfl) ?_
  repeat' (first|refine aB ?_|refine aX a4 ?_|refine KY a4 1 KB (by first|trivial|rfl) ?_)
  rw [hrw]
  refine eT (bR 1 rfl rfl cj) ?_
  unfold cn at hstep
  generalize dr s (p1.1::y.1).length st.2=g1 at hstep ⊢
  dsimp only at hstep
  repeat' (first|refine aB ?_|fail)
  rw [hcal]
  refine eT (bR 1 rfl rfl cj) ?_
  have hg:=cB s hs g1.2.a (n:=calls.length) (by omega)
  have hg:0≤(dr s calls.length g1.2).1∧(dr s calls.length g1.2).1 < calls.length:=hg
  generalize dr s calls.length g1.2=g2 at hg hstep ⊢
  have hgl:(aW calls)[g2.1.toNat]?=some [aF (calls.getD g2.1.toNat 0)]:=bP (by rw [List.getD_eq_getElem?_getD,Kz (show g2.1.toNat < calls.length by omega)];rfl)
  dsimp only [ret] at hstep
  repeat' (first|refine aB ?_|refine aX a4 ?_|(apply cm;refine cA a4 ?_)|refine eD a4 ?_|fail)
  refine KU [0,2,6,7,12,13,68,82] HY ?_
  repeat' (first|fail)
  refine bV a4 _ rfl rfl rfl rfl (eV (A:=[_,_,_])) (by simp;omega) (by simp;omega) rfl fun q'=>?_
  refine aP (aI (eV (A:=[_,_,_])).symm) ?_
  repeat' (first|refine L3 ?_|refine KG a4 HY ?_|(apply aU;refine aT ?_)|(apply aM;first|refine KH a4 0 KE ?_|refine KH a4 1 KE ?_|refine KH a4 2 KE ?_|refine KH a4 3 KE ?_|fail))
  exact aD (i+1,q') rfl ⟨by rw [Kv];rfl,trivial⟩ (by dsimp only;omega) (by dsimp only;omega) (fun _ _ h=>by dsimp only;rw [hstep];simpa [eZ,f5,eK] using h)
 have hiK:i=KK:=by omega
 subst hiK
 generalize fw s (p1.1::y.1).length calls i o.2=st
 have hno:¬(i < k∧0 < calls.length):=fun h=>absurd ((hK i).2 h) (by omega)
 by_cases hik2:i < k
 ·rw [decide_eq_true (show ((i:Nat):Int) < (k:Int) by omega)]
  repeat' (first|refine L3 ?_|refine KG a4 HY ?_|refine KR HY ?_)
  rw [decide_eq_false (show ¬(0:Int) < (((aW calls).length:Nat):Int) by omega)]
  repeat' (first|refine L3 ?_|(apply bo;first|refine KM a4 0 KC ?_|refine KM a4 1 KC ?_|refine KM a4 2 KC ?_|refine KM a4 3 KC ?_|refine KN a4 0 KC ?_|refine KN a4 1 KC ?_|refine KN a4 2 KC ?_|refine KO a4 1 KA (by assumption) rfl ?_|refine KO a4 0 KA (by assumption) rfl ?_|fail)|(apply aM;first|refine KH a4 0 KE ?_|refine KH a4 1 KE ?_|refine KH a4 2 KE ?_|refine KH a4 3 KE ?_|fail)|refine bE rfl ?_)
  exact bj (bG 2 (cs':=bC ⟨w.1.1,p1.1::y.1,w.1.2,[],st.1,0⟩) rfl fun σ vs h=>mE.vrs (a:=[.imm 1 (bc w.1.1),.vec q1 1 (bc (p1.1::y.1)),.imm 1 (bc w.1.2),.vec none 1 [],.vec q 2 (st.1.map eK),aF 0]) (b:=bC ⟨w.1.1,p1.1::y.1,w.1.2,[],st.1,0⟩) ⟨da.refl _,da.im,da.refl _,da.im,da.im,da.refl _,trivial⟩ h) (ju a4 2 [eo b s F st.2] rfl rfl rfl rfl rfl (List.Sublist.cons_cons _ (List.nil_sublist _)) ⟨rfl,rfl⟩)
 ·rw [decide_eq_false (show ¬((i:Nat):Int) < (k:Int) by omega)]
  repeat' (first|refine L3 ?_|refine KG a4 HY ?_|refine KV KB ?_|(apply bo;first|refine KM a4 0 KC ?_|refine KM a4 1 KC ?_|refine KM a4 2 KC ?_|refine KM a4 3 KC ?_|refine KN a4 0 KC ?_|refine KN a4 1 KC ?_|refine KN a4 2 KC ?_|refine KO a4 1 KA (by assumption) rfl ?_|refine KO a4 0 KA (by assumption) rfl ?_|fail)|(apply aM;first|refine KH a4 0 KE ?_|refine KH a4 1 KE ?_|refine KH a4 2 KE ?_|refine KH a4 3 KE ?_|fail)|refine bE rfl ?_)
  exact bj (bG 2 (cs':=bC ⟨w.1.1,p1.1::y.1,w.1.2,[],st.1,0⟩) rfl fun σ vs h=>mE.vrs (a:=[.imm 1 (bc w.1.1),.vec q1 1 (bc (p1.1::y.1)),.imm 1 (bc w.1.2),.vec none 1 [],.vec q 2 (st.1.map eK),aF 0]) (b:=bC ⟨w.1.1,p1.1::y.1,w.1.2,[],st.1,0⟩) ⟨da.refl _,da.im,da.refl _,da.im,da.im,da.refl _,trivial⟩ h) (ju a4 2 [eo b s F st.2] rfl rfl rfl rfl rfl (List.Sublist.cons_cons _ (List.nil_sublist _)) ⟨rfl,rfl⟩)
end Go.Proofs.YtpmdfoaadejmkaaGreatDoor
namespace Go.Proofs.YtpmdfoaadejmkaaGreatDoor
open Go.RowKit
attribute [local irreducible] AT bJ AX AO Av Kt bi dq DA cG
def fJ (i j:Nat) (l:aL):List AV:=[aF l.Kind,d6 l.Ignore,if j < i then .imm 6 (l.Rules.map bC) else bX]
def eU (i:Nat):Nat→List aL→List AV
 | _,[]=>[]
 | k,l::r=>fJ i k l++eU i (k+1) r
theorem Df (i:Nat):∀(l:List aL) (k:Nat),(eU i k l).length=l.length * 3
 | [],k=>rfl
 | x::l,k=>by
  rw [eU,List.length_append,Df i l (k+1),List.length_cons,Nat.add_mul]
  simp [fJ]
  omega
theorem u3 (i:Nat):∀(l:List aL) (k j c:Nat),c < 3→(eU i k l)[j * 3+c]?=(l[j]?).bind fun x=>(fJ i (k+j) x)[c]?
 | [],k,j,c,_=>by simp [eU]
 | x::l,k,0,c,hc=>by
  rw [eU,List.getElem?_append_left (by simp [fJ];omega)]
  simp
 | x::l,k,j+1,c,hc=>by
  rw [eU,List.getElem?_append_right (by simp [fJ];omega)]
  have h1:(j+1) * 3+c - (fJ i k x).length=j * 3+c:=by simp [fJ];omega
  rw [h1,u3 i l (k+1) j c hc,List.getElem?_cons_succ]
  rw [show k+1+j=k+(j+1) by omega]
theorem yU (i:Nat):∀(l:List aL) (k:Nat) (x:aL),eU i k (l++[x])=eU i k l++fJ i (k+l.length) x
 | [],k,x=>by simp [eU]
 | y::l,k,x=>by
  rw [Kr,eU,yU i l (k+1) x,eU,List.append_assoc,List.length_cons,show k+1+l.length=k+(l.length+1) by omega]
theorem Dg {i:Nat} {l:List aL} {q:aL} {rs:List bh} (hq:l[i]?=some q):(eU i 0 l).set (i * 3+2) (.imm 6 (rs.map bC))=eU (i+1) 0 (l.set i { q with Rules:=rs }):=by
 have hil:=(Ko hq).1
 apply List.ext_getElem?
 intro p
 obtain ⟨j,c,hc,rfl⟩:∃j c,c < 3∧p=j * 3+c:=⟨p / 3,p % 3,Nat.mod_lt _ (by omega),by omega⟩
 rw [u3 _ _ _ _ _ hc]
 by_cases e:i * 3+2=j * 3+c
 ·have hj:j=i:=by omega
  have hc2:c=2:=by omega
  subst hj;subst hc2
  rw [List.getElem?_set_self (by rw [Df];omega),List.getElem?_set_self hil]
  simp [fJ]
 ·rw [List.getElem?_set_ne e,u3 _ _ _ _ _ hc]
  by_cases hj:i=j
  ·subst hj
   rw [hq,List.getElem?_set_self hil]
   have hc2:c=0∨c=1:=by omega
   rcases hc2 with rfl | rfl <;> rfl
  ·rw [List.getElem?_set_ne hj]
   cases l[j]? with
   | none=>rfl
   | some x=>
    simp only [Option.bind_some,Nat.zero_add]
    have hc3:c=0∨c=1∨c=2:=by omega
    rcases hc3 with rfl | rfl | rfl
    ·rfl
    ·rfl
    ·simp only [fJ]
     by_cases hlt:j < i
     ·rw [if_pos hlt,if_pos (by omega)]
     ·rw [if_neg hlt,if_neg (by omega)]
theorem FD {i:Nat} {l:List aL} {q:aL} (hq:l[i]?=some q) (h0:q.Rules=[]):(eU i 0 l).set (i * 3+2) (.imm 6 [])=eU (i+1) 0 l:=by
 have:=Dg (rs:=[]) hq
 rw [show l.set i { q with Rules:=[] }=l from ?_] at this
 ·exact this
 ·have:({ q with Rules:=[] }:aL)=q:=by cases q;simp at h0;simp [h0]
  rw [this]
  apply List.ext_getElem?
  intro j
  by_cases e:i=j
  ·subst e;rw [List.getElem?_set_self (Ko hq).1,hq]
  ·rw [List.getElem?_set_ne e]
theorem De:∀(l:List aL) (i k:Nat),k+l.length≤i→eU i k l=(l.map bw).flatten
 | [],i,k,_=>rfl
 | x::l,i,k,h=>by
  simp only [List.length_cons] at h
  rw [eU,De l i (k+1) (by omega),Kp,List.flatten_cons]
  congr 1
  simp only [fJ]
  rw [if_pos (by omega)]
  rfl
def Az (i:Nat):Option (Nat×List AV×Nat)→AV
 | none=>bX
 | some (b,_,cap)=> .sc (.slice (some ⟨b,0,none⟩) i cap)
def Db:Option (Nat×List AV×Nat)→AL
 | none=>[]
 | some (b,cs,_)=>[(b,.box cs 59)]
def yT (n i:Nat) (l:List aL):Option (Nat×List AV×Nat)→Prop
 | none=>n=0
 | some (_,cs,cap)=>cs.length=cap * 3∧n≤cap∧cap≤maxLen∧cs.take (n * 3)=eU i 0 l
end Go.Proofs.YtpmdfoaadejmkaaGreatDoor
