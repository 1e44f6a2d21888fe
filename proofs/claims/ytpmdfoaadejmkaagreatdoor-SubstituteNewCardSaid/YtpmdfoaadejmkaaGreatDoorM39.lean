/-
  The maker: rules.
-/
import Derived.Test.YtpmdfoaadejmkaaGreatDoorM38
namespace Go.Proofs.YtpmdfoaadejmkaaGreatDoor
open Go.RowKit
section
attribute [local irreducible] AT bP AX AO Av Kt bb dh DA cG
variable (s:List Int) (hs:s.length≤1000000) (F:MF)
include hs
def J5 (r:bk):AV:= .agg (bI r)
def Nf (rb:Nat) (b0 b1 b2 b3 b4:AV) (x:Int):Nat×AB:=(rb,.box [b0,b1,b2,b3,b4,aK x] 79)
theorem u7 (a:List Int) (l:List (List Int)):b6 [a]++b6 l=b6 (a::l):=by
 have _:=hs
 clear hs
 rfl
theorem x4 (n:Int) (m:MS) (k:Nat):(gU s n k m).1.length=k:=by
 have _:=hs
 clear hs
 induction k with
 | zero=>rfl
 | succ k ih=>
  have:gU s n (k+1) m=((gU s n k m).1++[(dr s n (gU s n k m).2).1],(dr s n (gU s n k m).2).2):=rfl
  rw [this]
  simp [ih]
theorem y8 (nn:Int) (calls:List Int) (m:MS) (k:Nat):(fM s nn calls k m).1.length=k:=by
 have _:=hs
 clear hs
 induction k with
 | zero=>rfl
 | succ i ih=>
  have:fM s nn calls (i+1) m=(cm (dr s nn) fun a=>cm (dr s calls.length) fun z=>cQ ((fM s nn calls i m).1++[(⟨a,calls.getD z.toNat 0⟩:jt)])) (fM s nn calls i m).2:=rfl
  rw [this]
  simp [cm,cQ,ih]
set_option maxHeartbeats 16000000 in
theorem D5 {kg:Option (Nat×Nat)} {gl:List (List AV)} (hF:F.gl= .vec kg 9 gl) (n:Nat) (hn:gl.length=n) (h0:0 < n∧n≤1000) (kind:Int) (hk:1≤kind∧kind≤6) (calls:List Int) (hcl:calls.length≤1000):sZ 176 [aK kind,.imm 1 (aW calls)] s F (io s n kind calls) J5:=by
 intro b m
 refine aV Tryz.func176 rfl Tryz.ntmps176 rfl fun B=>?_
 refine W0P ?_
 intros
 rw [hF]
 refine W01 ?_
 rw [hn]
 rename_i tb rb
 refine aL (aQ (L':=[eC b s F m,(rb,.box [bZ,bZ,bZ,bZ,bZ,aK 0] 79),(tb,.box [bZ,bZ,bZ,bZ,bZ,aK 0] 79)]) (List.perm_append_comm (l₁:=[_,_]))) ?_
 refine wX (sK s hs F hF n hn h0) ?_
 have ha:=rh s (n:=n) (by omega) m
 generalize e1:oS s n m=p1 at ha ⊢
 have haf:=ha.few
 unfold If
 repeat' (first|refine Ng ?_|refine NG a5 IG ?_|(apply aI;first|refine NH a5 0 NE ?_|refine NH a5 1 NE ?_|refine NH a5 2 NE ?_|refine NH a5 3 NE ?_|fail)|refine fR (d:=22) a5 fun _=>?_|fail)
 rename_i kb
 refine bU (aQ (L':=[eC b s F p1.2,(rb,.box [bZ,.vec (some (kb,1)) 1 (b6 [p1.1]),bZ,bZ,bZ,aK 0] 79),(tb,.box [bZ,bZ,bZ,bZ,bZ,aK 0] 79)]++(tok (some (kb,1)) 22 1 1++[])) (List.perm_append_comm (l₁:=[_]))) ?_
 refine aj rfl (fun h6=>?_) (fun h6=>?_)
 ·have h6:=Ny h6
  subst h6
  repeat' (first|refine Ng ?_|fail)
  refine dM [.cell (rb,1,.vec (some (kb,1)) 1 (b6 [p1.1]))] 5 [(0,.v),(1,.k),(2,.v),(3,.f),(4,.v)] none ?_ trivial rfl (by kernel_rfl) (by kernel_rfl) (by kernel_rfl) bQ (by kernel_rfl) rfl
  refine W09 ?_
  refine eo a5 0 rfl rfl rfl (c5 1 rfl rfl ci) (by first | trivial | rfl) ?_
  refine W09 ?_
  refine tr (sK s hs F hF n hn h0) (c5 1 rfl rfl ci) ?_
  generalize e2:oS s n p1.2=p2
  unfold If
  refine W0M ?_
  refine NP [0,6,7,27,30] IG ?_
  refine NS a5 _ NB (ff (A:=[_,_,_])) (by simp [gC s hs]) (by simp [gC s hs]) rfl fun q'=>?_
  refine aL (aQ (ff (A:=[_,_,_])).symm) ?_
  refine W05 ?_
  refine cS ?_
  have hx:=cH s hs p2.2.a (n:=41) (by omega)
  have hx:0≤(dr s 41 p2.2).1∧(dr s 41 p2.2).1 < 41:=hx
  generalize e3:dr s 41 p2.2=p3 at hx ⊢
  refine W0E ?_
  have hv:io s n 6 calls m=(⟨[],[p1.1,p2.1],[],[],[],p3.1 * 10 - 200⟩,p3.2):=by simp [io,J3,cm,cQ,e1,e2,e3]
  rw [hv]
  refine bf (bL 2 (cs':=bI ⟨[],[p1.1,p2.1],[],[],[],p3.1 * 10 - 200⟩) rfl fun σ vs h=>mF.vrs (a:=[bZ,.vec q' 1 (b6 [p1.1,p2.1]),bZ,bZ,bZ,aK (p3.1 * 10 - 200)]) (b:=bI ⟨[],[p1.1,p2.1],[],[],[],p3.1 * 10 - 200⟩) ⟨d7.nil 1,d7.im,d7.nil 1,d7.nil 1,d7.nil 2,d7.refl _,trivial⟩ h) (NU a5 2 [eC b s F p3.2] NC (List.Sublist.cons_cons _ (List.nil_sublist _)) ⟨rfl,rfl⟩)
 have h6:=Nx h6
 refine bU (bL 1 (cs':=[.imm 1 [],.vec (some (kb,1)) 1 (b6 [p1.1]),.imm 1 [],.vec none 1 [],.vec none 2 [],aK 0]) rfl fun σ vs h=>mF.vrs (a:=[bZ,.vec (some (kb,1)) 1 (b6 [p1.1]),bZ,bZ,bZ,aK 0]) (b:=[.imm 1 [],.vec (some (kb,1)) 1 (b6 [p1.1]),.imm 1 [],.vec none 1 [],.vec none 2 [],aK 0]) ⟨d7.nil 1,d7.refl _,d7.nil 1,d7.vecN 1,d7.vecN 2,d7.refl _,trivial⟩ h) ?_
 refine W01 ?_
 refine cS ?_
 generalize e2:dr s 2 p1.2=z
 refine W01 ?_
 refine uD [0,1,2,6,7,8] ([eC b s F (ka s n p1.2).2,(rb,.box [.imm 1 (b6 (ka s n p1.2).1.1),.vec (some (kb,1)) 1 (b6 [p1.1]),.imm 1 (b6 (ka s n p1.2).1.2),.vec none 1 [],.vec none 2 [],aK 0] 79),(tb,.box [bZ,bZ,bZ,bZ,bZ,aK 0] 79)]++(tok (some (kb,1)) 22 1 1++[])) rfl (fun Q' K=>?_) ?_
 ·refine aj rfl (fun hz=>?_) (fun hz=>?_)
  ·have hz:=Ny hz
   refine W01 ?_
   refine wX (oR s hs F hF n hn h0 2 (by omega)) ?_
   generalize e3:qS s n 2 z.2=y1
   unfold G8
   refine W05 ?_
   refine wX (oR s hs F hF n hn h0 2 (by omega)) ?_
   generalize e4:qS s n 2 y1.2=y2
   unfold G8
   refine W05 ?_
   have hv:ka s n p1.2=((y1.1,y2.1),y2.2):=by simp [ka,cm,cQ,e2,e3,e4,hz]
   rw [hv] at K
   exact K _ rfl
  ·have hz:=Nx hz
   repeat' (first|refine Ng ?_|fail)
   have hv:ka s n p1.2=(([],[]),z.2):=by simp [ka,cm,cQ,e2,hz]
   rw [hv] at K
   exact K _ rfl
 generalize e3:ka s n p1.2=w
 have ha0:(b6 [p1.1])[0]?=some [.imm 1 (aW p1.1)]:=rfl
 have hial:(aW p1.1).length=p1.1.length:=aJ _
 by_cases h15:kind=1∨kind=5
 ·have hv:io s n kind calls m=(⟨w.1.1,[p1.1],w.1.2,(gU s n p1.1.length w.2).1,[],0⟩,(gU s n p1.1.length w.2).2):=by simp [io,cm,cQ,e1,e3,h6,h15]
  rw [hv]
  rcases h15 with rfl | rfl
  all_goals
   refine W0X ?_
   refine aM [0,6,7,8] (α:=Nat×Option (Nat×Nat)) (fun x=>[(9,aK x.1)]) (fun x=>x.1≤p1.1.length) (fun x=>[eC b s F (gU s n x.1 w.2).2,(rb,.box [.imm 1 (b6 w.1.1),.vec (some (kb,1)) 1 (b6 [p1.1]),.imm 1 (b6 w.1.2),.vec x.2 1 (aW (gU s n x.1 w.2).1),.vec none 2 [],aK 0] 79),(tb,.box [bZ,bZ,bZ,bZ,bZ,aK 0] 79)]++(tok x.2 3 1 (aW (gU s n x.1 w.2).1).length++(tok (some (kb,1)) 22 1 1++[]))) (fun x=>p1.1.length - x.1) (0,none) rfl ⟨rfl,trivial⟩ (Nat.zero_le _) (fun _ _ h=>h) ?_
   rintro ⟨i,q⟩ hi
   dsimp only at hi ⊢
   have hol:=x4 s hs n w.2 i
   have hstep:gU s n (i+1) w.2=((gU s n i w.2).1++[(dr s n (gU s n i w.2).2).1],(dr s n (gU s n i w.2).2).2):=rfl
   try dsimp only [Ns,Nr,Nq,Nk]
   refine W0h ?_
   refine aj rfl (fun h=>?_) (fun h=>?_)
   ·have hil:i < p1.1.length:=by have:=Ny h;omega
    generalize gU s n i w.2=st at hol hstep ⊢
    have hoil:(aW st.1).length=st.1.length:=aJ _
    refine W0n ?_
    refine dM [.cell (rb,3,.vec q 1 (aW st.1))] 6 [(0,.v),(1,.k),(2,.v),(3,.v),(4,.f),(5,.v)] none ?_ trivial rfl (by kernel_rfl) (by kernel_rfl) (by kernel_rfl) bQ (by kernel_rfl) rfl
    refine W09 ?_
    refine eo a5 0 rfl rfl rfl (c5 1 rfl rfl ci) (by first | trivial | rfl) ?_
    refine W09 ?_
    refine f8 (c5 1 rfl rfl ci) ?_
    generalize dr s n st.2=o at hstep ⊢
    refine W0M ?_
    refine NP [0,6,7,8,9,98,102] IG ?_
    refine NS a5 _ NB (ff (A:=[_,_,_])) (by simp [aJ];omega) (by simp [aJ];omega) rfl fun q'=>?_
    refine aL (aQ (ff (A:=[_,_,_])).symm) ?_
    refine W0f ?_
    exact aC (i+1,q') rfl ⟨by rw [Nv];rfl,trivial⟩ (by dsimp only;omega) (by dsimp only;omega) (fun _ _ h=>by dsimp only;rw [hstep];simpa [fx,fS,aW] using h)
   have hil:i=p1.1.length:=by have:=Nx h;omega
   subst hil
   generalize gU s n p1.1.length w.2=st
   refine W07 ?_
   exact bf (bL 2 (cs':=bI ⟨w.1.1,[p1.1],w.1.2,st.1,[],0⟩) rfl fun σ vs h=>mF.vrs (a:=[.imm 1 (b6 w.1.1),.vec (some (kb,1)) 1 (b6 [p1.1]),.imm 1 (b6 w.1.2),.vec q 1 (aW st.1),.vec none 2 [],aK 0]) (b:=bI ⟨w.1.1,[p1.1],w.1.2,st.1,[],0⟩) ⟨d7.refl _,d7.im,d7.refl _,d7.im,d7.im,d7.refl _,trivial⟩ h) (NU a5 2 [eC b s F st.2] NC (List.Sublist.cons_cons _ (List.nil_sublist _)) ⟨rfl,rfl⟩)
 by_cases h2:kind=2
 ·subst h2
  refine W0X ?_
  refine cS ?_
  have hc:=cH s hs w.2.a (n:=4) (by omega)
  have hc:0≤(dr s 4 w.2).1∧(dr s 4 w.2).1 < 4:=hc
  generalize e4:dr s 4 w.2=y at hc ⊢
  obtain ⟨k,hkk⟩:∃k:Nat,y.1=k:=⟨y.1.toNat,by omega⟩
  have hv:io s n 2 calls m=(⟨w.1.1,[p1.1],w.1.2,(gU s n k y.2).1,[],0⟩,(gU s n k y.2).2):=by simp [io,cm,cQ,e1,e3,e4,hkk]
  rw [hv,hkk]
  refine W03 ?_
  refine aM [0,6,7,8,10] (α:=Nat×Option (Nat×Nat)) (fun x=>[(11,aK x.1)]) (fun x=>x.1≤k) (fun x=>[eC b s F (gU s n x.1 y.2).2,(rb,.box [.imm 1 (b6 w.1.1),.vec (some (kb,1)) 1 (b6 [p1.1]),.imm 1 (b6 w.1.2),.vec x.2 1 (aW (gU s n x.1 y.2).1),.vec none 2 [],aK 0] 79),(tb,.box [bZ,bZ,bZ,bZ,bZ,aK 0] 79)]++(tok x.2 3 1 (aW (gU s n x.1 y.2).1).length++(tok (some (kb,1)) 22 1 1++[]))) (fun x=>k - x.1) (0,none) rfl ⟨rfl,trivial⟩ (Nat.zero_le _) (fun _ _ h=>h) ?_
  rintro ⟨i,q⟩ hi
  dsimp only at hi ⊢
  have hol:=x4 s hs n y.2 i
  have hstep:gU s n (i+1) y.2=((gU s n i y.2).1++[(dr s n (gU s n i y.2).2).1],(dr s n (gU s n i y.2).2).2):=rfl
  try dsimp only [Ns,Nr,Nq,Nk]
  refine W01 ?_
  refine aj rfl (fun h=>?_) (fun h=>?_)
  ·have hil:i < k:=by have:=Ny h;omega
   generalize gU s n i y.2=st at hol hstep ⊢
   have hoil:(aW st.1).length=st.1.length:=aJ _
   refine W0n ?_
   refine dM [.cell (rb,3,.vec q 1 (aW st.1))] 6 [(0,.v),(1,.k),(2,.v),(3,.v),(4,.f),(5,.v)] none ?_ trivial rfl (by kernel_rfl) (by kernel_rfl) (by kernel_rfl) bQ (by kernel_rfl) rfl
   refine W09 ?_
   refine eo a5 0 rfl rfl rfl (c5 1 rfl rfl ci) (by first | trivial | rfl) ?_
   refine W09 ?_
   refine f8 (c5 1 rfl rfl ci) ?_
   generalize dr s n st.2=o at hstep ⊢
   refine W0M ?_
   refine NP [0,6,7,8,10,11,115,119] IG ?_
   refine NS a5 _ NB (ff (A:=[_,_,_])) (by simp [aJ];omega) (by simp [aJ];omega) rfl fun q'=>?_
   refine aL (aQ (ff (A:=[_,_,_])).symm) ?_
   refine W0f ?_
   exact aC (i+1,q') rfl ⟨by rw [Nv];rfl,trivial⟩ (by dsimp only;omega) (by dsimp only;omega) (fun _ _ h=>by dsimp only;rw [hstep];simpa [fx,fS,aW] using h)
  have hil:i=k:=by have:=Nx h;omega
  subst hil
  generalize gU s n i y.2=st
  refine W07 ?_
  exact bf (bL 2 (cs':=bI ⟨w.1.1,[p1.1],w.1.2,st.1,[],0⟩) rfl fun σ vs h=>mF.vrs (a:=[.imm 1 (b6 w.1.1),.vec (some (kb,1)) 1 (b6 [p1.1]),.imm 1 (b6 w.1.2),.vec q 1 (aW st.1),.vec none 2 [],aK 0]) (b:=bI ⟨w.1.1,[p1.1],w.1.2,st.1,[],0⟩) ⟨d7.refl _,d7.im,d7.refl _,d7.im,d7.im,d7.refl _,trivial⟩ h) (NU a5 2 [eC b s F st.2] NC (List.Sublist.cons_cons _ (List.nil_sublist _)) ⟨rfl,rfl⟩)
 have hrow:=oQ s (n:=n) (by omega) w.2
 by_cases h3:kind=3
 ·subst h3
  refine W0X ?_
  refine dM [.cell (rb,1,.vec (some (kb,1)) 1 (b6 [p1.1]))] 4 [(0,.v),(1,.k),(2,.v),(3,.f)] none ?_ trivial rfl (by kernel_rfl) (by kernel_rfl) (by kernel_rfl) bQ (by kernel_rfl) rfl
  refine W09 ?_
  refine eo a5 0 rfl rfl rfl (c5 1 rfl rfl ci) (by first | trivial | rfl) ?_
  refine W09 ?_
  refine tr (oR s hs F hF n hn h0 2 (by omega)) (c5 1 rfl rfl ci) ?_
  generalize e4:qS s n 2 w.2=y at hrow ⊢
  have hrl:=hrow.1
  unfold G8
  refine NP [0,6,7,8,125,127] IG ?_
  refine NS a5 _ NB (ff (A:=[_,_,_])) (by simp [gC s hs];omega) (by simp [gC s hs];omega) rfl fun q'=>?_
  refine aL (aQ (ff (A:=[_,_,_])).symm) ?_
  rw [u7 s hs]
  refine W05 ?_
  refine cS ?_
  generalize e5:dr s n y.2=o
  have hv:io s n 3 calls m=(⟨w.1.1,p1.1::y.1,w.1.2,[o.1],[],0⟩,o.2):=by simp [io,cm,cQ,e1,e3,e4,e5]
  rw [hv]
  repeat' (first|refine Ng ?_|refine NG a5 IG ?_|(apply bz;first|refine NJ a5 0 NC ?_|refine NJ a5 1 NC ?_|refine NJ a5 2 NC ?_|refine NJ a5 3 NC ?_|refine NK a5 0 NC ?_|refine NK a5 1 NC ?_|refine NK a5 2 NC ?_|refine NL a5 1 NA (by assumption) rfl ?_|refine NL a5 0 NA (by assumption) rfl ?_|fail)|(apply aI;first|refine NH a5 0 NE ?_|refine NH a5 1 NE ?_|refine NH a5 2 NE ?_|refine NH a5 3 NE ?_|fail)|refine bM a5 ?_|fail)
  exact bf (bL 2 (cs':=bI ⟨w.1.1,p1.1::y.1,w.1.2,[o.1],[],0⟩) rfl fun σ vs h=>mF.vrs (a:=[.imm 1 (b6 w.1.1),.vec q' 1 (b6 (p1.1::y.1)),.imm 1 (b6 w.1.2),.imm 1 (aW [o.1]),.vec none 2 [],aK 0]) (b:=bI ⟨w.1.1,p1.1::y.1,w.1.2,[o.1],[],0⟩) ⟨d7.refl _,d7.im,d7.refl _,d7.refl _,d7.im,d7.refl _,trivial⟩ h) (NU a5 2 [eC b s F o.2] NC (List.Sublist.cons_cons _ (List.nil_sublist _)) ⟨rfl,rfl⟩)
 have h4:kind=4:=by omega
 subst h4
 refine W1O ?_
 refine dM [.cell (rb,1,.vec (some (kb,1)) 1 (b6 [p1.1]))] 4 [(0,.v),(1,.k),(2,.v),(3,.f)] none ?_ trivial rfl (by kernel_rfl) (by kernel_rfl) (by kernel_rfl) bQ (by kernel_rfl) rfl
 refine W09 ?_
 refine eo a5 0 rfl rfl rfl (c5 1 rfl rfl ci) (by first | trivial | rfl) ?_
 refine W09 ?_
 refine tr (oR s hs F hF n hn h0 2 (by omega)) (c5 1 rfl rfl ci) ?_
 generalize e4:qS s n 2 w.2=y at hrow ⊢
 have hrl:=hrow.1
 unfold G8
 refine NP [0,2,6,7,50,52] IG ?_
 refine NS a5 _ NB (ff (A:=[_,_,_])) (by simp [gC s hs];omega) (by simp [gC s hs];omega) rfl fun q1=>?_
 refine aL (aQ (ff (A:=[_,_,_])).symm) ?_
 rw [u7 s hs]
 refine W05 ?_
 refine cS ?_
 have hc:=cH s hs y.2.a (n:=3) (by omega)
 have hc:0≤(dr s 3 y.2).1∧(dr s 3 y.2).1 < 3:=hc
 generalize e5:dr s 3 y.2=o at hc ⊢
 obtain ⟨k,hkk⟩:∃k:Nat,o.1=k:=⟨o.1.toNat,by omega⟩
 have hv:io s n 4 calls m=(⟨w.1.1,p1.1::y.1,w.1.2,[],(fM s (p1.1::y.1).length calls (if calls.length=0 then 0 else k) o.2).1,0⟩,(fM s (p1.1::y.1).length calls (if calls.length=0 then 0 else k) o.2).2):=by simp [io,cm,cQ,e1,e3,e4,e5,hkk]
 rw [hv,hkk]
 have hrw:(b6 (p1.1::y.1)).length=(p1.1::y.1).length:=gC s hs _
 have hrw2:(p1.1::y.1).length=y.1.length+1:=rfl
 have hcal:(aW calls).length=calls.length:=aJ _
 refine W03 ?_
 have hcon:∀i,(fM s (p1.1::y.1).length calls i o.2).1.length=i:=fun i=>y8 s hs _ calls o.2 i
 generalize hKK:(if calls.length=0 then 0 else k)=KK
 have hK:∀i:Nat,i < KK↔i < k∧0 < calls.length:=fun i=>by rw [←hKK];split <;> omega
 refine aM [0,2,6,7,12] (α:=Nat×Option (Nat×Nat)) (fun x=>[(13,aK x.1)]) (fun x=>x.1≤KK) (fun x=>[eC b s F (fM s (p1.1::y.1).length calls x.1 o.2).2,(rb,.box [.imm 1 (b6 w.1.1),.vec q1 1 (b6 (p1.1::y.1)),.imm 1 (b6 w.1.2),.vec none 1 [],.vec x.2 2 ((fM s (p1.1::y.1).length calls x.1 o.2).1.map fj),aK 0] 79),(tb,.box [bZ,bZ,bZ,bZ,bZ,aK 0] 79)]++(tok x.2 81 2 ((fM s (p1.1::y.1).length calls x.1 o.2).1.map fj).length++(tok q1 22 1 (b6 (p1.1::y.1)).length++[]))) (fun x=>KK - x.1) (0,none) rfl ⟨rfl,trivial⟩ (Nat.zero_le _) (fun _ _ h=>h) ?_
 rintro ⟨i,q⟩ hi
 dsimp only at hi ⊢
 have hol:=hcon i
 have hstep:fM s (p1.1::y.1).length calls (i+1) o.2=(cm (dr s (p1.1::y.1).length) fun a=>cm (dr s calls.length) fun z=>cQ ((fM s (p1.1::y.1).length calls i o.2).1++[(⟨a,calls.getD z.toNat 0⟩:jt)])) (fM s (p1.1::y.1).length calls i o.2).2:=rfl
 try dsimp only [Ns,Nr,Nq,Nk]
 refine W01 ?_
 by_cases hik:i < KK
 ·have hik2:=(hK i).1 hik
  rw [decide_eq_true (show ((i:Nat):Int) < (k:Int) by omega)]
  refine W0I ?_
  rw [decide_eq_true (show (0:Int) < (((aW calls).length:Nat):Int) by omega)]
  generalize fM s (p1.1::y.1).length calls i o.2=st at hol hstep ⊢
  have hoil:(st.1.map fj).length=st.1.length:=Nu ..
  repeat' (first|refine Ng ?_|refine ak ?_|refine bR rfl ?_)
  refine dM [.cell (rb,4,.vec q 2 (st.1.map fj))] 16 [(0,.v),(1,.k),(2,.v),(3,.v),(4,.l),(5,.v),(7,.v),(8,.v),(9,.v),(10,.v),(6,.f),(11,.f),(12,.v),(13,.v),(14,.v),(15,.v)] none ?_ trivial rfl (by kernel_rfl) (by kernel_rfl) (by kernel_rfl) bQ (by kernel_rfl) rfl
  refine W09 ?_
  refine eo a5 0 rfl rfl rfl (c5 1 rfl rfl ci) (by first | trivial | rfl) ?_
  refine W1D ?_
  rw [hrw]
  refine f8 (c5 1 rfl rfl ci) ?_
  unfold cm at hstep
  generalize dr s (p1.1::y.1).length st.2=g1 at hstep ⊢
  dsimp only at hstep
  repeat' (first|refine aD ?_|fail)
  rw [hcal]
  refine f8 (c5 1 rfl rfl ci) ?_
  have hg:=cH s hs g1.2.a (n:=calls.length) (by omega)
  have hg:0≤(dr s calls.length g1.2).1∧(dr s calls.length g1.2).1 < calls.length:=hg
  generalize dr s calls.length g1.2=g2 at hg hstep ⊢
  have hgl:(aW calls)[g2.1.toNat]?=some [aK (calls.getD g2.1.toNat 0)]:=bK (by rw [List.getD_eq_getElem?_getD,Nz (show g2.1.toNat < calls.length by omega)];rfl)
  dsimp only [cQ] at hstep
  refine W1o ?_
  refine NP [0,2,6,7,12,13,68,82] IG ?_
  refine NS a5 _ NB (ff (A:=[_,_,_])) (by simp;omega) (by simp;omega) rfl fun q'=>?_
  refine aL (aQ (ff (A:=[_,_,_])).symm) ?_
  refine W0f ?_
  exact aC (i+1,q') rfl ⟨by rw [Nv];rfl,trivial⟩ (by dsimp only;omega) (by dsimp only;omega) (fun _ _ h=>by dsimp only;rw [hstep];simpa [fx,fS,fj] using h)
 have hiK:i=KK:=by omega
 subst hiK
 generalize fM s (p1.1::y.1).length calls i o.2=st
 have hno:¬(i < k∧0 < calls.length):=fun h=>absurd ((hK i).2 h) (by omega)
 by_cases hik2:i < k
 ·rw [decide_eq_true (show ((i:Nat):Int) < (k:Int) by omega)]
  refine W0I ?_
  rw [decide_eq_false (show ¬(0:Int) < (((aW calls).length:Nat):Int) by omega)]
  repeat' (first|refine Ng ?_|(apply bz;first|refine NJ a5 0 NC ?_|refine NJ a5 1 NC ?_|refine NJ a5 2 NC ?_|refine NJ a5 3 NC ?_|refine NK a5 0 NC ?_|refine NK a5 1 NC ?_|refine NK a5 2 NC ?_|refine NL a5 1 NA (by assumption) rfl ?_|refine NL a5 0 NA (by assumption) rfl ?_|fail)|(apply aI;first|refine NH a5 0 NE ?_|refine NH a5 1 NE ?_|refine NH a5 2 NE ?_|refine NH a5 3 NE ?_|fail)|refine bJ rfl ?_)
  exact bf (bL 2 (cs':=bI ⟨w.1.1,p1.1::y.1,w.1.2,[],st.1,0⟩) rfl fun σ vs h=>mF.vrs (a:=[.imm 1 (b6 w.1.1),.vec q1 1 (b6 (p1.1::y.1)),.imm 1 (b6 w.1.2),.vec none 1 [],.vec q 2 (st.1.map fj),aK 0]) (b:=bI ⟨w.1.1,p1.1::y.1,w.1.2,[],st.1,0⟩) ⟨d7.refl _,d7.im,d7.refl _,d7.im,d7.im,d7.refl _,trivial⟩ h) (NU a5 2 [eC b s F st.2] NC (List.Sublist.cons_cons _ (List.nil_sublist _)) ⟨rfl,rfl⟩)
 ·rw [decide_eq_false (show ¬((i:Nat):Int) < (k:Int) by omega)]
  repeat' (first|refine Ng ?_|refine NG a5 IG ?_|refine NO NB ?_|(apply bz;first|refine NJ a5 0 NC ?_|refine NJ a5 1 NC ?_|refine NJ a5 2 NC ?_|refine NJ a5 3 NC ?_|refine NK a5 0 NC ?_|refine NK a5 1 NC ?_|refine NK a5 2 NC ?_|refine NL a5 1 NA (by assumption) rfl ?_|refine NL a5 0 NA (by assumption) rfl ?_|fail)|(apply aI;first|refine NH a5 0 NE ?_|refine NH a5 1 NE ?_|refine NH a5 2 NE ?_|refine NH a5 3 NE ?_|fail)|refine bJ rfl ?_)
  exact bf (bL 2 (cs':=bI ⟨w.1.1,p1.1::y.1,w.1.2,[],st.1,0⟩) rfl fun σ vs h=>mF.vrs (a:=[.imm 1 (b6 w.1.1),.vec q1 1 (b6 (p1.1::y.1)),.imm 1 (b6 w.1.2),.vec none 1 [],.vec q 2 (st.1.map fj),aK 0]) (b:=bI ⟨w.1.1,p1.1::y.1,w.1.2,[],st.1,0⟩) ⟨d7.refl _,d7.im,d7.refl _,d7.im,d7.im,d7.refl _,trivial⟩ h) (NU a5 2 [eC b s F st.2] NC (List.Sublist.cons_cons _ (List.nil_sublist _)) ⟨rfl,rfl⟩)
end
section
attribute [local irreducible] AT bP AX AO Av Kt bb dh DA cG
def fZ (i j:Nat) (l:aY):List AV:=[aK l.Kind,dy l.Ignore,if j < i then .imm 6 (l.Rules.map bI) else bZ]
def fc (i:Nat):Nat→List aY→List AV
 | _,[]=>[]
 | k,l::r=>fZ i k l++fc i (k+1) r
theorem Fp (i:Nat):∀(l:List aY) (k:Nat),(fc i k l).length=l.length * 3
 | [],k=>rfl
 | x::l,k=>by
  rw [fc,List.length_append,Fp i l (k+1),List.length_cons,Nat.add_mul]
  simp [fZ]
  omega
theorem uQ (i:Nat):∀(l:List aY) (k j c:Nat),c < 3→(fc i k l)[j * 3+c]?=(l[j]?).bind fun x=>(fZ i (k+j) x)[c]?
 | [],k,j,c,_=>by simp [fc]
 | x::l,k,0,c,hc=>by
  rw [fc,List.getElem?_append_left (by simp [fZ];omega)]
  simp
 | x::l,k,j+1,c,hc=>by
  rw [fc,List.getElem?_append_right (by simp [fZ];omega)]
  have h1:(j+1) * 3+c - (fZ i k x).length=j * 3+c:=by simp [fZ];omega
  rw [h1,uQ i l (k+1) j c hc,List.getElem?_cons_succ]
  rw [show k+1+j=k+(j+1) by omega]
theorem Ay (i:Nat):∀(l:List aY) (k:Nat) (x:aY),fc i k (l++[x])=fc i k l++fZ i (k+l.length) x
 | [],k,x=>by simp [fc]
 | y::l,k,x=>by
  rw [Ns,fc,Ay i l (k+1) x,fc,List.append_assoc,List.length_cons,show k+1+l.length=k+(l.length+1) by omega]
theorem Fq {i:Nat} {l:List aY} {q:aY} {rs:List bk} (hq:l[i]?=some q):(fc i 0 l).set (i * 3+2) (.imm 6 (rs.map bI))=fc (i+1) 0 (l.set i { q with Rules:=rs }):=by
 have hil:=(Np hq).1
 apply List.ext_getElem?
 intro p
 obtain ⟨j,c,hc,rfl⟩:∃j c,c < 3∧p=j * 3+c:=⟨p / 3,p % 3,Nat.mod_lt _ (by omega),by omega⟩
 rw [uQ _ _ _ _ _ hc]
 by_cases e:i * 3+2=j * 3+c
 ·have hj:j=i:=by omega
  have hc2:c=2:=by omega
  subst hj;subst hc2
  rw [List.getElem?_set_self (by rw [Fp];omega),List.getElem?_set_self hil]
  simp [fZ]
 ·rw [List.getElem?_set_ne e,uQ _ _ _ _ _ hc]
  by_cases hj:i=j
  ·subst hj
   rw [hq,List.getElem?_set_self hil]
   have hc2:c=0∨c=1:=by omega
   rcases hc2 with rfl | rfl <;> rfl
  ·rw [List.getElem?_set_ne hj]
   cases l[j]? with
   | none=>rfl
   | some x=>
    simp only [Option.bind_some,Nat.zero_add]
    have hc3:c=0∨c=1∨c=2:=by omega
    rcases hc3 with rfl | rfl | rfl
    ·rfl
    ·rfl
    ·simp only [fZ]
     by_cases hlt:j < i
     ·rw [if_pos hlt,if_pos (by omega)]
     ·rw [if_neg hlt,if_neg (by omega)]
theorem HU {i:Nat} {l:List aY} {q:aY} (hq:l[i]?=some q) (h0:q.Rules=[]):(fc i 0 l).set (i * 3+2) (.imm 6 [])=fc (i+1) 0 l:=by
 have:=Fq (rs:=[]) hq
 rw [show l.set i { q with Rules:=[] }=l from ?_] at this
 ·exact this
 ·have:({ q with Rules:=[] }:aY)=q:=by cases q;simp at h0;simp [h0]
  rw [this]
  apply List.ext_getElem?
  intro j
  by_cases e:i=j
  ·subst e;rw [List.getElem?_set_self (Np hq).1,hq]
  ·rw [List.getElem?_set_ne e]
theorem Fo:∀(l:List aY) (i k:Nat),k+l.length≤i→fc i k l=(l.map br).flatten
 | [],i,k,_=>rfl
 | x::l,i,k,h=>by
  simp only [List.length_cons] at h
  rw [fc,Fo l i (k+1) (by omega),Nq,List.flatten_cons]
  congr 1
  simp only [fZ]
  rw [if_pos (by omega)]
  rfl
def Ct (i:Nat):Option (Nat×List AV×Nat)→AV
 | none=>bZ
 | some (b,_,cap)=> .sc (.slice (some ⟨b,0,none⟩) i cap)
def Fl:Option (Nat×List AV×Nat)→AL
 | none=>[]
 | some (b,cs,_)=>[(b,.box cs 59)]
def Ax (n i:Nat) (l:List aY):Option (Nat×List AV×Nat)→Prop
 | none=>n=0
 | some (_,cs,cap)=>cs.length=cap * 3∧n≤cap∧cap≤maxLen∧cs.take (n * 3)=fc i 0 l
end
end Go.Proofs.YtpmdfoaadejmkaaGreatDoor
