/-
  The maker: rules.
-/
import Derived.Test.YtamjlkdanllgjaaGreatDoorM19
import Derived.Test.YtamjlkdanllgjaaGreatDoorM11
namespace Go.Proofs.YtamjlkdanllgjaaGreatDoor
open Go.RowKit
attribute [local irreducible] AT bB AX AO Av Kt ba dt DA cz
set_option maxRecDepth 8000
variable (s:List Int) (hs:s.length≤1000000) (F:MF)
include hs
def GC (r:bz):AV:= .agg (bG r)
def L4 (rb:Nat) (b0 b1 b2 b3 b4:AV) (x:Int):Nat×AB:=(rb,.box [b0,b1,b2,b3,b4,aH x] 73)
theorem sQ (a:List Int) (l:List (List Int)):aZ [a]++aZ l=aZ (a::l):=by
 have _:=hs
 clear hs
 rfl
theorem vu (n:Int) (m:MS) (k:Nat):(g9 s n k m).1.length=k:=by
 have _:=hs
 clear hs
 induction k with
 | zero=>rfl
 | succ k ih=>
  have:g9 s n (k+1) m=((g9 s n k m).1++[(dr s n (g9 s n k m).2).1],(dr s n (g9 s n k m).2).2):=rfl
  rw [this]
  simp [ih]
theorem wr (nn:Int) (calls:List Int) (m:MS) (k:Nat):(ff s nn calls k m).1.length=k:=by
 have _:=hs
 clear hs
 induction k with
 | zero=>rfl
 | succ i ih=>
  have:ff s nn calls (i+1) m=(bZ (dr s nn) fun a=>bZ (dr s calls.length) fun z=>cx ((ff s nn calls i m).1++[(⟨a,calls.getD z.toNat 0⟩:j9)])) (ff s nn calls i m).2:=rfl
  rw [this]
  simp [bZ,cx,ih]
set_option maxHeartbeats 16000000 in
theorem AH {kg:Option (Nat×Nat)} {gl:List (List AV)} (hF:F.gl= .vec kg 9 gl) (n:Nat) (hn:gl.length=n) (h0:0 < n∧n≤1000) (kind:Int) (hk:1≤kind∧kind≤6) (calls:List Int) (hcl:calls.length≤1000):rD 83 [aH kind,.imm 1 (aO calls)] s F (gx s n kind calls) GC:=by
 intro b m
 refine aP Tryz.func83 rfl Tryz.ntmps83 rfl fun B=>?_
 repeat' (first|refine ae ?_|refine a6 ?_|refine a8 ?_|refine aa ?_|refine LF a7 I9 ?_|(apply bL;first|refine LI a7 0 LC ?_|refine LI a7 1 LC ?_|refine LI a7 2 LC ?_|refine LI a7 3 LC ?_|refine LJ a7 0 LC ?_|refine LJ a7 1 LC ?_|refine LJ a7 2 LC ?_|refine LL a7 1 LA (by assumption) rfl ?_|refine LL a7 0 LA (by assumption) rfl ?_|fail)|refine bg a7 fun _=>?_|fail)
 rw [hF]
 repeat' (first|refine ae ?_|refine a6 ?_|refine a8 ?_|refine aa ?_|refine LF a7 I9 ?_)
 rw [hn]
 rename_i tb rb
 refine aS (aR (L':=[dU b s F m,(rb,.box [bQ,bQ,bQ,bQ,bQ,aH 0] 73),(tb,.box [bQ,bQ,bQ,bQ,bQ,aH 0] 73)]) (List.perm_append_comm (l₁:=[_,_]))) ?_
 refine vm (rf s hs F hF n hn h0) ?_
 have ha:=pv s (n:=n) (by omega) m
 generalize e1:nc s n m=p1 at ha ⊢
 have haf:=ha.few
 unfold FF
 repeat' (first|refine ae ?_|refine a6 ?_|refine a8 ?_|refine aa ?_|refine LF a7 I9 ?_|(apply aK;first|refine LG a7 0 LD ?_|refine LG a7 1 LD ?_|refine LG a7 2 LD ?_|refine LG a7 3 LD ?_|fail)|refine vk (d:=22) a7 fun _=>?_|fail)
 rename_i kb
 refine bK (aR (L':=[dU b s F p1.2,(rb,.box [bQ,.vec (some (kb,1)) 1 (aZ [p1.1]),bQ,bQ,bQ,aH 0] 73),(tb,.box [bQ,bQ,bQ,bQ,bQ,aH 0] 73)]++(tok (some (kb,1)) 22 1 1++[])) (List.perm_append_comm (l₁:=[_]))) ?_
 repeat' (first|fail)
 refine ay rfl (fun h6=>?_) (fun h6=>?_)
 ·have h6:=Ly h6
  subst h6
  repeat' (first|refine ae ?_)
  refine dv [.cell (rb,1,.vec (some (kb,1)) 1 (aZ [p1.1]))] 5 [(0,.v),(1,.k),(2,.v),(3,.f),(4,.v)] none ?_ trivial rfl (by kernel_rfl) (by kernel_rfl) (by kernel_rfl) mixed (by kernel_rfl) rfl
  repeat' (first|refine aF ?_|refine b9 a7 ?_|fail)
  refine dH a7 0 rfl rfl rfl (bJ 1 rfl rfl bW) (by first | trivial | rfl) ?_
  repeat' (first|refine aF ?_|refine b9 a7 ?_|fail)
  refine s7 (rf s hs F hF n hn h0) (bJ 1 rfl rfl bW) ?_
  generalize e2:nc s n p1.2=p2
  unfold FF
  repeat' (first|refine aF ?_|refine dX a7 ?_|fail)
  refine LP [0,6,7,27,30] I9 ?_
  repeat' (first|fail)
  refine bP a7 _ rfl rfl rfl rfl (eL (A:=[_,_,_])) (by simp [fM s hs]) (by simp [fM s hs]) rfl fun q'=>?_
  refine aS (aR (eL (A:=[_,_,_])).symm) ?_
  repeat' (first|refine ae ?_|refine a6 ?_|refine a8 ?_|refine aa ?_|refine LF a7 I9 ?_|(apply aK;first|refine LG a7 0 LD ?_|refine LG a7 1 LD ?_|refine LG a7 2 LD ?_|refine LG a7 3 LD ?_|fail))
  refine cy ?_
  have hx:=ck s hs p2.2.a (n:=41) (by omega)
  have hx:0≤(dr s 41 p2.2).1∧(dr s 41 p2.2).1 < 41:=hx
  generalize e3:dr s 41 p2.2=p3 at hx ⊢
  repeat' (first|refine ae ?_|refine a6 ?_|refine aq ?_|refine a8 ?_|refine aC ?_|refine aa ?_|refine LF a7 I9 ?_|(apply bL;first|refine LI a7 0 LC ?_|refine LI a7 1 LC ?_|refine LI a7 2 LC ?_|refine LI a7 3 LC ?_|refine LJ a7 0 LC ?_|refine LJ a7 1 LC ?_|refine LJ a7 2 LC ?_|refine LL a7 1 LA (by assumption) rfl ?_|refine LL a7 0 LA (by assumption) rfl ?_|fail)|(apply aY;refine aX ?_)|(apply aK;first|refine LG a7 0 LD ?_|refine LG a7 1 LD ?_|refine LG a7 2 LD ?_|refine LG a7 3 LD ?_|fail))
  have hv:gx s n 6 calls m=(⟨[],[p1.1,p2.1],[],[],[],p3.1 * 10 - 200⟩,p3.2):=by simp [gx,Gy,bZ,cx,e1,e2,e3]
  rw [hv]
  refine b6 (bq 2 (cs':=bG ⟨[],[p1.1,p2.1],[],[],[],p3.1 * 10 - 200⟩) rfl fun σ vs h=>ld.vrs (a:=[bQ,.vec q' 1 (aZ [p1.1,p2.1]),bQ,bQ,bQ,aH (p3.1 * 10 - 200)]) (b:=bG ⟨[],[p1.1,p2.1],[],[],[],p3.1 * 10 - 200⟩) ⟨cF.nil 1,cF.im,cF.nil 1,cF.nil 1,cF.nil 2,cF.refl _,trivial⟩ h) (ic a7 2 [dU b s F p3.2] rfl rfl rfl rfl rfl (List.Sublist.cons_cons _ (List.nil_sublist _)) ⟨rfl,rfl⟩)
 have h6:=Lw h6
 refine bK (bq 1 (cs':=[.imm 1 [],.vec (some (kb,1)) 1 (aZ [p1.1]),.imm 1 [],.vec none 1 [],.vec none 2 [],aH 0]) rfl fun σ vs h=>ld.vrs (a:=[bQ,.vec (some (kb,1)) 1 (aZ [p1.1]),bQ,bQ,bQ,aH 0]) (b:=[.imm 1 [],.vec (some (kb,1)) 1 (aZ [p1.1]),.imm 1 [],.vec none 1 [],.vec none 2 [],aH 0]) ⟨cF.nil 1,cF.refl _,cF.nil 1,cF.vecN 1,cF.vecN 2,cF.refl _,trivial⟩ h) ?_
 repeat' (first|refine ae ?_|refine a6 ?_|refine au ?_|refine a8 ?_|refine LF a7 I9 ?_)
 refine cy ?_
 generalize e2:dr s 2 p1.2=z
 repeat' (first|refine a8 ?_|refine aa ?_|refine LF a7 I9 ?_)
 refine td [0,1,2,6,7,8] ([dU b s F (j7 s n p1.2).2,(rb,.box [.imm 1 (aZ (j7 s n p1.2).1.1),.vec (some (kb,1)) 1 (aZ [p1.1]),.imm 1 (aZ (j7 s n p1.2).1.2),.vec none 1 [],.vec none 2 [],aH 0] 73),(tb,.box [bQ,bQ,bQ,bQ,bQ,aH 0] 73)]++(tok (some (kb,1)) 22 1 1++[])) rfl (fun Q' K=>?_) ?_
 ·refine ay rfl (fun hz=>?_) (fun hz=>?_)
  ·have hz:=Ly hz
   repeat' (first|refine ae ?_|refine a6 ?_|refine LF a7 I9 ?_)
   refine vm (na s hs F hF n hn h0 2 (by omega)) ?_
   generalize e3:pf s n 2 z.2=y1
   unfold Ds
   repeat' (first|refine a6 ?_|refine a8 ?_|refine aa ?_|refine LF a7 I9 ?_|(apply aK;first|refine LG a7 0 LD ?_|refine LG a7 1 LD ?_|refine LG a7 2 LD ?_|refine LG a7 3 LD ?_|fail))
   refine vm (na s hs F hF n hn h0 2 (by omega)) ?_
   generalize e4:pf s n 2 y1.2=y2
   unfold Ds
   repeat' (first|refine aa ?_|refine LF a7 I9 ?_|(apply aK;first|refine LG a7 0 LD ?_|refine LG a7 1 LD ?_|refine LG a7 2 LD ?_|refine LG a7 3 LD ?_|fail))
   have hv:j7 s n p1.2=((y1.1,y2.1),y2.2):=by simp [j7,bZ,cx,e2,e3,e4,hz]
   rw [hv] at K
   exact K _ rfl
  ·have hz:=Lw hz
   repeat' (first|refine au ?_)
   have hv:j7 s n p1.2=(([],[]),z.2):=by simp [j7,bZ,cx,e2,hz]
   rw [hv] at K
   exact K _ rfl
 generalize e3:j7 s n p1.2=w
 have ha0:(aZ [p1.1])[0]?=some [.imm 1 (aO p1.1)]:=rfl
 have hial:(aO p1.1).length=p1.1.length:=aW _
 by_cases h15:kind=1∨kind=5
 ·have hv:gx s n kind calls m=(⟨w.1.1,[p1.1],w.1.2,(g9 s n p1.1.length w.2).1,[],0⟩,(g9 s n p1.1.length w.2).2):=by simp [gx,bZ,cx,e1,e3,h6,h15]
  rw [hv]
  rcases h15 with rfl | rfl
  all_goals
   repeat' (first|refine ae ?_|refine a6 ?_|refine am ?_|refine au ?_|refine a8 ?_|refine aa ?_|refine LF a7 I9 ?_|refine bV rfl ?_|refine bk rfl ?_)
   refine aJ [0,6,7,8] (α:=Nat×Option (Nat×Nat)) (fun x=>[(9,aH x.1)]) (fun x=>x.1≤p1.1.length) (fun x=>[dU b s F (g9 s n x.1 w.2).2,(rb,.box [.imm 1 (aZ w.1.1),.vec (some (kb,1)) 1 (aZ [p1.1]),.imm 1 (aZ w.1.2),.vec x.2 1 (aO (g9 s n x.1 w.2).1),.vec none 2 [],aH 0] 73),(tb,.box [bQ,bQ,bQ,bQ,bQ,aH 0] 73)]++(tok x.2 3 1 (aO (g9 s n x.1 w.2).1).length++(tok (some (kb,1)) 22 1 1++[]))) (fun x=>p1.1.length - x.1) (0,none) rfl ⟨rfl,trivial⟩ (Nat.zero_le _) (fun _ _ h=>h) ?_
   rintro ⟨i,q⟩ hi
   dsimp only at hi ⊢
   have hol:=vu s hs n w.2 i
   have hstep:g9 s n (i+1) w.2=((g9 s n i w.2).1++[(dr s n (g9 s n i w.2).2).1],(dr s n (g9 s n i w.2).2).2):=rfl
   try dsimp only [Lp,Lo,Ln,Lh]
   repeat' (first|refine ae ?_|refine a6 ?_|refine a8 ?_|refine aa ?_|refine LF a7 I9 ?_|(apply bL;first|refine LI a7 0 LC ?_|refine LI a7 1 LC ?_|refine LI a7 2 LC ?_|refine LI a7 3 LC ?_|refine LJ a7 0 LC ?_|refine LJ a7 1 LC ?_|refine LJ a7 2 LC ?_|refine LL a7 1 LA (by assumption) rfl ?_|refine LL a7 0 LA (by assumption) rfl ?_|fail)|(apply aU;first|refine aT a7 ?_|refine aN a7 ?_)|fail)
   refine ay rfl (fun h=>?_) (fun h=>?_)
   ·have hil:i < p1.1.length:=by have:=Ly h;omega
    generalize g9 s n i w.2=st at hol hstep ⊢
    have hoil:(aO st.1).length=st.1.length:=aW _
    repeat' (first|refine ae ?_|refine am ?_|refine au ?_|refine a8 ?_)
    refine dv [.cell (rb,3,.vec q 1 (aO st.1))] 6 [(0,.v),(1,.k),(2,.v),(3,.v),(4,.f),(5,.v)] none ?_ trivial rfl (by kernel_rfl) (by kernel_rfl) (by kernel_rfl) mixed (by kernel_rfl) rfl
    repeat' (first|refine aF ?_|refine b9 a7 ?_|fail)
    refine dH a7 0 rfl rfl rfl (bJ 1 rfl rfl bW) (by first | trivial | rfl) ?_
    repeat' (first|refine aF ?_|refine b9 a7 ?_|fail)
    refine eJ (bJ 1 rfl rfl bW) ?_
    generalize dr s n st.2=o at hstep ⊢
    repeat' (first|refine aF ?_|refine dX a7 ?_|fail)
    refine LP [0,6,7,8,9,98,102] I9 ?_
    repeat' (first|fail)
    refine bP a7 _ rfl rfl rfl rfl (eL (A:=[_,_,_])) (by simp [aW];omega) (by simp [aW];omega) rfl fun q'=>?_
    refine aS (aR (eL (A:=[_,_,_])).symm) ?_
    repeat' (first|refine a6 ?_|refine a8 ?_|refine aM ?_|refine aa ?_|refine LF a7 I9 ?_|(apply aY;refine aX ?_)|(apply aK;first|refine LG a7 0 LD ?_|refine LG a7 1 LD ?_|refine LG a7 2 LD ?_|refine LG a7 3 LD ?_|fail))
    exact aE (i+1,q') rfl ⟨by rw [Ls];rfl,trivial⟩ (by dsimp only;omega) (by dsimp only;omega) (fun _ _ h=>by dsimp only;rw [hstep];simpa [fJ,eN,aO] using h)
   have hil:i=p1.1.length:=by have:=Lw h;omega
   subst hil
   generalize g9 s n p1.1.length w.2=st
   repeat' (first|refine ae ?_|refine a6 ?_|refine aq ?_|refine aL ?_|refine a8 ?_|refine av ?_|refine aM ?_|refine aA ?_|refine aw ?_|refine aa ?_|(apply bL;first|refine LI a7 0 LC ?_|refine LI a7 1 LC ?_|refine LI a7 2 LC ?_|refine LI a7 3 LC ?_|refine LJ a7 0 LC ?_|refine LJ a7 1 LC ?_|refine LJ a7 2 LC ?_|refine LL a7 1 LA (by assumption) rfl ?_|refine LL a7 0 LA (by assumption) rfl ?_|fail)|(apply aK;first|refine LG a7 0 LD ?_|refine LG a7 1 LD ?_|refine LG a7 2 LD ?_|refine LG a7 3 LD ?_|fail))
   exact b6 (bq 2 (cs':=bG ⟨w.1.1,[p1.1],w.1.2,st.1,[],0⟩) rfl fun σ vs h=>ld.vrs (a:=[.imm 1 (aZ w.1.1),.vec (some (kb,1)) 1 (aZ [p1.1]),.imm 1 (aZ w.1.2),.vec q 1 (aO st.1),.vec none 2 [],aH 0]) (b:=bG ⟨w.1.1,[p1.1],w.1.2,st.1,[],0⟩) ⟨cF.refl _,cF.im,cF.refl _,cF.im,cF.im,cF.refl _,trivial⟩ h) (ic a7 2 [dU b s F st.2] rfl rfl rfl rfl rfl (List.Sublist.cons_cons _ (List.nil_sublist _)) ⟨rfl,rfl⟩)
 by_cases h2:kind=2
 ·subst h2
  repeat' (first|refine ae ?_|refine a6 ?_|refine am ?_|refine a8 ?_|refine aa ?_|refine LF a7 I9 ?_|refine bV rfl ?_|refine bk rfl ?_)
  refine cy ?_
  have hc:=ck s hs w.2.a (n:=4) (by omega)
  have hc:0≤(dr s 4 w.2).1∧(dr s 4 w.2).1 < 4:=hc
  generalize e4:dr s 4 w.2=y at hc ⊢
  obtain ⟨k,hkk⟩:∃k:Nat,y.1=k:=⟨y.1.toNat,by omega⟩
  have hv:gx s n 2 calls m=(⟨w.1.1,[p1.1],w.1.2,(g9 s n k y.2).1,[],0⟩,(g9 s n k y.2).2):=by simp [gx,bZ,cx,e1,e3,e4,hkk]
  rw [hv,hkk]
  repeat' (first|refine ae ?_|refine a6 ?_|refine am ?_|refine a8 ?_|refine aa ?_|refine LF a7 I9 ?_)
  refine aJ [0,6,7,8,10] (α:=Nat×Option (Nat×Nat)) (fun x=>[(11,aH x.1)]) (fun x=>x.1≤k) (fun x=>[dU b s F (g9 s n x.1 y.2).2,(rb,.box [.imm 1 (aZ w.1.1),.vec (some (kb,1)) 1 (aZ [p1.1]),.imm 1 (aZ w.1.2),.vec x.2 1 (aO (g9 s n x.1 y.2).1),.vec none 2 [],aH 0] 73),(tb,.box [bQ,bQ,bQ,bQ,bQ,aH 0] 73)]++(tok x.2 3 1 (aO (g9 s n x.1 y.2).1).length++(tok (some (kb,1)) 22 1 1++[]))) (fun x=>k - x.1) (0,none) rfl ⟨rfl,trivial⟩ (Nat.zero_le _) (fun _ _ h=>h) ?_
  rintro ⟨i,q⟩ hi
  dsimp only at hi ⊢
  have hol:=vu s hs n y.2 i
  have hstep:g9 s n (i+1) y.2=((g9 s n i y.2).1++[(dr s n (g9 s n i y.2).2).1],(dr s n (g9 s n i y.2).2).2):=rfl
  try dsimp only [Lp,Lo,Ln,Lh]
  repeat' (first|refine ae ?_|refine a6 ?_|refine a8 ?_|refine aa ?_|refine LF a7 I9 ?_)
  refine ay rfl (fun h=>?_) (fun h=>?_)
  ·have hil:i < k:=by have:=Ly h;omega
   generalize g9 s n i y.2=st at hol hstep ⊢
   have hoil:(aO st.1).length=st.1.length:=aW _
   repeat' (first|refine ae ?_|refine am ?_|refine au ?_|refine a8 ?_)
   refine dv [.cell (rb,3,.vec q 1 (aO st.1))] 6 [(0,.v),(1,.k),(2,.v),(3,.v),(4,.f),(5,.v)] none ?_ trivial rfl (by kernel_rfl) (by kernel_rfl) (by kernel_rfl) mixed (by kernel_rfl) rfl
   repeat' (first|refine aF ?_|refine b9 a7 ?_|fail)
   refine dH a7 0 rfl rfl rfl (bJ 1 rfl rfl bW) (by first | trivial | rfl) ?_
   repeat' (first|refine aF ?_|refine b9 a7 ?_|fail)
   refine eJ (bJ 1 rfl rfl bW) ?_
   generalize dr s n st.2=o at hstep ⊢
   repeat' (first|refine aF ?_|refine dX a7 ?_|fail)
   refine LP [0,6,7,8,10,11,115,119] I9 ?_
   repeat' (first|fail)
   refine bP a7 _ rfl rfl rfl rfl (eL (A:=[_,_,_])) (by simp [aW];omega) (by simp [aW];omega) rfl fun q'=>?_
   refine aS (aR (eL (A:=[_,_,_])).symm) ?_
   repeat' (first|refine a6 ?_|refine a8 ?_|refine aM ?_|refine aa ?_|refine LF a7 I9 ?_|(apply aY;refine aX ?_)|(apply aK;first|refine LG a7 0 LD ?_|refine LG a7 1 LD ?_|refine LG a7 2 LD ?_|refine LG a7 3 LD ?_|fail))
   exact aE (i+1,q') rfl ⟨by rw [Ls];rfl,trivial⟩ (by dsimp only;omega) (by dsimp only;omega) (fun _ _ h=>by dsimp only;rw [hstep];simpa [fJ,eN,aO] using h)
  have hil:i=k:=by have:=Lw h;omega
  subst hil
  generalize g9 s n i y.2=st
  repeat' (first|refine ae ?_|refine a6 ?_|refine aq ?_|refine aL ?_|refine a8 ?_|refine av ?_|refine aM ?_|refine aA ?_|refine aw ?_|refine aa ?_|(apply bL;first|refine LI a7 0 LC ?_|refine LI a7 1 LC ?_|refine LI a7 2 LC ?_|refine LI a7 3 LC ?_|refine LJ a7 0 LC ?_|refine LJ a7 1 LC ?_|refine LJ a7 2 LC ?_|refine LL a7 1 LA (by assumption) rfl ?_|refine LL a7 0 LA (by assumption) rfl ?_|fail)|(apply aK;first|refine LG a7 0 LD ?_|refine LG a7 1 LD ?_|refine LG a7 2 LD ?_|refine LG a7 3 LD ?_|fail))
  exact b6 (bq 2 (cs':=bG ⟨w.1.1,[p1.1],w.1.2,st.1,[],0⟩) rfl fun σ vs h=>ld.vrs (a:=[.imm 1 (aZ w.1.1),.vec (some (kb,1)) 1 (aZ [p1.1]),.imm 1 (aZ w.1.2),.vec q 1 (aO st.1),.vec none 2 [],aH 0]) (b:=bG ⟨w.1.1,[p1.1],w.1.2,st.1,[],0⟩) ⟨cF.refl _,cF.im,cF.refl _,cF.im,cF.im,cF.refl _,trivial⟩ h) (ic a7 2 [dU b s F st.2] rfl rfl rfl rfl rfl (List.Sublist.cons_cons _ (List.nil_sublist _)) ⟨rfl,rfl⟩)
 have hrow:=n8 s (n:=n) (by omega) w.2
 by_cases h3:kind=3
 ·subst h3
  repeat' (first|refine ae ?_|refine a6 ?_|refine am ?_|refine a8 ?_|refine aa ?_|refine LF a7 I9 ?_|refine bV rfl ?_|refine bk rfl ?_)
  refine dv [.cell (rb,1,.vec (some (kb,1)) 1 (aZ [p1.1]))] 4 [(0,.v),(1,.k),(2,.v),(3,.f)] none ?_ trivial rfl (by kernel_rfl) (by kernel_rfl) (by kernel_rfl) mixed (by kernel_rfl) rfl
  repeat' (first|refine aF ?_|refine b9 a7 ?_|fail)
  refine dH a7 0 rfl rfl rfl (bJ 1 rfl rfl bW) (by first | trivial | rfl) ?_
  repeat' (first|refine aF ?_|refine b9 a7 ?_|fail)
  refine s7 (na s hs F hF n hn h0 2 (by omega)) (bJ 1 rfl rfl bW) ?_
  generalize e4:pf s n 2 w.2=y at hrow ⊢
  have hrl:=hrow.1
  unfold Ds
  repeat' (first|fail)
  refine LP [0,6,7,8,125,127] I9 ?_
  repeat' (first|fail)
  refine bP a7 _ rfl rfl rfl rfl (eL (A:=[_,_,_])) (by simp [fM s hs];omega) (by simp [fM s hs];omega) rfl fun q'=>?_
  refine aS (aR (eL (A:=[_,_,_])).symm) ?_
  rw [sQ s hs]
  repeat' (first|refine a6 ?_|refine a8 ?_|refine aa ?_|refine LF a7 I9 ?_|(apply aK;first|refine LG a7 0 LD ?_|refine LG a7 1 LD ?_|refine LG a7 2 LD ?_|refine LG a7 3 LD ?_|fail))
  refine cy ?_
  generalize e5:dr s n y.2=o
  have hv:gx s n 3 calls m=(⟨w.1.1,p1.1::y.1,w.1.2,[o.1],[],0⟩,o.2):=by simp [gx,bZ,cx,e1,e3,e4,e5]
  rw [hv]
  repeat' (first|refine ae ?_|refine a6 ?_|refine aq ?_|refine a8 ?_|refine aM ?_|refine aa ?_|refine LF a7 I9 ?_|(apply bL;first|refine LI a7 0 LC ?_|refine LI a7 1 LC ?_|refine LI a7 2 LC ?_|refine LI a7 3 LC ?_|refine LJ a7 0 LC ?_|refine LJ a7 1 LC ?_|refine LJ a7 2 LC ?_|refine LL a7 1 LA (by assumption) rfl ?_|refine LL a7 0 LA (by assumption) rfl ?_|fail)|(apply aK;first|refine LG a7 0 LD ?_|refine LG a7 1 LD ?_|refine LG a7 2 LD ?_|refine LG a7 3 LD ?_|fail)|refine bS a7 ?_|fail)
  exact b6 (bq 2 (cs':=bG ⟨w.1.1,p1.1::y.1,w.1.2,[o.1],[],0⟩) rfl fun σ vs h=>ld.vrs (a:=[.imm 1 (aZ w.1.1),.vec q' 1 (aZ (p1.1::y.1)),.imm 1 (aZ w.1.2),.imm 1 (aO [o.1]),.vec none 2 [],aH 0]) (b:=bG ⟨w.1.1,p1.1::y.1,w.1.2,[o.1],[],0⟩) ⟨cF.refl _,cF.im,cF.refl _,cF.refl _,cF.im,cF.refl _,trivial⟩ h) (ic a7 2 [dU b s F o.2] rfl rfl rfl rfl rfl (List.Sublist.cons_cons _ (List.nil_sublist _)) ⟨rfl,rfl⟩)
 have h4:kind=4:=by omega
 subst h4
 repeat' (first|refine ae ?_|refine a6 ?_|refine am ?_|refine a8 ?_|refine aa ?_|refine LF a7 I9 ?_|refine bk rfl ?_)
 refine dv [.cell (rb,1,.vec (some (kb,1)) 1 (aZ [p1.1]))] 4 [(0,.v),(1,.k),(2,.v),(3,.f)] none ?_ trivial rfl (by kernel_rfl) (by kernel_rfl) (by kernel_rfl) mixed (by kernel_rfl) rfl
 repeat' (first|refine aF ?_|refine b9 a7 ?_|fail)
 refine dH a7 0 rfl rfl rfl (bJ 1 rfl rfl bW) (by first | trivial | rfl) ?_
 repeat' (first|refine aF ?_|refine b9 a7 ?_|fail)
 refine s7 (na s hs F hF n hn h0 2 (by omega)) (bJ 1 rfl rfl bW) ?_
 generalize e4:pf s n 2 w.2=y at hrow ⊢
 have hrl:=hrow.1
 unfold Ds
 repeat' (first|fail)
 refine LP [0,2,6,7,50,52] I9 ?_
 repeat' (first|fail)
 refine bP a7 _ rfl rfl rfl rfl (eL (A:=[_,_,_])) (by simp [fM s hs];omega) (by simp [fM s hs];omega) rfl fun q1=>?_
 refine aS (aR (eL (A:=[_,_,_])).symm) ?_
 rw [sQ s hs]
 repeat' (first|refine ae ?_|refine a6 ?_|refine a8 ?_|refine aa ?_|refine LF a7 I9 ?_|(apply aK;first|refine LG a7 0 LD ?_|refine LG a7 1 LD ?_|refine LG a7 2 LD ?_|refine LG a7 3 LD ?_|fail))
 refine cy ?_
 have hc:=ck s hs y.2.a (n:=3) (by omega)
 have hc:0≤(dr s 3 y.2).1∧(dr s 3 y.2).1 < 3:=hc
 generalize e5:dr s 3 y.2=o at hc ⊢
 obtain ⟨k,hkk⟩:∃k:Nat,o.1=k:=⟨o.1.toNat,by omega⟩
 have hv:gx s n 4 calls m=(⟨w.1.1,p1.1::y.1,w.1.2,[],(ff s (p1.1::y.1).length calls (if calls.length=0 then 0 else k) o.2).1,0⟩,(ff s (p1.1::y.1).length calls (if calls.length=0 then 0 else k) o.2).2):=by simp [gx,bZ,cx,e1,e3,e4,e5,hkk]
 rw [hv,hkk]
 have hrw:(aZ (p1.1::y.1)).length=(p1.1::y.1).length:=fM s hs _
 have hrw2:(p1.1::y.1).length=y.1.length+1:=rfl
 have hcal:(aO calls).length=calls.length:=aW _
 repeat' (first|refine ae ?_|refine a6 ?_|refine am ?_|refine a8 ?_|refine aa ?_|refine LF a7 I9 ?_)
 have hcon:∀i,(ff s (p1.1::y.1).length calls i o.2).1.length=i:=fun i=>wr s hs _ calls o.2 i
 generalize hKK:(if calls.length=0 then 0 else k)=KK
 have hK:∀i:Nat,i < KK↔i < k∧0 < calls.length:=fun i=>by rw [←hKK];split <;> omega
 refine aJ [0,2,6,7,12] (α:=Nat×Option (Nat×Nat)) (fun x=>[(13,aH x.1)]) (fun x=>x.1≤KK) (fun x=>[dU b s F (ff s (p1.1::y.1).length calls x.1 o.2).2,(rb,.box [.imm 1 (aZ w.1.1),.vec q1 1 (aZ (p1.1::y.1)),.imm 1 (aZ w.1.2),.vec none 1 [],.vec x.2 2 ((ff s (p1.1::y.1).length calls x.1 o.2).1.map fW),aH 0] 73),(tb,.box [bQ,bQ,bQ,bQ,bQ,aH 0] 73)]++(tok x.2 171 2 ((ff s (p1.1::y.1).length calls x.1 o.2).1.map fW).length++(tok q1 22 1 (aZ (p1.1::y.1)).length++[]))) (fun x=>KK - x.1) (0,none) rfl ⟨rfl,trivial⟩ (Nat.zero_le _) (fun _ _ h=>h) ?_
 rintro ⟨i,q⟩ hi
 dsimp only at hi ⊢
 have hol:=hcon i
 have hstep:ff s (p1.1::y.1).length calls (i+1) o.2=(bZ (dr s (p1.1::y.1).length) fun a=>bZ (dr s calls.length) fun z=>cx ((ff s (p1.1::y.1).length calls i o.2).1++[(⟨a,calls.getD z.toNat 0⟩:j9)])) (ff s (p1.1::y.1).length calls i o.2).2:=rfl
 try dsimp only [Lp,Lo,Ln,Lh]
 repeat' (first|refine ae ?_|refine a6 ?_|refine LF a7 I9 ?_)
 by_cases hik:i < KK
 ·have hik2:=(hK i).1 hik
  rw [decide_eq_true (show ((i:Nat):Int) < (k:Int) by omega)]
  repeat' (first|refine a8 ?_|refine aa ?_|refine LF a7 I9 ?_|refine LN I9 ?_)
  rw [decide_eq_true (show (0:Int) < (((aO calls).length:Nat):Int) by omega)]
  generalize ff s (p1.1::y.1).length calls i o.2=st at hol hstep ⊢
  have hoil:(st.1.map fW).length=st.1.length:=Lr ..
  repeat' (first|refine ae ?_|refine am ?_|refine au ?_|refine a8 ?_|refine bV rfl ?_)
  refine dv [.cell (rb,4,.vec q 2 (st.1.map fW))] 16 [(0,.v),(1,.k),(2,.v),(3,.v),(4,.l),(5,.v),(7,.v),(8,.v),(9,.v),(10,.v),(6,.f),(11,.f),(12,.v),(13,.v),(14,.v),(15,.v)] none ?_ trivial rfl (by kernel_rfl) (by kernel_rfl) (by kernel_rfl) mixed (by kernel_rfl) rfl
  repeat' (first|refine aF ?_|refine b9 a7 ?_|fail)
  refine dH a7 0 rfl rfl rfl (bJ 1 rfl rfl bW) (by first | trivial | rfl) ?_
  repeat' (first|refine aF ?_|refine b9 a7 ?_|refine cS a7 1 rfl rfl rfl rfl (by first|trivial|rfl) ?_)
  rw [hrw]
  refine eJ (bJ 1 rfl rfl bW) ?_
  unfold bZ at hstep
  generalize dr s (p1.1::y.1).length st.2=g1 at hstep ⊢
  dsimp only at hstep
  repeat' (first|refine aF ?_|fail)
  rw [hcal]
  refine eJ (bJ 1 rfl rfl bW) ?_
  have hg:=ck s hs g1.2.a (n:=calls.length) (by omega)
  have hg:0≤(dr s calls.length g1.2).1∧(dr s calls.length g1.2).1 < calls.length:=hg
  generalize dr s calls.length g1.2=g2 at hg hstep ⊢
  have hgl:(aO calls)[g2.1.toNat]?=some [aH (calls.getD g2.1.toNat 0)]:=bO (by rw [List.getD_eq_getElem?_getD,Lz (show g2.1.toNat < calls.length by omega)];rfl)
  dsimp only [cx] at hstep
  repeat' (first|refine aF ?_|refine b9 a7 ?_|(apply cE;refine d5 a7 ?_)|refine dX a7 ?_|fail)
  refine LP [0,2,6,7,12,13,68,82] I9 ?_
  repeat' (first|fail)
  refine bP a7 _ rfl rfl rfl rfl (eL (A:=[_,_,_])) (by simp;omega) (by simp;omega) rfl fun q'=>?_
  refine aS (aR (eL (A:=[_,_,_])).symm) ?_
  repeat' (first|refine a6 ?_|refine a8 ?_|refine aM ?_|refine aa ?_|refine LF a7 I9 ?_|(apply aY;refine aX ?_)|(apply aK;first|refine LG a7 0 LD ?_|refine LG a7 1 LD ?_|refine LG a7 2 LD ?_|refine LG a7 3 LD ?_|fail))
  exact aE (i+1,q') rfl ⟨by rw [Ls];rfl,trivial⟩ (by dsimp only;omega) (by dsimp only;omega) (fun _ _ h=>by dsimp only;rw [hstep];simpa [fJ,eN,fW] using h)
 have hiK:i=KK:=by omega
 subst hiK
 generalize ff s (p1.1::y.1).length calls i o.2=st
 have hno:¬(i < k∧0 < calls.length):=fun h=>absurd ((hK i).2 h) (by omega)
 by_cases hik2:i < k
 ·rw [decide_eq_true (show ((i:Nat):Int) < (k:Int) by omega)]
  repeat' (first|refine a8 ?_|refine aa ?_|refine LF a7 I9 ?_|refine LN I9 ?_)
  rw [decide_eq_false (show ¬(0:Int) < (((aO calls).length:Nat):Int) by omega)]
  repeat' (first|refine ae ?_|refine a6 ?_|refine aq ?_|refine aL ?_|refine a8 ?_|refine av ?_|refine aM ?_|refine aA ?_|refine aw ?_|refine aa ?_|(apply bL;first|refine LI a7 0 LC ?_|refine LI a7 1 LC ?_|refine LI a7 2 LC ?_|refine LI a7 3 LC ?_|refine LJ a7 0 LC ?_|refine LJ a7 1 LC ?_|refine LJ a7 2 LC ?_|refine LL a7 1 LA (by assumption) rfl ?_|refine LL a7 0 LA (by assumption) rfl ?_|fail)|(apply aK;first|refine LG a7 0 LD ?_|refine LG a7 1 LD ?_|refine LG a7 2 LD ?_|refine LG a7 3 LD ?_|fail)|refine bk rfl ?_)
  exact b6 (bq 2 (cs':=bG ⟨w.1.1,p1.1::y.1,w.1.2,[],st.1,0⟩) rfl fun σ vs h=>ld.vrs (a:=[.imm 1 (aZ w.1.1),.vec q1 1 (aZ (p1.1::y.1)),.imm 1 (aZ w.1.2),.vec none 1 [],.vec q 2 (st.1.map fW),aH 0]) (b:=bG ⟨w.1.1,p1.1::y.1,w.1.2,[],st.1,0⟩) ⟨cF.refl _,cF.im,cF.refl _,cF.im,cF.im,cF.refl _,trivial⟩ h) (ic a7 2 [dU b s F st.2] rfl rfl rfl rfl rfl (List.Sublist.cons_cons _ (List.nil_sublist _)) ⟨rfl,rfl⟩)
 ·rw [decide_eq_false (show ¬((i:Nat):Int) < (k:Int) by omega)]
  repeat' (first|refine ae ?_|refine a6 ?_|refine aq ?_|refine aL ?_|refine a8 ?_|refine av ?_|refine aM ?_|refine aA ?_|refine aw ?_|refine aa ?_|refine LF a7 I9 ?_|refine LO LB ?_|(apply bL;first|refine LI a7 0 LC ?_|refine LI a7 1 LC ?_|refine LI a7 2 LC ?_|refine LI a7 3 LC ?_|refine LJ a7 0 LC ?_|refine LJ a7 1 LC ?_|refine LJ a7 2 LC ?_|refine LL a7 1 LA (by assumption) rfl ?_|refine LL a7 0 LA (by assumption) rfl ?_|fail)|(apply aK;first|refine LG a7 0 LD ?_|refine LG a7 1 LD ?_|refine LG a7 2 LD ?_|refine LG a7 3 LD ?_|fail)|refine bk rfl ?_)
  exact b6 (bq 2 (cs':=bG ⟨w.1.1,p1.1::y.1,w.1.2,[],st.1,0⟩) rfl fun σ vs h=>ld.vrs (a:=[.imm 1 (aZ w.1.1),.vec q1 1 (aZ (p1.1::y.1)),.imm 1 (aZ w.1.2),.vec none 1 [],.vec q 2 (st.1.map fW),aH 0]) (b:=bG ⟨w.1.1,p1.1::y.1,w.1.2,[],st.1,0⟩) ⟨cF.refl _,cF.im,cF.refl _,cF.im,cF.im,cF.refl _,trivial⟩ h) (ic a7 2 [dU b s F st.2] rfl rfl rfl rfl rfl (List.Sublist.cons_cons _ (List.nil_sublist _)) ⟨rfl,rfl⟩)
end Go.Proofs.YtamjlkdanllgjaaGreatDoor
namespace Go.Proofs.YtamjlkdanllgjaaGreatDoor
open Go.RowKit
attribute [local irreducible] AT bB AX AO Av Kt ba dt DA cz
set_option maxRecDepth 8000
def fB (i j:Nat) (l:b7):List AV:=[aH l.Kind,cQ l.Ignore,if j < i then .imm 6 (l.Rules.map bG) else bQ]
def eK (i:Nat):Nat→List b7→List AV
 | _,[]=>[]
 | k,l::r=>fB i k l++eK i (k+1) r
theorem CE (i:Nat):∀(l:List b7) (k:Nat),(eK i k l).length=l.length * 3
 | [],k=>rfl
 | x::l,k=>by
  rw [eK,List.length_append,CE i l (k+1),List.length_cons,Nat.add_mul]
  simp [fB]
  omega
theorem tC (i:Nat):∀(l:List b7) (k j c:Nat),c < 3→(eK i k l)[j * 3+c]?=(l[j]?).bind fun x=>(fB i (k+j) x)[c]?
 | [],k,j,c,_=>by simp [eK]
 | x::l,k,0,c,hc=>by
  rw [eK,List.getElem?_append_left (by simp [fB];omega)]
  simp
 | x::l,k,j+1,c,hc=>by
  rw [eK,List.getElem?_append_right (by simp [fB];omega)]
  have h1:(j+1) * 3+c - (fB i k x).length=j * 3+c:=by simp [fB];omega
  rw [h1,tC i l (k+1) j c hc,List.getElem?_cons_succ]
  rw [show k+1+j=k+(j+1) by omega]
theorem yl (i:Nat):∀(l:List b7) (k:Nat) (x:b7),eK i k (l++[x])=eK i k l++fB i (k+l.length) x
 | [],k,x=>by simp [eK]
 | y::l,k,x=>by
  rw [Lp,eK,yl i l (k+1) x,eK,List.append_assoc,List.length_cons,show k+1+l.length=k+(l.length+1) by omega]
theorem CF {i:Nat} {l:List b7} {q:b7} {rs:List bz} (hq:l[i]?=some q):(eK i 0 l).set (i * 3+2) (.imm 6 (rs.map bG))=eK (i+1) 0 (l.set i { q with Rules:=rs }):=by
 have hil:=(Lm hq).1
 apply List.ext_getElem?
 intro p
 obtain ⟨j,c,hc,rfl⟩:∃j c,c < 3∧p=j * 3+c:=⟨p / 3,p % 3,Nat.mod_lt _ (by omega),by omega⟩
 rw [tC _ _ _ _ _ hc]
 by_cases e:i * 3+2=j * 3+c
 ·have hj:j=i:=by omega
  have hc2:c=2:=by omega
  subst hj;subst hc2
  rw [List.getElem?_set_self (by rw [CE];omega),List.getElem?_set_self hil]
  simp [fB]
 ·rw [List.getElem?_set_ne e,tC _ _ _ _ _ hc]
  by_cases hj:i=j
  ·subst hj
   rw [hq,List.getElem?_set_self hil]
   have hc2:c=0∨c=1:=by omega
   rcases hc2 with rfl | rfl <;> rfl
  ·rw [List.getElem?_set_ne hj]
   cases l[j]? with
   | none=>rfl
   | some x=>
    simp only [Option.bind_some,Nat.zero_add]
    have hc3:c=0∨c=1∨c=2:=by omega
    rcases hc3 with rfl | rfl | rfl
    ·rfl
    ·rfl
    ·simp only [fB]
     by_cases hlt:j < i
     ·rw [if_pos hlt,if_pos (by omega)]
     ·rw [if_neg hlt,if_neg (by omega)]
theorem Fh {i:Nat} {l:List b7} {q:b7} (hq:l[i]?=some q) (h0:q.Rules=[]):(eK i 0 l).set (i * 3+2) (.imm 6 [])=eK (i+1) 0 l:=by
 have:=CF (rs:=[]) hq
 rw [show l.set i { q with Rules:=[] }=l from ?_] at this
 ·exact this
 ·have:({ q with Rules:=[] }:b7)=q:=by cases q;simp at h0;simp [h0]
  rw [this]
  apply List.ext_getElem?
  intro j
  by_cases e:i=j
  ·subst e;rw [List.getElem?_set_self (Lm hq).1,hq]
  ·rw [List.getElem?_set_ne e]
theorem CD:∀(l:List b7) (i k:Nat),k+l.length≤i→eK i k l=(l.map bv).flatten
 | [],i,k,_=>rfl
 | x::l,i,k,h=>by
  simp only [List.length_cons] at h
  rw [eK,CD l i (k+1) (by omega),Ln,List.flatten_cons]
  congr 1
  simp only [fB]
  rw [if_pos (by omega)]
  rfl
def zX (i:Nat):Option (Nat×List AV×Nat)→AV
 | none=>bQ
 | some (b,_,cap)=> .sc (.slice (some ⟨b,0,none⟩) i cap)
def CA:Option (Nat×List AV×Nat)→AL
 | none=>[]
 | some (b,cs,_)=>[(b,.box cs 76)]
def yk (n i:Nat) (l:List b7):Option (Nat×List AV×Nat)→Prop
 | none=>n=0
 | some (_,cs,cap)=>cs.length=cap * 3∧n≤cap∧cap≤maxLen∧cs.take (n * 3)=eK i 0 l
end Go.Proofs.YtamjlkdanllgjaaGreatDoor
