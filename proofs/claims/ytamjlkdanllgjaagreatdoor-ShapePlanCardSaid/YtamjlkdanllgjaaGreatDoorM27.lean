/-
  The maker: sets of glyphs, rows of sets.
-/
import Derived.Test.YtamjlkdanllgjaaGreatDoorM26
import Derived.Test.YtamjlkdanllgjaaGreatDoorM11
namespace Go.Proofs.YtamjlkdanllgjaaGreatDoor
open Go.RowKit
attribute [local irreducible] AT bF AX AO Av Kt b8 d9 DA cu
set_option maxRecDepth 8000
variable (s:List Int) (hs:s.length≤1000000) (F:MF)
include hs
theorem EO (a:Int) (m:MS) (k:Nat):(fv s a k m).1.length≤1+k:=by
 have _:=hs
 clear hs
 refine (bX.runs (fun i (l:List Int)=>l.length≤1+i) k (by simp) fun i l _ h=>bX.ite (fun _=>(bX.any _).bnd fun z _=>bX.ret ?_) fun _=>bX.ret (by omega)) m
 split
 ·simp;omega
 ·omega
theorem C1 (a:Int) (m:MS) {j:Nat} (h:4≤(fv s a j m).1.length):∀k,j≤k→fv s a k m=fv s a j m:=by
 have _:=hs
 clear hs
 intro k hk
 induction k with
 | zero=>rw [show j=0 by omega]
 | succ k ih=>
  by_cases e:j=k+1
  ·rw [e]
  ·have h1:=ih (by omega)
   have h2:fv s a (k+1) m=(if (fv s a k m).1.length < 4 then c8 (dr s 3) fun z=>cK (if z=0 then (fv s a k m).1++[a+1+k] else (fv s a k m).1) else cK (fv s a k m).1) (fv s a k m).2:=rfl
   rw [h2,h1,if_neg (by omega)]
   rfl
def I0 (l:List Int):AV:= .imm 1 (aL l)
def Fw (l:List (List Int)):AV:= .imm 1 (aZ l)
set_option maxHeartbeats 4000000 in
theorem se {kg:Option (Nat×Nat)} {gl:List (List AV)} (hF:F.gl= .vec kg 9 gl) (n:Nat) (hn:gl.length=n) (h0:0 < n∧n≤1000):sB 163 [] s F (nY s n) I0:=by
 intro b m
 refine aQ Tryz.func163 rfl Tryz.ntmps163 rfl fun B=>?_
 refine W05 ?_
 rw [hF]
 refine W01 ?_
 rw [hn]
 refine cL ?_
 have hk:=co s hs m.a (n:=n) (by omega)
 have hk:0≤(dr s n m).1∧(dr s n m).1 < n:=hk
 generalize e1:dr s n m=p1 at hk ⊢
 repeat' (first|refine O1 ?_|refine ak ?_|refine OE a7 KN ?_|(apply aS;refine aR ?_)|refine jb (d:=17) a7 fun _=>?_|fail)
 rename_i kb
 refine bM (aW (L':=[ee b s F p1.2]++(tok (some (kb,1)) 3 1 1++[])) (List.perm_append_comm (l₁:=[_]))) ?_
 have hmx:∀j,(fv s p1.1 j p1.2).1.length≤1+j:=fun j=>EO s hs _ _ j
 refine aJ [0,3] (α:=Nat×Option (Nat×Nat)) (fun x=>[(6,aG (p1.1+1+x.1)),(5,.vec x.2 1 (aL (fv s p1.1 x.1 p1.2).1))]) (fun x=>x.1≤(n - (p1.1+1)).toNat) (fun x=>[ee b s F (fv s p1.1 x.1 p1.2).2]++(tok x.2 3 1 (aL (fv s p1.1 x.1 p1.2).1).length++[])) (fun x=>(n - (p1.1+1)).toNat - x.1) (0,some (kb,1)) rfl ⟨by simp [ce],rfl,trivial⟩ (Nat.zero_le _) (fun _ _ h=>h) ?_
 rintro ⟨j,q⟩ hj
 dsimp only at hj ⊢
 have hl:=hmx j
 have hstop:=C1 s hs p1.1 p1.2 (j:=j)
 have hstep:fv s p1.1 (j+1) p1.2=(if (fv s p1.1 j p1.2).1.length < 4 then c8 (dr s 3) fun z=>cK (if z=0 then (fv s p1.1 j p1.2).1++[p1.1+1+j] else (fv s p1.1 j p1.2).1) else cK (fv s p1.1 j p1.2).1) (fv s p1.1 j p1.2).2:=rfl
 have hv:nY s n m=fv s p1.1 (n - (p1.1+1)).toNat p1.2:=by
  unfold nY c8
  rw [e1]
 generalize e2:fv s p1.1 j p1.2=st at hl hstop hstep ⊢
 have hil:(aL st.1).length=st.1.length:=aP _
 try dsimp only [Oq,Oo,Om,Oh]
 refine W01 ?_
 by_cases hlt:p1.1+1+(j:Int) < (n:Int)
 ·rw [decide_eq_true hlt]
  refine W0y ?_
  refine aw rfl (fun h=>?_) (fun h=>?_)
  ·have h4:st.1.length < 4:=by have:=Oy h;omega
   refine W03 ?_
   rw [if_pos h4] at hstep
   unfold c8 at hstep
   refine cL ?_
   generalize dr s 3 st.2=z at hstep ⊢
   dsimp only at hstep
   refine W01 ?_
   refine aw rfl (fun hz=>?_) (fun hz=>?_)
   ·rw [if_pos (Oy hz)] at hstep
    refine W0f ?_
    refine bA a7 _ rfl rfl rfl rfl (eQ (A:=[_])) (by simp [aP];omega) (by simp [aP];omega) rfl fun q'=>?_
    refine aX (aW (eQ (A:=[_])).symm) ?_
    refine W02 ?_
    exact aD (j+1,q') rfl ⟨by dsimp only;rw [show p1.1+1+((j+1:Nat):Int)=p1.1+1+(j:Int)+1 by omega];rfl,by rw [hstep];dsimp only [cK];rw [show aL (st.1++[p1.1+1+(j:Int)])=aL st.1++[[aG (p1.1+1+(j:Int))]] from List.map_append ..];rfl,trivial⟩ (by dsimp only;omega) (by dsimp only;omega) (fun _ _ h=>by dsimp only;rw [hstep];simpa [cK,aL] using h)
   ·rw [if_neg (Ox hz)] at hstep
    refine W02 ?_
    exact aD (j+1,q) rfl ⟨by dsimp only;rw [show p1.1+1+((j+1:Nat):Int)=p1.1+1+(j:Int)+1 by omega];rfl,by rw [hstep];rfl,trivial⟩ (by dsimp only;omega) (by dsimp only;omega) (fun _ _ h=>by dsimp only;rw [hstep];simpa [cK] using h)
  ·have h4:¬st.1.length < 4:=by have:=Ox h;omega
   refine W01 ?_
   refine b7 (bS (L':=[ee b s F st.2]) (List.Sublist.cons_cons _ (List.nil_sublist _))) ?_
   refine b7 (bq (t:=2) (c':= .imm 1 (aL st.1)) rfl fun σ v h=>VR.im h) (OK KN ?_)
   rw [hv,hstop (by omega) _ hj]
   exact ⟨rfl,rfl⟩
 ·rw [decide_eq_false hlt]
  refine W0Q ?_
  refine b7 (bS (L':=[ee b s F st.2]) (List.Sublist.cons_cons _ (List.nil_sublist _))) ?_
  refine b7 (bq (t:=2) (c':= .imm 1 (aL st.1)) rfl fun σ v h=>VR.im h) (OK KN ?_)
  rw [hv,show (n - (p1.1+1)).toNat=j by omega,e2]
  exact ⟨rfl,rfl⟩
theorem fQ (l:List (List Int)):(aZ l).length=l.length:=by
 have _:=hs
 clear hs
 simp [aZ]
set_option maxHeartbeats 2000000 in
theorem nX {kg:Option (Nat×Nat)} {gl:List (List AV)} (hF:F.gl= .vec kg 9 gl) (n:Nat) (hn:gl.length=n) (h0:0 < n∧n≤1000) (most:Int) (hm:0≤most∧most≤6):sB 164 [aG most] s F (qf s n most) Fw:=by
 intro b m
 refine aQ Tryz.func164 rfl Tryz.ntmps164 rfl fun B=>?_
 refine W02 ?_
 refine cL ?_
 have hk:=co s hs m.a (n:=most+1) (by omega)
 have hk:0≤(dr s (most+1) m).1∧(dr s (most+1) m).1 < most+1:=hk
 generalize e1:dr s (most+1) m=p1 at hk ⊢
 obtain ⟨k,hkk⟩:∃k:Nat,p1.1=k:=⟨p1.1.toNat,by omega⟩
 rw [hkk]
 have hln:∀j,(ir s n j p1.2).1.length=j:=fun j=>by
  induction j with
  | zero=>rfl
  | succ j ih=>
   have:ir s n (j+1) p1.2=((ir s n j p1.2).1++[(nY s n (ir s n j p1.2).2).1],(nY s n (ir s n j p1.2).2).2):=rfl
   rw [this]
   simp [ih]
 refine W03 ?_
 refine bM (bq (t:=5) (c':= .vec none 1 []) rfl fun σ v h=>cM 1 h) ?_
 refine aJ [0,6] (α:=Nat×Option (Nat×Nat)) (fun x=>[(7,aG x.1),(5,.vec x.2 1 (aZ (ir s n x.1 p1.2).1))]) (fun x=>x.1≤k) (fun x=>[ee b s F (ir s n x.1 p1.2).2]++(tok x.2 22 1 (aZ (ir s n x.1 p1.2).1).length++[])) (fun x=>k - x.1) (0,none) rfl ⟨rfl,rfl,trivial⟩ (Nat.zero_le _) (fun _ _ h=>h) ?_
 rintro ⟨j,q⟩ hj
 dsimp only at hj ⊢
 have hl:=hln j
 have hstep:ir s n (j+1) p1.2=((ir s n j p1.2).1++[(nY s n (ir s n j p1.2).2).1],(nY s n (ir s n j p1.2).2).2):=rfl
 try dsimp only [Oq,Oo,Om,Oh]
 refine W01 ?_
 refine aw rfl (fun h=>?_) (fun h=>?_)
 ·have hjl:j < k:=by have:=Oy h;omega
  generalize ir s n j p1.2=st at hl hstep ⊢
  have hrl:=fQ s hs st.1
  refine W03 ?_
  refine wo (se s hs F hF n hn h0) ?_
  generalize nY s n st.2=y at hstep ⊢
  unfold I0
  repeat' (first|refine bO a7 ?_|fail)
  refine bA a7 _ rfl rfl rfl rfl (eQ (A:=[_])) (by simp [fQ s hs];omega) (by simp [fQ s hs];omega) rfl fun q'=>?_
  refine aX (aW (eQ (A:=[_])).symm) ?_
  refine W02 ?_
  exact aD (j+1,q') rfl ⟨by rw [Ov];rfl,by rw [hstep];dsimp only;rw [show aZ (st.1++[y.1])=aZ st.1++[[.imm 1 (aL y.1)]] from List.map_append ..];rfl,trivial⟩ (by dsimp only;omega) (by dsimp only;omega) (fun _ _ h=>by dsimp only;rw [hstep];simpa [aZ] using h)
 have hjl:j=k:=by have:=Ox h;omega
 subst hjl
 have hv:qf s n most m=ir s n j p1.2:=by
  unfold qf c8
  rw [e1]
  dsimp only
  rw [hkk]
  rfl
 rw [hv]
 generalize ir s n j p1.2=st
 refine W01 ?_
 refine b7 (bS (L':=[ee b s F st.2]) (List.Sublist.cons_cons _ (List.nil_sublist _))) ?_
 exact b7 (bq (t:=4) (c':= .imm 1 (aZ st.1)) rfl fun σ v h=>VR.im h) (OK KN ⟨rfl,rfl⟩)
end Go.Proofs.YtamjlkdanllgjaaGreatDoor
namespace Go.Proofs.YtamjlkdanllgjaaGreatDoor
open Go.RowKit
attribute [local irreducible] AT bF AX AO Av Kt b8 d9 DA cu
set_option maxRecDepth 8000
variable (s:List Int) (hs:s.length≤1000000) (F:MF)
include hs
def J4 (r:bJ):AV:= .agg (bN r)
def NY (rb:Nat) (b0 b1 b2 b3 b4:AV) (x:Int):Nat×AB:=(rb,.box [b0,b1,b2,b3,b4,aG x] 73)
theorem tP (a:List Int) (l:List (List Int)):aZ [a]++aZ l=aZ (a::l):=by
 have _:=hs
 clear hs
 rfl
theorem wA (n:Int) (m:MS) (k:Nat):(gh s n k m).1.length=k:=by
 have _:=hs
 clear hs
 induction k with
 | zero=>rfl
 | succ k ih=>
  have:gh s n (k+1) m=((gh s n k m).1++[(dr s n (gh s n k m).2).1],(dr s n (gh s n k m).2).2):=rfl
  rw [this]
  simp [ih]
theorem xA (nn:Int) (calls:List Int) (m:MS) (k:Nat):(fi s nn calls k m).1.length=k:=by
 have _:=hs
 clear hs
 induction k with
 | zero=>rfl
 | succ i ih=>
  have:fi s nn calls (i+1) m=(c8 (dr s nn) fun a=>c8 (dr s calls.length) fun z=>cK ((fi s nn calls i m).1++[(⟨a,calls.getD z.toNat 0⟩:jt)])) (fi s nn calls i m).2:=rfl
  rw [this]
  simp [c8,cK,ih]
set_option maxHeartbeats 16000000 in
theorem Cy {kg:Option (Nat×Nat)} {gl:List (List AV)} (hF:F.gl= .vec kg 9 gl) (n:Nat) (hn:gl.length=n) (h0:0 < n∧n≤1000) (kind:Int) (hk:1≤kind∧kind≤6) (calls:List Int) (hcl:calls.length≤1000):sB 83 [aG kind,.imm 1 (aL calls)] s F (gI s n kind calls) J4:=by
 intro b m
 refine aQ Tryz.func83 rfl Tryz.ntmps83 rfl fun B=>?_
 refine W0F ?_
 intros
 rw [hF]
 refine W01 ?_
 rw [hn]
 rename_i tb rb
 refine aX (aW (L':=[ee b s F m,(rb,.box [bV,bV,bV,bV,bV,aG 0] 73),(tb,.box [bV,bV,bV,bV,bV,aG 0] 73)]) (List.perm_append_comm (l₁:=[_,_]))) ?_
 refine wo (se s hs F hF n hn h0) ?_
 have ha:=qA s (n:=n) (by omega) m
 generalize e1:nY s n m=p1 at ha ⊢
 have haf:=ha.few
 unfold I0
 repeat' (first|refine O1 ?_|refine OE a7 KN ?_|(apply aO;first|refine OF a7 0 OC ?_|refine OF a7 1 OC ?_|refine OF a7 2 OC ?_|refine OF a7 3 OC ?_|fail)|refine jb (d:=22) a7 fun _=>?_|fail)
 rename_i kb
 refine bM (aW (L':=[ee b s F p1.2,(rb,.box [bV,.vec (some (kb,1)) 1 (aZ [p1.1]),bV,bV,bV,aG 0] 73),(tb,.box [bV,bV,bV,bV,bV,aG 0] 73)]++(tok (some (kb,1)) 22 1 1++[])) (List.perm_append_comm (l₁:=[_]))) ?_
 repeat' (first|fail)
 refine aw rfl (fun h6=>?_) (fun h6=>?_)
 ·have h6:=Oy h6
  subst h6
  repeat' (first|refine O1 ?_|fail)
  refine dE [.cell (rb,1,.vec (some (kb,1)) 1 (aZ [p1.1]))] 5 [(0,.v),(1,.k),(2,.v),(3,.f),(4,.v)] none ?_ trivial rfl (by kernel_rfl) (by kernel_rfl) (by kernel_rfl) mixed (by kernel_rfl) rfl
  refine W06 ?_
  refine dU a7 0 rfl rfl rfl (bR 1 rfl rfl c6) (by first | trivial | rfl) ?_
  refine W06 ?_
  refine t2 (se s hs F hF n hn h0) (bR 1 rfl rfl c6) ?_
  generalize e2:nY s n p1.2=p2
  unfold I0
  refine W0K ?_
  refine OO [0,6,7,27,30] KN ?_
  repeat' (first|fail)
  refine bA a7 _ rfl rfl rfl rfl (eQ (A:=[_,_,_])) (by simp [fQ s hs]) (by simp [fQ s hs]) rfl fun q'=>?_
  refine aX (aW (eQ (A:=[_,_,_])).symm) ?_
  refine W09 ?_
  refine cL ?_
  have hx:=co s hs p2.2.a (n:=41) (by omega)
  have hx:0≤(dr s 41 p2.2).1∧(dr s 41 p2.2).1 < 41:=hx
  generalize e3:dr s 41 p2.2=p3 at hx ⊢
  refine W0w ?_
  have hv:gI s n 6 calls m=(⟨[],[p1.1,p2.1],[],[],[],p3.1 * 10 - 200⟩,p3.2):=by simp [gI,J0,c8,cK,e1,e2,e3]
  rw [hv]
  refine b7 (bB 2 (cs':=bN ⟨[],[p1.1,p2.1],[],[],[],p3.1 * 10 - 200⟩) rfl fun σ vs h=>l8.vrs (a:=[bV,.vec q' 1 (aZ [p1.1,p2.1]),bV,bV,bV,aG (p3.1 * 10 - 200)]) (b:=bN ⟨[],[p1.1,p2.1],[],[],[],p3.1 * 10 - 200⟩) ⟨d5.nil 1,d5.im,d5.nil 1,d5.nil 1,d5.nil 2,d5.refl _,trivial⟩ h) (iv a7 2 [ee b s F p3.2] rfl rfl rfl rfl rfl (List.Sublist.cons_cons _ (List.nil_sublist _)) ⟨rfl,rfl⟩)
 have h6:=Ox h6
 refine bM (bB 1 (cs':=[.imm 1 [],.vec (some (kb,1)) 1 (aZ [p1.1]),.imm 1 [],.vec none 1 [],.vec none 2 [],aG 0]) rfl fun σ vs h=>l8.vrs (a:=[bV,.vec (some (kb,1)) 1 (aZ [p1.1]),bV,bV,bV,aG 0]) (b:=[.imm 1 [],.vec (some (kb,1)) 1 (aZ [p1.1]),.imm 1 [],.vec none 1 [],.vec none 2 [],aG 0]) ⟨d5.nil 1,d5.refl _,d5.nil 1,d5.vecN 1,d5.vecN 2,d5.refl _,trivial⟩ h) ?_
 refine W01 ?_
 refine cL ?_
 generalize e2:dr s 2 p1.2=z
 refine W01 ?_
 refine ua [0,1,2,6,7,8] ([ee b s F (jo s n p1.2).2,(rb,.box [.imm 1 (aZ (jo s n p1.2).1.1),.vec (some (kb,1)) 1 (aZ [p1.1]),.imm 1 (aZ (jo s n p1.2).1.2),.vec none 1 [],.vec none 2 [],aG 0] 73),(tb,.box [bV,bV,bV,bV,bV,aG 0] 73)]++(tok (some (kb,1)) 22 1 1++[])) rfl (fun Q' K=>?_) ?_
 ·refine aw rfl (fun hz=>?_) (fun hz=>?_)
  ·have hz:=Oy hz
   refine W01 ?_
   refine wo (nX s hs F hF n hn h0 2 (by omega)) ?_
   generalize e3:qf s n 2 z.2=y1
   unfold Fw
   refine W09 ?_
   refine wo (nX s hs F hF n hn h0 2 (by omega)) ?_
   generalize e4:qf s n 2 y1.2=y2
   unfold Fw
   refine W09 ?_
   have hv:jo s n p1.2=((y1.1,y2.1),y2.2):=by simp [jo,c8,cK,e2,e3,e4,hz]
   rw [hv] at K
   exact K _ rfl
  ·have hz:=Ox hz
   repeat' (first|refine O1 ?_|fail)
   have hv:jo s n p1.2=(([],[]),z.2):=by simp [jo,c8,cK,e2,hz]
   rw [hv] at K
   exact K _ rfl
 generalize e3:jo s n p1.2=w
 have ha0:(aZ [p1.1])[0]?=some [.imm 1 (aL p1.1)]:=rfl
 have hial:(aL p1.1).length=p1.1.length:=aP _
 by_cases h15:kind=1∨kind=5
 ·have hv:gI s n kind calls m=(⟨w.1.1,[p1.1],w.1.2,(gh s n p1.1.length w.2).1,[],0⟩,(gh s n p1.1.length w.2).2):=by simp [gI,c8,cK,e1,e3,h6,h15]
  rw [hv]
  rcases h15 with rfl | rfl
  all_goals
   refine W0S ?_
   refine aJ [0,6,7,8] (α:=Nat×Option (Nat×Nat)) (fun x=>[(9,aG x.1)]) (fun x=>x.1≤p1.1.length) (fun x=>[ee b s F (gh s n x.1 w.2).2,(rb,.box [.imm 1 (aZ w.1.1),.vec (some (kb,1)) 1 (aZ [p1.1]),.imm 1 (aZ w.1.2),.vec x.2 1 (aL (gh s n x.1 w.2).1),.vec none 2 [],aG 0] 73),(tb,.box [bV,bV,bV,bV,bV,aG 0] 73)]++(tok x.2 3 1 (aL (gh s n x.1 w.2).1).length++(tok (some (kb,1)) 22 1 1++[]))) (fun x=>p1.1.length - x.1) (0,none) rfl ⟨rfl,trivial⟩ (Nat.zero_le _) (fun _ _ h=>h) ?_
   rintro ⟨i,q⟩ hi
   dsimp only at hi ⊢
   have hol:=wA s hs n w.2 i
   have hstep:gh s n (i+1) w.2=((gh s n i w.2).1++[(dr s n (gh s n i w.2).2).1],(dr s n (gh s n i w.2).2).2):=rfl
   try dsimp only [Oq,Oo,Om,Oh]
   refine W0h ?_
   refine aw rfl (fun h=>?_) (fun h=>?_)
   ·have hil:i < p1.1.length:=by have:=Oy h;omega
    generalize gh s n i w.2=st at hol hstep ⊢
    have hoil:(aL st.1).length=st.1.length:=aP _
    refine W0z ?_
    refine dE [.cell (rb,3,.vec q 1 (aL st.1))] 6 [(0,.v),(1,.k),(2,.v),(3,.v),(4,.f),(5,.v)] none ?_ trivial rfl (by kernel_rfl) (by kernel_rfl) (by kernel_rfl) mixed (by kernel_rfl) rfl
    refine W06 ?_
    refine dU a7 0 rfl rfl rfl (bR 1 rfl rfl c6) (by first | trivial | rfl) ?_
    refine W06 ?_
    refine eO (bR 1 rfl rfl c6) ?_
    generalize dr s n st.2=o at hstep ⊢
    refine W0K ?_
    refine OO [0,6,7,8,9,98,102] KN ?_
    repeat' (first|fail)
    refine bA a7 _ rfl rfl rfl rfl (eQ (A:=[_,_,_])) (by simp [aP];omega) (by simp [aP];omega) rfl fun q'=>?_
    refine aX (aW (eQ (A:=[_,_,_])).symm) ?_
    refine W0d ?_
    exact aD (i+1,q') rfl ⟨by rw [Ov];rfl,trivial⟩ (by dsimp only;omega) (by dsimp only;omega) (fun _ _ h=>by dsimp only;rw [hstep];simpa [fN,eR,aL] using h)
   have hil:i=p1.1.length:=by have:=Ox h;omega
   subst hil
   generalize gh s n p1.1.length w.2=st
   refine W0g ?_
   exact b7 (bB 2 (cs':=bN ⟨w.1.1,[p1.1],w.1.2,st.1,[],0⟩) rfl fun σ vs h=>l8.vrs (a:=[.imm 1 (aZ w.1.1),.vec (some (kb,1)) 1 (aZ [p1.1]),.imm 1 (aZ w.1.2),.vec q 1 (aL st.1),.vec none 2 [],aG 0]) (b:=bN ⟨w.1.1,[p1.1],w.1.2,st.1,[],0⟩) ⟨d5.refl _,d5.im,d5.refl _,d5.im,d5.im,d5.refl _,trivial⟩ h) (iv a7 2 [ee b s F st.2] rfl rfl rfl rfl rfl (List.Sublist.cons_cons _ (List.nil_sublist _)) ⟨rfl,rfl⟩)
 by_cases h2:kind=2
 ·subst h2
  refine W0S ?_
  refine cL ?_
  have hc:=co s hs w.2.a (n:=4) (by omega)
  have hc:0≤(dr s 4 w.2).1∧(dr s 4 w.2).1 < 4:=hc
  generalize e4:dr s 4 w.2=y at hc ⊢
  obtain ⟨k,hkk⟩:∃k:Nat,y.1=k:=⟨y.1.toNat,by omega⟩
  have hv:gI s n 2 calls m=(⟨w.1.1,[p1.1],w.1.2,(gh s n k y.2).1,[],0⟩,(gh s n k y.2).2):=by simp [gI,c8,cK,e1,e3,e4,hkk]
  rw [hv,hkk]
  refine W03 ?_
  refine aJ [0,6,7,8,10] (α:=Nat×Option (Nat×Nat)) (fun x=>[(11,aG x.1)]) (fun x=>x.1≤k) (fun x=>[ee b s F (gh s n x.1 y.2).2,(rb,.box [.imm 1 (aZ w.1.1),.vec (some (kb,1)) 1 (aZ [p1.1]),.imm 1 (aZ w.1.2),.vec x.2 1 (aL (gh s n x.1 y.2).1),.vec none 2 [],aG 0] 73),(tb,.box [bV,bV,bV,bV,bV,aG 0] 73)]++(tok x.2 3 1 (aL (gh s n x.1 y.2).1).length++(tok (some (kb,1)) 22 1 1++[]))) (fun x=>k - x.1) (0,none) rfl ⟨rfl,trivial⟩ (Nat.zero_le _) (fun _ _ h=>h) ?_
  rintro ⟨i,q⟩ hi
  dsimp only at hi ⊢
  have hol:=wA s hs n y.2 i
  have hstep:gh s n (i+1) y.2=((gh s n i y.2).1++[(dr s n (gh s n i y.2).2).1],(dr s n (gh s n i y.2).2).2):=rfl
  try dsimp only [Oq,Oo,Om,Oh]
  refine W01 ?_
  refine aw rfl (fun h=>?_) (fun h=>?_)
  ·have hil:i < k:=by have:=Oy h;omega
   generalize gh s n i y.2=st at hol hstep ⊢
   have hoil:(aL st.1).length=st.1.length:=aP _
   refine W0z ?_
   refine dE [.cell (rb,3,.vec q 1 (aL st.1))] 6 [(0,.v),(1,.k),(2,.v),(3,.v),(4,.f),(5,.v)] none ?_ trivial rfl (by kernel_rfl) (by kernel_rfl) (by kernel_rfl) mixed (by kernel_rfl) rfl
   refine W06 ?_
   refine dU a7 0 rfl rfl rfl (bR 1 rfl rfl c6) (by first | trivial | rfl) ?_
   refine W06 ?_
   refine eO (bR 1 rfl rfl c6) ?_
   generalize dr s n st.2=o at hstep ⊢
   refine W0K ?_
   refine OO [0,6,7,8,10,11,115,119] KN ?_
   repeat' (first|fail)
   refine bA a7 _ rfl rfl rfl rfl (eQ (A:=[_,_,_])) (by simp [aP];omega) (by simp [aP];omega) rfl fun q'=>?_
   refine aX (aW (eQ (A:=[_,_,_])).symm) ?_
   refine W0d ?_
   exact aD (i+1,q') rfl ⟨by rw [Ov];rfl,trivial⟩ (by dsimp only;omega) (by dsimp only;omega) (fun _ _ h=>by dsimp only;rw [hstep];simpa [fN,eR,aL] using h)
  have hil:i=k:=by have:=Ox h;omega
  subst hil
  generalize gh s n i y.2=st
  refine W0g ?_
  exact b7 (bB 2 (cs':=bN ⟨w.1.1,[p1.1],w.1.2,st.1,[],0⟩) rfl fun σ vs h=>l8.vrs (a:=[.imm 1 (aZ w.1.1),.vec (some (kb,1)) 1 (aZ [p1.1]),.imm 1 (aZ w.1.2),.vec q 1 (aL st.1),.vec none 2 [],aG 0]) (b:=bN ⟨w.1.1,[p1.1],w.1.2,st.1,[],0⟩) ⟨d5.refl _,d5.im,d5.refl _,d5.im,d5.im,d5.refl _,trivial⟩ h) (iv a7 2 [ee b s F st.2] rfl rfl rfl rfl rfl (List.Sublist.cons_cons _ (List.nil_sublist _)) ⟨rfl,rfl⟩)
 have hrow:=nV s (n:=n) (by omega) w.2
 by_cases h3:kind=3
 ·subst h3
  refine W0S ?_
  refine dE [.cell (rb,1,.vec (some (kb,1)) 1 (aZ [p1.1]))] 4 [(0,.v),(1,.k),(2,.v),(3,.f)] none ?_ trivial rfl (by kernel_rfl) (by kernel_rfl) (by kernel_rfl) mixed (by kernel_rfl) rfl
  refine W06 ?_
  refine dU a7 0 rfl rfl rfl (bR 1 rfl rfl c6) (by first | trivial | rfl) ?_
  refine W06 ?_
  refine t2 (nX s hs F hF n hn h0 2 (by omega)) (bR 1 rfl rfl c6) ?_
  generalize e4:qf s n 2 w.2=y at hrow ⊢
  have hrl:=hrow.1
  unfold Fw
  repeat' (first|fail)
  refine OO [0,6,7,8,125,127] KN ?_
  repeat' (first|fail)
  refine bA a7 _ rfl rfl rfl rfl (eQ (A:=[_,_,_])) (by simp [fQ s hs];omega) (by simp [fQ s hs];omega) rfl fun q'=>?_
  refine aX (aW (eQ (A:=[_,_,_])).symm) ?_
  rw [tP s hs]
  refine W09 ?_
  refine cL ?_
  generalize e5:dr s n y.2=o
  have hv:gI s n 3 calls m=(⟨w.1.1,p1.1::y.1,w.1.2,[o.1],[],0⟩,o.2):=by simp [gI,c8,cK,e1,e3,e4,e5]
  rw [hv]
  repeat' (first|refine O1 ?_|refine OE a7 KN ?_|(apply bU;first|refine OH a7 0 OB ?_|refine OH a7 1 OB ?_|refine OH a7 2 OB ?_|refine OH a7 3 OB ?_|refine OJ a7 0 OB ?_|refine OJ a7 1 OB ?_|refine OJ a7 2 OB ?_|refine OM a7 1 NZ (by assumption) rfl ?_|refine OM a7 0 NZ (by assumption) rfl ?_|fail)|(apply aO;first|refine OF a7 0 OC ?_|refine OF a7 1 OC ?_|refine OF a7 2 OC ?_|refine OF a7 3 OC ?_|fail)|refine bO a7 ?_|fail)
  exact b7 (bB 2 (cs':=bN ⟨w.1.1,p1.1::y.1,w.1.2,[o.1],[],0⟩) rfl fun σ vs h=>l8.vrs (a:=[.imm 1 (aZ w.1.1),.vec q' 1 (aZ (p1.1::y.1)),.imm 1 (aZ w.1.2),.imm 1 (aL [o.1]),.vec none 2 [],aG 0]) (b:=bN ⟨w.1.1,p1.1::y.1,w.1.2,[o.1],[],0⟩) ⟨d5.refl _,d5.im,d5.refl _,d5.refl _,d5.im,d5.refl _,trivial⟩ h) (iv a7 2 [ee b s F o.2] rfl rfl rfl rfl rfl (List.Sublist.cons_cons _ (List.nil_sublist _)) ⟨rfl,rfl⟩)
 have h4:kind=4:=by omega
 subst h4
 refine W1f ?_
 refine dE [.cell (rb,1,.vec (some (kb,1)) 1 (aZ [p1.1]))] 4 [(0,.v),(1,.k),(2,.v),(3,.f)] none ?_ trivial rfl (by kernel_rfl) (by kernel_rfl) (by kernel_rfl) mixed (by kernel_rfl) rfl
 refine W06 ?_
 refine dU a7 0 rfl rfl rfl (bR 1 rfl rfl c6) (by first | trivial | rfl) ?_
 refine W06 ?_
 refine t2 (nX s hs F hF n hn h0 2 (by omega)) (bR 1 rfl rfl c6) ?_
 generalize e4:qf s n 2 w.2=y at hrow ⊢
 have hrl:=hrow.1
 unfold Fw
 repeat' (first|fail)
 refine OO [0,2,6,7,50,52] KN ?_
 repeat' (first|fail)
 refine bA a7 _ rfl rfl rfl rfl (eQ (A:=[_,_,_])) (by simp [fQ s hs];omega) (by simp [fQ s hs];omega) rfl fun q1=>?_
 refine aX (aW (eQ (A:=[_,_,_])).symm) ?_
 rw [tP s hs]
 refine W09 ?_
 refine cL ?_
 have hc:=co s hs y.2.a (n:=3) (by omega)
 have hc:0≤(dr s 3 y.2).1∧(dr s 3 y.2).1 < 3:=hc
 generalize e5:dr s 3 y.2=o at hc ⊢
 obtain ⟨k,hkk⟩:∃k:Nat,o.1=k:=⟨o.1.toNat,by omega⟩
 have hv:gI s n 4 calls m=(⟨w.1.1,p1.1::y.1,w.1.2,[],(fi s (p1.1::y.1).length calls (if calls.length=0 then 0 else k) o.2).1,0⟩,(fi s (p1.1::y.1).length calls (if calls.length=0 then 0 else k) o.2).2):=by simp [gI,c8,cK,e1,e3,e4,e5,hkk]
 rw [hv,hkk]
 have hrw:(aZ (p1.1::y.1)).length=(p1.1::y.1).length:=fQ s hs _
 have hrw2:(p1.1::y.1).length=y.1.length+1:=rfl
 have hcal:(aL calls).length=calls.length:=aP _
 refine W03 ?_
 have hcon:∀i,(fi s (p1.1::y.1).length calls i o.2).1.length=i:=fun i=>xA s hs _ calls o.2 i
 generalize hKK:(if calls.length=0 then 0 else k)=KK
 have hK:∀i:Nat,i < KK↔i < k∧0 < calls.length:=fun i=>by rw [←hKK];split <;> omega
 refine aJ [0,2,6,7,12] (α:=Nat×Option (Nat×Nat)) (fun x=>[(13,aG x.1)]) (fun x=>x.1≤KK) (fun x=>[ee b s F (fi s (p1.1::y.1).length calls x.1 o.2).2,(rb,.box [.imm 1 (aZ w.1.1),.vec q1 1 (aZ (p1.1::y.1)),.imm 1 (aZ w.1.2),.vec none 1 [],.vec x.2 2 ((fi s (p1.1::y.1).length calls x.1 o.2).1.map g9),aG 0] 73),(tb,.box [bV,bV,bV,bV,bV,aG 0] 73)]++(tok x.2 171 2 ((fi s (p1.1::y.1).length calls x.1 o.2).1.map g9).length++(tok q1 22 1 (aZ (p1.1::y.1)).length++[]))) (fun x=>KK - x.1) (0,none) rfl ⟨rfl,trivial⟩ (Nat.zero_le _) (fun _ _ h=>h) ?_
 rintro ⟨i,q⟩ hi
 dsimp only at hi ⊢
 have hol:=hcon i
 have hstep:fi s (p1.1::y.1).length calls (i+1) o.2=(c8 (dr s (p1.1::y.1).length) fun a=>c8 (dr s calls.length) fun z=>cK ((fi s (p1.1::y.1).length calls i o.2).1++[(⟨a,calls.getD z.toNat 0⟩:jt)])) (fi s (p1.1::y.1).length calls i o.2).2:=rfl
 try dsimp only [Oq,Oo,Om,Oh]
 refine W01 ?_
 by_cases hik:i < KK
 ·have hik2:=(hK i).1 hik
  rw [decide_eq_true (show ((i:Nat):Int) < (k:Int) by omega)]
  refine W0y ?_
  rw [decide_eq_true (show (0:Int) < (((aL calls).length:Nat):Int) by omega)]
  generalize fi s (p1.1::y.1).length calls i o.2=st at hol hstep ⊢
  have hoil:(st.1.map g9).length=st.1.length:=Ou ..
  repeat' (first|refine O1 ?_|refine ak ?_|refine bT rfl ?_)
  refine dE [.cell (rb,4,.vec q 2 (st.1.map g9))] 16 [(0,.v),(1,.k),(2,.v),(3,.v),(4,.l),(5,.v),(7,.v),(8,.v),(9,.v),(10,.v),(6,.f),(11,.f),(12,.v),(13,.v),(14,.v),(15,.v)] none ?_ trivial rfl (by kernel_rfl) (by kernel_rfl) (by kernel_rfl) mixed (by kernel_rfl) rfl
  refine W06 ?_
  refine dU a7 0 rfl rfl rfl (bR 1 rfl rfl c6) (by first | trivial | rfl) ?_
  refine W0Z ?_
  rw [hrw]
  refine eO (bR 1 rfl rfl c6) ?_
  unfold c8 at hstep
  generalize dr s (p1.1::y.1).length st.2=g1 at hstep ⊢
  dsimp only at hstep
  repeat' (first|refine aE ?_|fail)
  rw [hcal]
  refine eO (bR 1 rfl rfl c6) ?_
  have hg:=co s hs g1.2.a (n:=calls.length) (by omega)
  have hg:0≤(dr s calls.length g1.2).1∧(dr s calls.length g1.2).1 < calls.length:=hg
  generalize dr s calls.length g1.2=g2 at hg hstep ⊢
  have hgl:(aL calls)[g2.1.toNat]?=some [aG (calls.getD g2.1.toNat 0)]:=bD (by rw [List.getD_eq_getElem?_getD,Oz (show g2.1.toNat < calls.length by omega)];rfl)
  dsimp only [cK] at hstep
  refine W1l ?_
  refine OO [0,2,6,7,12,13,68,82] KN ?_
  repeat' (first|fail)
  refine bA a7 _ rfl rfl rfl rfl (eQ (A:=[_,_,_])) (by simp;omega) (by simp;omega) rfl fun q'=>?_
  refine aX (aW (eQ (A:=[_,_,_])).symm) ?_
  refine W0d ?_
  exact aD (i+1,q') rfl ⟨by rw [Ov];rfl,trivial⟩ (by dsimp only;omega) (by dsimp only;omega) (fun _ _ h=>by dsimp only;rw [hstep];simpa [fN,eR,g9] using h)
 have hiK:i=KK:=by omega
 subst hiK
 generalize fi s (p1.1::y.1).length calls i o.2=st
 have hno:¬(i < k∧0 < calls.length):=fun h=>absurd ((hK i).2 h) (by omega)
 by_cases hik2:i < k
 ·rw [decide_eq_true (show ((i:Nat):Int) < (k:Int) by omega)]
  refine W0y ?_
  rw [decide_eq_false (show ¬(0:Int) < (((aL calls).length:Nat):Int) by omega)]
  repeat' (first|refine O1 ?_|(apply bU;first|refine OH a7 0 OB ?_|refine OH a7 1 OB ?_|refine OH a7 2 OB ?_|refine OH a7 3 OB ?_|refine OJ a7 0 OB ?_|refine OJ a7 1 OB ?_|refine OJ a7 2 OB ?_|refine OM a7 1 NZ (by assumption) rfl ?_|refine OM a7 0 NZ (by assumption) rfl ?_|fail)|(apply aO;first|refine OF a7 0 OC ?_|refine OF a7 1 OC ?_|refine OF a7 2 OC ?_|refine OF a7 3 OC ?_|fail)|refine bj rfl ?_)
  exact b7 (bB 2 (cs':=bN ⟨w.1.1,p1.1::y.1,w.1.2,[],st.1,0⟩) rfl fun σ vs h=>l8.vrs (a:=[.imm 1 (aZ w.1.1),.vec q1 1 (aZ (p1.1::y.1)),.imm 1 (aZ w.1.2),.vec none 1 [],.vec q 2 (st.1.map g9),aG 0]) (b:=bN ⟨w.1.1,p1.1::y.1,w.1.2,[],st.1,0⟩) ⟨d5.refl _,d5.im,d5.refl _,d5.im,d5.im,d5.refl _,trivial⟩ h) (iv a7 2 [ee b s F st.2] rfl rfl rfl rfl rfl (List.Sublist.cons_cons _ (List.nil_sublist _)) ⟨rfl,rfl⟩)
 ·rw [decide_eq_false (show ¬((i:Nat):Int) < (k:Int) by omega)]
  repeat' (first|refine O1 ?_|refine OE a7 KN ?_|refine OP OA ?_|(apply bU;first|refine OH a7 0 OB ?_|refine OH a7 1 OB ?_|refine OH a7 2 OB ?_|refine OH a7 3 OB ?_|refine OJ a7 0 OB ?_|refine OJ a7 1 OB ?_|refine OJ a7 2 OB ?_|refine OM a7 1 NZ (by assumption) rfl ?_|refine OM a7 0 NZ (by assumption) rfl ?_|fail)|(apply aO;first|refine OF a7 0 OC ?_|refine OF a7 1 OC ?_|refine OF a7 2 OC ?_|refine OF a7 3 OC ?_|fail)|refine bj rfl ?_)
  exact b7 (bB 2 (cs':=bN ⟨w.1.1,p1.1::y.1,w.1.2,[],st.1,0⟩) rfl fun σ vs h=>l8.vrs (a:=[.imm 1 (aZ w.1.1),.vec q1 1 (aZ (p1.1::y.1)),.imm 1 (aZ w.1.2),.vec none 1 [],.vec q 2 (st.1.map g9),aG 0]) (b:=bN ⟨w.1.1,p1.1::y.1,w.1.2,[],st.1,0⟩) ⟨d5.refl _,d5.im,d5.refl _,d5.im,d5.im,d5.refl _,trivial⟩ h) (iv a7 2 [ee b s F st.2] rfl rfl rfl rfl rfl (List.Sublist.cons_cons _ (List.nil_sublist _)) ⟨rfl,rfl⟩)
end Go.Proofs.YtamjlkdanllgjaaGreatDoor
namespace Go.Proofs.YtamjlkdanllgjaaGreatDoor
open Go.RowKit
attribute [local irreducible] AT bF AX AO Av Kt b8 d9 DA cu
set_option maxRecDepth 8000
def fF (i j:Nat) (l:bf):List AV:=[aG l.Kind,cU l.Ignore,if j < i then .imm 6 (l.Rules.map bN) else bV]
def eP (i:Nat):Nat→List bf→List AV
 | _,[]=>[]
 | k,l::r=>fF i k l++eP i (k+1) r
theorem EC (i:Nat):∀(l:List bf) (k:Nat),(eP i k l).length=l.length * 3
 | [],k=>rfl
 | x::l,k=>by
  rw [eP,List.length_append,EC i l (k+1),List.length_cons,Nat.add_mul]
  simp [fF]
  omega
theorem uu (i:Nat):∀(l:List bf) (k j c:Nat),c < 3→(eP i k l)[j * 3+c]?=(l[j]?).bind fun x=>(fF i (k+j) x)[c]?
 | [],k,j,c,_=>by simp [eP]
 | x::l,k,0,c,hc=>by
  rw [eP,List.getElem?_append_left (by simp [fF];omega)]
  simp
 | x::l,k,j+1,c,hc=>by
  rw [eP,List.getElem?_append_right (by simp [fF];omega)]
  have h1:(j+1) * 3+c - (fF i k x).length=j * 3+c:=by simp [fF];omega
  rw [h1,uu i l (k+1) j c hc,List.getElem?_cons_succ]
  rw [show k+1+j=k+(j+1) by omega]
theorem zU (i:Nat):∀(l:List bf) (k:Nat) (x:bf),eP i k (l++[x])=eP i k l++fF i (k+l.length) x
 | [],k,x=>by simp [eP]
 | y::l,k,x=>by
  rw [Oq,eP,zU i l (k+1) x,eP,List.append_assoc,List.length_cons,show k+1+l.length=k+(l.length+1) by omega]
theorem ED {i:Nat} {l:List bf} {q:bf} {rs:List bJ} (hq:l[i]?=some q):(eP i 0 l).set (i * 3+2) (.imm 6 (rs.map bN))=eP (i+1) 0 (l.set i { q with Rules:=rs }):=by
 have hil:=(Ol hq).1
 apply List.ext_getElem?
 intro p
 obtain ⟨j,c,hc,rfl⟩:∃j c,c < 3∧p=j * 3+c:=⟨p / 3,p % 3,Nat.mod_lt _ (by omega),by omega⟩
 rw [uu _ _ _ _ _ hc]
 by_cases e:i * 3+2=j * 3+c
 ·have hj:j=i:=by omega
  have hc2:c=2:=by omega
  subst hj;subst hc2
  rw [List.getElem?_set_self (by rw [EC];omega),List.getElem?_set_self hil]
  simp [fF]
 ·rw [List.getElem?_set_ne e,uu _ _ _ _ _ hc]
  by_cases hj:i=j
  ·subst hj
   rw [hq,List.getElem?_set_self hil]
   have hc2:c=0∨c=1:=by omega
   rcases hc2 with rfl | rfl <;> rfl
  ·rw [List.getElem?_set_ne hj]
   cases l[j]? with
   | none=>rfl
   | some x=>
    simp only [Option.bind_some,Nat.zero_add]
    have hc3:c=0∨c=1∨c=2:=by omega
    rcases hc3 with rfl | rfl | rfl
    ·rfl
    ·rfl
    ·simp only [fF]
     by_cases hlt:j < i
     ·rw [if_pos hlt,if_pos (by omega)]
     ·rw [if_neg hlt,if_neg (by omega)]
theorem HA {i:Nat} {l:List bf} {q:bf} (hq:l[i]?=some q) (h0:q.Rules=[]):(eP i 0 l).set (i * 3+2) (.imm 6 [])=eP (i+1) 0 l:=by
 have:=ED (rs:=[]) hq
 rw [show l.set i { q with Rules:=[] }=l from ?_] at this
 ·exact this
 ·have:({ q with Rules:=[] }:bf)=q:=by cases q;simp at h0;simp [h0]
  rw [this]
  apply List.ext_getElem?
  intro j
  by_cases e:i=j
  ·subst e;rw [List.getElem?_set_self (Ol hq).1,hq]
  ·rw [List.getElem?_set_ne e]
theorem EB:∀(l:List bf) (i k:Nat),k+l.length≤i→eP i k l=(l.map bC).flatten
 | [],i,k,_=>rfl
 | x::l,i,k,h=>by
  simp only [List.length_cons] at h
  rw [eP,EB l i (k+1) (by omega),Om,List.flatten_cons]
  congr 1
  simp only [fF]
  rw [if_pos (by omega)]
  rfl
def BW (i:Nat):Option (Nat×List AV×Nat)→AV
 | none=>bV
 | some (b,_,cap)=> .sc (.slice (some ⟨b,0,none⟩) i cap)
def Ey:Option (Nat×List AV×Nat)→AL
 | none=>[]
 | some (b,cs,_)=>[(b,.box cs 76)]
def zT (n i:Nat) (l:List bf):Option (Nat×List AV×Nat)→Prop
 | none=>n=0
 | some (_,cs,cap)=>cs.length=cap * 3∧n≤cap∧cap≤maxLen∧cs.take (n * 3)=eP i 0 l
end Go.Proofs.YtamjlkdanllgjaaGreatDoor
