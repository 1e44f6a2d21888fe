/-
  The maker: glyphs.
-/
import Derived.Test.YtamjlkdanllgjaaGreatDoorM28
namespace Go.Proofs.YtamjlkdanllgjaaGreatDoor
open Go.RowKit
attribute [local irreducible] AT bF AX AO Av Kt b8 d9 DA cu
set_option maxRecDepth 8000
variable (s:List Int) (hs:s.length≤1000000) (F:MF)
theorem Bd (a c:UInt8):(⟨#[a]⟩:ByteArray)++(⟨#[c]⟩:ByteArray)=bytes [a,c]:=by
 apply ByteArray.ext
 simp [bytes]
theorem Be (a b c:UInt8):(⟨#[a,b]⟩:ByteArray)++(⟨#[c]⟩:ByteArray)=bytes [a,b,c]:=by
 apply ByteArray.ext
 simp [bytes]
theorem Mm {z:Int} (h:0≤z∧z < 256):IntKind.wrap .u8 z=z:=by
 unfold IntKind.wrap
 simp [IntKind.signed,IntKind.bits]
 try omega
theorem wc (n:Nat) (h:n < 100):IntKind.wrap .u8 (97+(n:Int))=97+(n:Int):=Mm (by omega)
theorem zS (n:Nat) (h:n < 100):UInt8.ofNat (97+(n:Int)).toNat=(97+n).toUInt8:=by
 rw [show ((97+(n:Int))).toNat=97+n by omega]
theorem M6 {a c:Nat×AB} {T:AL}:(a::(T++[])++[c]).Perm ([a,c]++(T++[])):=List.Perm.cons a (List.perm_append_comm (l₁:=T++[]))
def lm (nm:ByteArray) (ad:Int) (mk:Bool) (o:List eM×List Int) (ps an de hi:AV):List AV:=[oh nm,aG ad,cU mk,.imm 3 (o.1.map dH),.imm 1 (aL o.2),ps,an,de,hi]
theorem AW (mark:Bool) (cl:Int) (m:MS) (k:Nat):(eX s mark cl k m).1.length≤k:=by
 refine (bX.runs (fun i (l:List dN)=>l.length≤i) k (Nat.le_refl _) fun i l _ h=>(bX.any _).bnd fun z _=>bX.ite (fun _=>(bX.any _).bnd fun x _=>(bX.any _).bnd fun y _=>bX.ret (by simp;omega)) fun _=>bX.ret (by omega)) m
theorem xN (r:Nat) (l:List dT) (m:MS) (k:Nat):(ib s r l k m).1.length≤l.length+k:=by
 refine (bX.runs (fun i (q:List dT)=>q.length≤l.length+i) k (Nat.le_refl _) fun i q _ h=>(bX.any _).bnd fun z _=>bX.ite (fun _=>(bX.any _).bnd fun x _=>bX.ite (fun _=>bX.ret (by simp;omega)) fun _=>(bX.any _).bnd fun y _=>bX.ret (by simp;omega)) fun _=>bX.ret (by omega)) m
def kC (cl:Int):List (List AV):=(ij cl).map fun p=>[aG p.1,aG p.2]
abbrev G6 (F:MF) (v:AV):MF:={ F with gl:=v }
include hs
set_option maxHeartbeats 16000000 in
theorem Ej {kg:Option (Nat×Nat)} {gl rg fu:List (List AV)} (hF:F.gl= .vec kg 9 gl) (hrg:F.rg= .imm 1 rg) (hfu:F.fu= .imm 1 fu) (R fn n:Nat) (hR:rg.length=R) (hfn:fu.length=fn) (hg:gl.length≤1000) (hRl:R≤1000) (hfl:fn≤1000) (hn:n < 100) (b:Nat) (m:MS):AC Tryz.prog 53 [Gf b,aG n] ([ee b s F m]++(tok kg 67 9 gl.length++[])) fun _ L=>∃kg',L=[ee b s (G6 F (.vec kg' 9 (gl++[bG (ku s R fn n m).1]))) (ku s R fn n m).2]++(tok kg' 67 9 (gl++[bG (ku s R fn n m).1]).length++[]):=by
 refine aQ Tryz.func53 rfl Tryz.ntmps53 rfl fun B=>?_
 repeat' (first|refine O1 ?_|fail)
 refine bk 15 [(0,.v),(1,.v),(2,.v),(3,.v),(4,.v),(5,.v),(6,.v),(10,.v),(7,.e),(8,.v),(9,.v),(11,.e),(12,.v),(13,.v)] (some (14,.box _ 67)) ?_ ⟨_,rfl,rfl,fun _ _ _=>mY (eA a7 rfl) rfl⟩ rfl (by kernel_rfl) (by kernel_rfl) (by kernel_rfl) mixed (by kernel_rfl) rfl
 refine W0q ?_
 refine DZ a7 ?_
 rw [wc n hn]
 refine W0K ?_
 refine zx a7 ?_
 rw [zS n hn]
 repeat' (first|refine aE ?_|fail)
 refine IL (hs:=Nat.le_of_ble_eq_true rfl) ?_
 rw [Bd]
 refine W06 ?_
 refine uf ?_
 have had:=co s hs m.a (n:=19) (by omega)
 have had:0≤(dr s 19 m).1∧(dr s 19 m).1 < 19:=had
 generalize e1:dr s 19 m=ad at had ⊢
 refine W11 ?_
 refine uf ?_
 generalize e2:dr s 4 ad.2=mk
 refine W06 ?_
 refine ug [0,1,4,23] (fun _=>_) (fun _=>rfl) rfl fun _=>?_
 rename_i gb
 refine aX (aW (L':=[ee b s F mk.2,(gb,.box [.sc (.string ⟨#[]⟩),aG 0,cU false,bV,bV,bV,bV,bV,bV] 67)]++(tok kg 67 9 gl.length++[])) M6) ?_
 refine W09 ?_
 refine ua [0,1,4] ([ee b s F mk.2,(gb,.box [oh (d7 n),aG (100+ad.1 * 50),cU (decide (mk.1=0) && decide (n≠0)),bV,bV,.vec none 3 [],.vec none 4 [],.vec none 4 [],bV] 67)]++(tok kg 67 9 gl.length++[])) rfl (fun Q' K=>?_) ?_
 ·refine aw rfl (fun h=>?_) (fun h=>?_)
  ·have h:n=0:=by have:=Oy h;omega
   have hm:(decide (mk.1=0) && decide (n≠0))=false:=by simp [h]
   have hgn:d7 n=F4:=if_pos h
   rw [hm,hgn] at K
   refine W09 ?_
   refine b7 (bB 1 rfl fun σ vs h=>cJ (k:=5) (c':= .vec none 3 []) (cJ (k:=6) (c':= .vec none 4 []) (cJ (k:=7) (c':= .vec none 4 []) h rfl fun v hv=>cM 4 hv) rfl fun v hv=>cM 4 hv) rfl fun v hv=>cM 3 hv) ?_
   exact K _ rfl
  ·have h:¬n=0:=by have:=Ox h;omega
   have hm:(decide (mk.1=0) && decide (n≠0))=decide (mk.1=0):=by simp [h]
   have hgn:d7 n=mE Nn n:=if_neg h
   rw [hm,hgn] at K
   repeat' (first|refine O1 ?_|fail)
   refine b7 (bB 1 rfl fun σ vs h=>cJ (k:=5) (c':= .vec none 3 []) (cJ (k:=6) (c':= .vec none 4 []) (cJ (k:=7) (c':= .vec none 4 []) h rfl fun v hv=>cM 4 hv) rfl fun v hv=>cM 4 hv) rfl fun v hv=>cM 3 hv) ?_
   exact K _ rfl
 generalize hmk:(decide (mk.1=0) && decide (n≠0))=mb
 refine W01 ?_
 refine wo (uN s hs F) ?_
 have ho:=pN s mk.2
 generalize e3:jN s mk.2=o at ho ⊢
 obtain ⟨ko,hko,hoo⟩:=ho
 have hol:=hoo.len
 unfold M3
 refine OE a7 KN ?_
 (apply aO;refine OF a7 1 OC ?_)
 refine aa ?_
 refine a8 ?_
 refine ah ?_
 refine ua [0,4] ([ee b s F (iX s n o.2).2,(gb,.box (lm (d7 n) (100+ad.1 * 50) mb o.1 (.imm 3 ((iX s n o.2).1.map eG)) (.vec none 4 []) (.vec none 4 []) bV) 67)]++(tok kg 67 9 gl.length++[])) rfl (fun Q' K=>?_) ?_
 ·refine W01 ?_
  by_cases hn1:1 < n
  ·rw [decide_eq_true (show (1:Int) < (n:Int) by omega)]
   refine W10 ?_
   refine cL ?_
   generalize e4:dr s 4 o.2=z
   refine W0y ?_
   refine aw rfl (fun h=>?_) (fun h=>?_)
   ·have h:=Oy h
    repeat' (first|fail)
    refine dE [.cell (gb,5,.vec none 3 [])] 11 [(0,.v),(1,.k),(2,.v),(6,.v),(3,.f),(4,.v),(5,.v),(7,.f),(8,.v),(9,.v),(10,.v)] none ?_ trivial rfl (by kernel_rfl) (by kernel_rfl) (by kernel_rfl) mixed (by kernel_rfl) rfl
    refine W06 ?_
    refine dU a7 0 rfl rfl rfl (bR 1 rfl rfl c6) (by first | trivial | rfl) ?_
    refine W06 ?_
    refine eO (bR 1 rfl rfl c6) ?_
    have hx:=co s hs z.2.a (n:=9) (by omega)
    have hx:0≤(dr s 9 z.2).1∧(dr s 9 z.2).1 < 9:=hx
    generalize e5:dr s 9 z.2=x at hx ⊢
    refine W11 ?_
    refine eO (bR 1 rfl rfl c6) ?_
    have hy:=co s hs x.2.a (n:=5) (by omega)
    have hy:0≤(dr s 5 x.2).1∧(dr s 5 x.2).1 < 5:=hy
    generalize e6:dr s 5 x.2=y at hy ⊢
    refine W1m ?_
    refine OO [0,4,39,48] KN ?_
    repeat' (first|fail)
    refine bA a7 _ rfl rfl rfl rfl (Ok _) (by simp) (by simp) rfl fun q'=>?_
    refine aX (bS (List.sublist_append_right _ _)) ?_
    refine W09 ?_
    have hv:iX s n o.2=([⟨1,x.1 * 50 - 200,y.1 * 50⟩],y.2):=by simp [iX,c8,cK,hn1,e4,e5,e6,h]
    rw [hv] at K
    refine b7 (bB 1 rfl fun σ vs h=>cJ (k:=5) (c':= .imm 3 ([(⟨1,x.1 * 50 - 200,y.1 * 50⟩:dW)].map eG)) h rfl fun v hv=>VR.im hv) ?_
    exact K _ rfl
   ·have h:=Ox h
    repeat' (first|refine O1 ?_|fail)
    have hv:iX s n o.2=([],z.2):=by simp [iX,c8,cK,hn1,e4,h]
    rw [hv] at K
    refine b7 (bB 1 rfl fun σ vs h=>cJ (k:=5) (c':= .imm 3 []) h rfl fun v hv=>VR.im hv) ?_
    exact K _ rfl
  ·rw [decide_eq_false (show ¬(1:Int) < (n:Int) by omega)]
   refine W0Q ?_
   have hv:iX s n o.2=([],o.2):=by simp [iX,cK,hn1]
   rw [hv] at K
   refine b7 (bB 1 rfl fun σ vs h=>cJ (k:=5) (c':= .imm 3 []) h rfl fun v hv=>VR.im hv) ?_
   exact K _ rfl
 generalize e4:iX s n o.2=ps
 refine W01 ?_
 refine cL ?_
 have hcl:=co s hs ps.2.a (n:=2) (by omega)
 have hcl:0≤(dr s 2 ps.2).1∧(dr s 2 ps.2).1 < 2:=hcl
 generalize e5:dr s 2 ps.2=cl at hcl ⊢
 refine W1b ?_
 refine aJ [0,4,5] (α:=Nat×Option (Nat×Nat)) (fun x=>[(6,aG x.1),(5,.imm 2 (kC cl.1))]) (fun x=>x.1≤5) (fun x=>[ee b s F (eX s mb cl.1 x.1 cl.2).2,(gb,.box (lm (d7 n) (100+ad.1 * 50) mb o.1 (.imm 3 (ps.1.map eG)) (.vec x.2 4 ((eX s mb cl.1 x.1 cl.2).1.map df)) (.vec none 4 []) bV) 67)]++(tok x.2 180 4 ((eX s mb cl.1 x.1 cl.2).1.map df).length++(tok kg 67 9 gl.length++[]))) (fun x=>5 - x.1) (0,none) rfl ⟨rfl,rfl,trivial⟩ (Nat.zero_le _) (fun _ _ h=>h) ?_
 rintro ⟨i,q⟩ hi
 dsimp only at hi ⊢
 have hal:=AW s mb cl.1 cl.2 i
 have hstep:eX s mb cl.1 (i+1) cl.2=(c8 (dr s 3) fun z=>if z=0∧(((ij cl.1).getD i (0,0)).1≠2∨mb=true) then c8 (dr s 21) fun x=>c8 (dr s 21) fun y=>cK ((eX s mb cl.1 i cl.2).1++[(⟨((ij cl.1).getD i (0,0)).1,((ij cl.1).getD i (0,0)).2,x * 50,y * 50 - 200⟩:dN)]) else cK (eX s mb cl.1 i cl.2).1) (eX s mb cl.1 i cl.2).2:=rfl
 try dsimp only [Oq,Oo,Om,Oh]
 refine W01 ?_
 refine aw rfl (fun h=>?_) (fun h=>?_)
 ·have hil:i < 5:=by have:=Oy h;omega
  have hka:(kC cl.1)[i]?=some [aG ((ij cl.1).getD i (0,0)).1,aG ((ij cl.1).getD i (0,0)).2]:=by
   unfold kC
   rw [List.getElem?_map,vw hil]
   rfl
  generalize eX s mb cl.1 i cl.2=st at hal hstep ⊢
  have halm:(st.1.map df).length=st.1.length:=Ou ..
  generalize (ij cl.1).getD i (0,0)=pr at hka hstep
  refine W03 ?_
  refine cL ?_
  unfold c8 at hstep
  generalize dr s 3 st.2=z at hstep ⊢
  dsimp only at hstep
  repeat' (first|refine OE a7 KN ?_)
  refine da (t:=77) [0,4,5,6] (z.1=0∧(pr.1≠2∨mb=true)) rfl (fun Q' K=>?_) ?_
  ·by_cases hz:z.1=0
   ·rw [decide_eq_true hz]
    repeat' (first|refine OE a7 KN ?_|refine ON KN ?_|(apply aV;first|refine aU a7 ?_|refine aN a7 ?_)|fail)
    refine IV a7 0 ?_
    refine W10 ?_
    by_cases h2:pr.1≠2
    ·rw [decide_eq_true h2]
     repeat' (first|refine O1 ?_|refine OE a7 KN ?_|refine ON KN ?_|refine OP OA ?_)
     exact K _ _ rfl rfl (by simp [hz,h2])
    ·rw [decide_eq_false h2]
     refine W0H ?_
     exact K _ _ rfl rfl (by simp only [ne_eq,Decidable.not_not] at h2;simp [hz,h2])
   ·rw [decide_eq_false hz]
    repeat' (first|refine O1 ?_|refine OE a7 KN ?_|refine OP OA ?_|refine dc rfl rfl rfl ?_)
    exact K _ _ rfl rfl (by simp [hz])
  repeat' (first|refine O1 ?_|fail)
  refine aw rfl (fun h=>?_) (fun h=>?_)
  ·have h:=Oy h
   rw [if_pos h] at hstep
   repeat' (first|fail)
   refine dE [.cell (gb,6,.vec q 4 (st.1.map df))] 21 [(0,.v),(1,.k),(2,.v),(3,.v),(4,.v),(5,.v),(6,.v),(7,.v),(8,.v),(9,.v),(10,.v),(11,.v),(12,.v),(15,.v),(13,.f),(14,.v),(16,.f),(17,.v),(18,.v),(19,.v),(20,.v)] none ?_ trivial rfl (by kernel_rfl) (by kernel_rfl) (by kernel_rfl) mixed (by kernel_rfl) rfl
   refine W06 ?_
   refine dU a7 0 rfl rfl rfl (bR 1 rfl rfl c6) (by first | trivial | rfl) ?_
   refine W0l ?_
   refine IK a7 0 ?_
   refine W0l ?_
   refine IK a7 1 ?_
   refine W06 ?_
   refine eO (bR 1 rfl rfl c6) ?_
   have hx:=co s hs z.2.a (n:=21) (by omega)
   have hx:0≤(dr s 21 z.2).1∧(dr s 21 z.2).1 < 21:=hx
   generalize dr s 21 z.2=x at hx hstep ⊢
   try dsimp only at hstep
   refine W11 ?_
   refine eO (bR 1 rfl rfl c6) ?_
   have hy:=co s hs x.2.a (n:=21) (by omega)
   have hy:0≤(dr s 21 x.2).1∧(dr s 21 x.2).1 < 21:=hy
   generalize dr s 21 x.2=y at hy hstep ⊢
   try dsimp only [cK] at hstep
   refine W1m ?_
   refine OO [0,4,5,6,79,98] KN ?_
   repeat' (first|fail)
   refine bA a7 _ rfl rfl rfl rfl (eQ (A:=[_,_])) (by simp;omega) (by simp;omega) rfl fun q'=>?_
   refine aX (aW (eQ (A:=[_,_])).symm) ?_
   refine W0d ?_
   exact aD (i+1,q') rfl ⟨by rw [Ov];rfl,rfl,trivial⟩ (by dsimp only;omega) (by dsimp only;omega) (fun _ _ h=>by dsimp only;rw [hstep];dsimp only;rw [List.map_append];exact h)
  ·have h:=Ox h
   rw [if_neg h] at hstep
   dsimp only [cK] at hstep
   refine W02 ?_
   exact aD (i+1,q) rfl ⟨by rw [Ov];rfl,rfl,trivial⟩ (by dsimp only;omega) (by dsimp only;omega) (fun _ _ h=>by dsimp only;rw [hstep];exact h)
 have hil:i=5:=by have:=Ox h;omega
 subst hil
 clear hstep hal
 generalize e6:eX s mb cl.1 5 cl.2=an
 refine bM (bB 1 rfl fun σ vs h=>cJ (k:=6) (c':= .imm 4 (an.1.map df)) h rfl fun v hv=>VR.im hv) ?_
 refine bM (bS (L':=[ee b s F an.2,(gb,.box (lm (d7 n) (100+ad.1 * 50) mb o.1 (.imm 3 (ps.1.map eG)) (.imm 4 (an.1.map df)) (.vec none 4 []) bV) 67)]++(tok kg 67 9 gl.length++[])) (List.Sublist.cons_cons _ (List.Sublist.cons_cons _ (List.sublist_append_right _ _)))) ?_
 have hpl:(o.1.1.map dH).length=o.1.1.length:=Ou ..
 refine W03 ?_
 refine aJ [0,4] (α:=Nat×Option (Nat×Nat)) (fun x=>[(7,aG x.1)]) (fun x=>x.1≤R) (fun x=>[ee b s F (gj s o.1.1.length x.1 an.2).2,(gb,.box (lm (d7 n) (100+ad.1 * 50) mb o.1 (.imm 3 (ps.1.map eG)) (.imm 4 (an.1.map df)) (.vec x.2 4 ((gj s o.1.1.length x.1 an.2).1.map ei)) bV) 67)]++(tok x.2 182 4 ((gj s o.1.1.length x.1 an.2).1.map ei).length++(tok kg 67 9 gl.length++[]))) (fun x=>R - x.1) (0,none) rfl ⟨rfl,trivial⟩ (Nat.zero_le _) (fun _ _ h=>h) ?_
 rintro ⟨r,q⟩ hr
 dsimp only at hr ⊢
 have hdl:=(ri s o.1.1.length r an.2).len
 have hdl:(gj s o.1.1.length r an.2).1.length≤11000:=Nat.le_trans hdl (Nat.le_trans (Nat.mul_le_mul (show r≤1000 by omega) (show o.1.1.length+1≤11 by omega)) (by omega))
 have hstep:gj s o.1.1.length (r+1) an.2=ib s r (gj s o.1.1.length r an.2).1 (o.1.1.length+1) (gj s o.1.1.length r an.2).2:=rfl
 try dsimp only [Oq,Oo,Om,Oh]
 refine W05 ?_
 rw [hrg]
 refine W01 ?_
 rw [hR]
 refine aw rfl (fun h=>?_) (fun h=>?_)
 ·have hrl:r < R:=by have:=Oy h;omega
  generalize gj s o.1.1.length r an.2=D at hdl hstep ⊢
  refine W03 ?_
  refine aJ [0,4,7] (α:=Nat×Option (Nat×Nat)) (fun x=>[(8,aG ((x.1:Int) - 1))]) (fun x=>x.1≤o.1.1.length+1) (fun x=>[ee b s F (ib s r D.1 x.1 D.2).2,(gb,.box (lm (d7 n) (100+ad.1 * 50) mb o.1 (.imm 3 (ps.1.map eG)) (.imm 4 (an.1.map df)) (.vec x.2 4 ((ib s r D.1 x.1 D.2).1.map ei)) bV) 67)]++(tok x.2 182 4 ((ib s r D.1 x.1 D.2).1.map ei).length++(tok kg 67 9 gl.length++[]))) (fun x=>o.1.1.length+1 - x.1) (0,q) rfl ⟨rfl,trivial⟩ (Nat.zero_le _) (fun _ _ h=>h) ?_
  rintro ⟨p,q⟩ hp
  dsimp only at hp ⊢
  have hel:=xN s r D.1 D.2 p
  have hst2:ib s r D.1 (p+1) D.2=(c8 (dr s 3) fun z=>if z=0 then c8 (dr s 41) fun x=>if p=0 then cK ((ib s r D.1 p D.2).1++[(⟨r,-1,x - 20,0⟩:dT)]) else c8 (dr s 41) fun y=>cK ((ib s r D.1 p D.2).1++[(⟨r,(p:Int) - 1,x - 20,y - 20⟩:dT)]) else cK (ib s r D.1 p D.2).1) (ib s r D.1 p D.2).2:=rfl
  try dsimp only [Oq,Oo,Om,Oh]
  refine W05 ?_
  refine aw rfl (fun h=>?_) (fun h=>?_)
  ·have hpp:p < o.1.1.length+1:=by have:=Oy h;rw [hpl] at this;omega
   generalize ib s r D.1 p D.2=E at hel hst2 ⊢
   have hElm:(E.1.map ei).length=E.1.length:=Ou ..
   refine W03 ?_
   refine cL ?_
   unfold c8 at hst2
   generalize dr s 3 E.2=z at hst2 ⊢
   dsimp only at hst2
   refine W01 ?_
   refine aw rfl (fun hz=>?_) (fun hz=>?_)
   ·rw [if_pos (Oy hz)] at hst2
    refine W01 ?_
    refine cL ?_
    have hx:=co s hs z.2.a (n:=41) (by omega)
    have hx:0≤(dr s 41 z.2).1∧(dr s 41 z.2).1 < 41:=hx
    generalize dr s 41 z.2=x at hx hst2 ⊢
    try dsimp only at hst2
    repeat' (first|refine O1 ?_|refine OE a7 KN ?_|(apply aS;refine aR ?_)|(apply aO;first|refine OF a7 0 OC ?_|refine OF a7 1 OC ?_|refine OF a7 2 OC ?_|refine OF a7 3 OC ?_|fail)|refine bi a7 fun _=>?_|fail)
    refine bM (aW (List.perm_middle (l₁:=[_,_])).symm) ?_
    refine aw rfl (fun h0=>?_) (fun h0=>?_)
    ·have h0:¬p=0:=by have:=Oy h0;omega
     rw [if_neg h0] at hst2
     refine W01 ?_
     refine cL ?_
     have hy:=co s hs x.2.a (n:=41) (by omega)
     have hy:0≤(dr s 41 x.2).1∧(dr s 41 x.2).1 < 41:=hy
     generalize dr s 41 x.2=y at hy hst2 ⊢
     try dsimp only [cK] at hst2
     repeat' (first|refine O1 ?_|refine OE a7 KN ?_|(apply bU;first|refine OH a7 0 OB ?_|refine OH a7 1 OB ?_|refine OH a7 2 OB ?_|refine OH a7 3 OB ?_|refine OJ a7 0 OB ?_|refine OJ a7 1 OB ?_|refine OJ a7 2 OB ?_|refine OM a7 1 NZ (by assumption) rfl ?_|refine OM a7 0 NZ (by assumption) rfl ?_|fail)|(apply aS;refine aR ?_)|(apply aO;first|refine OF a7 0 OC ?_|refine OF a7 1 OC ?_|refine OF a7 2 OC ?_|refine OF a7 3 OC ?_|fail)|refine bO a7 ?_|fail)
     refine bA a7 _ rfl rfl rfl rfl (eQ (A:=[_,_,_])) (by simp;omega) (by simp;omega) rfl fun q'=>?_
     refine aX (aW (eQ (A:=[_,_,_])).symm) ?_
     refine W0d ?_
     exact aD (p+1,q') rfl ⟨by dsimp only;rw [show ((p+1:Nat):Int) - 1=(p:Int) - 1+1 by omega];rfl,trivial⟩ (by dsimp only;omega) (by dsimp only;omega) (fun _ _ h=>by dsimp only;rw [hst2];dsimp only;rw [List.map_append];exact h.sublist (List.Sublist.cons_cons _ (List.Sublist.cons_cons _ (List.sublist_cons_self ..))))
    ·have h0:p=0:=by have:=Ox h0;omega
     rw [if_pos h0] at hst2
     try dsimp only [cK] at hst2
     refine W0b ?_
     refine bA a7 _ rfl rfl rfl rfl (eQ (A:=[_,_,_])) (by simp;omega) (by simp;omega) rfl fun q'=>?_
     refine aX (aW (eQ (A:=[_,_,_])).symm) ?_
     refine W0d ?_
     subst h0
     exact aD (0+1,q') rfl ⟨rfl,trivial⟩ (by dsimp only;omega) (by dsimp only;omega) (fun _ _ h=>by dsimp only;rw [hst2];dsimp only;rw [List.map_append];exact h.sublist (List.Sublist.cons_cons _ (List.Sublist.cons_cons _ (List.sublist_cons_self ..))))
   ·rw [if_neg (Ox hz)] at hst2
    try dsimp only [cK] at hst2
    refine W02 ?_
    exact aD (p+1,q) rfl ⟨by dsimp only;rw [show ((p+1:Nat):Int) - 1=(p:Int) - 1+1 by omega];rfl,trivial⟩ (by dsimp only;omega) (by dsimp only;omega) (fun _ _ h=>by dsimp only;rw [hst2];exact h)
  have hpp:p=o.1.1.length+1:=by have:=Ox h;rw [hpl] at this;omega
  subst hpp
  refine W02 ?_
  exact aD (r+1,q) rfl ⟨by rw [Ov];rfl,trivial⟩ (by dsimp only;omega) (by dsimp only;omega) (fun _ _ h=>by dsimp only;rw [hstep];exact h)
 have hrl:r=R:=by have:=Ox h;omega
 subst hrl
 clear hstep hdl
 generalize e7:gj s o.1.1.length r an.2=de
 refine W09 ?_
 refine bM (aW (L':=[ee b s F (hQ 2 de.2).2,(gb,.box (lm (d7 n) (100+ad.1 * 50) mb o.1 (.imm 3 (ps.1.map eG)) (.imm 4 (an.1.map df)) (.vec q 4 (de.1.map ei)) bV) 67)]++(tok q 182 4 (de.1.map ei).length++(tok kg 67 9 gl.length++[]))) (Ok _)) ?_
 refine bM (bB 1 rfl fun σ vs h=>cJ (k:=7) (c':= .imm 4 (de.1.map ei)) h rfl fun v hv=>VR.im hv) ?_
 refine bM (bS (L':=[ee b s F (hQ 2 de.2).2,(gb,.box (lm (d7 n) (100+ad.1 * 50) mb o.1 (.imm 3 (ps.1.map eG)) (.imm 4 (an.1.map df)) (.imm 4 (de.1.map ei)) bV) 67)]++(tok kg 67 9 gl.length++[])) (List.Sublist.cons_cons _ (List.Sublist.cons_cons _ (List.sublist_append_right _ _)))) ?_
 generalize e8:(hQ 2 de.2).2=w
 refine bk 11 [(0,.v),(1,.v),(2,.v),(3,.l),(4,.v),(5,.v),(6,.v),(7,.v),(8,.v),(9,.l),(10,.v)] none ?_ trivial rfl (by kernel_rfl) (by kernel_rfl) (by kernel_rfl) mixed (by kernel_rfl) rfl
 repeat' (first|refine aE ?_|refine b6 a7 ?_|refine cW a7 0 rfl rfl rfl rfl (by first|trivial|rfl) ?_|refine cW a7 1 rfl rfl rfl rfl (by first|trivial|rfl) ?_)
 rw [hfu]
 repeat' (first|refine b6 a7 ?_|fail)
 rw [hfn,hpl]
 refine OO [0,4,143,147,153] KN ?_
 refine wo (tw s hs F (n:=o.1.1.length) (fn:=fn) (most:=6) (by omega) (by omega) (by omega)) ?_
 generalize e9:nw s o.1.1.length fn 6 w=hi
 unfold jE
 refine W09 ?_
 refine bM (aW (L':=[ee b s F hi.2,(gb,.box (lm (d7 n) (100+ad.1 * 50) mb o.1 (.imm 3 (ps.1.map eG)) (.imm 4 (an.1.map df)) (.imm 4 (de.1.map ei)) (.imm 2 (hi.1.map dX))) 67)]++(tok kg 67 9 gl.length++[])) (Ok _)) ?_
 refine bk 9 [(0,.v),(1,.v),(2,.v),(3,.v),(4,.v),(5,.l),(6,.l),(7,.v),(8,.e)] none ?_ trivial rfl (by kernel_rfl) (by kernel_rfl) (by kernel_rfl) mixed (by kernel_rfl) rfl
 repeat' (first|refine aE ?_|refine b6 a7 ?_|refine ec a7 ?_|refine cW a7 0 rfl rfl rfl rfl (by first|trivial|rfl) ?_|refine qm a7 1 rfl rfl rfl rfl (by first|trivial|rfl) ?_)
 rw [hF]
 refine fj a7 _ rfl rfl rfl rfl (eQ (A:=[_,_])) (by simp;omega) (by simp;omega) (by first | trivial | rfl) fun q'=>?_
 refine OO [156,164] KN ?_
 refine aX (aW (eQ (A:=[_,_])).symm) ?_
 refine W09 ?_
 have hv:ku s r fn n m=(⟨d7 n,100+ad.1 * 50,mb,o.1.1,o.1.2,ps.1,an.1,de.1,hi.1⟩,hi.2):=by
  unfold ku c8
  rw [e1]
  try dsimp only
  rw [e2]
  try dsimp only
  rw [e3]
  try dsimp only
  rw [e4]
  try dsimp only
  rw [e5,hmk]
  try dsimp only
  rw [e6]
  try dsimp only
  rw [e7]
  try dsimp only
  rw [e8,e9]
  rfl
 rw [hv]
 exact b7 (bS (L':=[ee b s (G6 F (.vec q' 9 (gl++[bG ⟨d7 n,100+ad.1 * 50,mb,o.1.1,o.1.2,ps.1,an.1,de.1,hi.1⟩]))) hi.2]++(tok q' 67 9 (gl++[bG ⟨d7 n,100+ad.1 * 50,mb,o.1.1,o.1.2,ps.1,an.1,de.1,hi.1⟩]).length++[])) (List.Sublist.cons_cons _ (List.sublist_cons_self ..))) (cN rfl ⟨q',rfl⟩)
end Go.Proofs.YtamjlkdanllgjaaGreatDoor
