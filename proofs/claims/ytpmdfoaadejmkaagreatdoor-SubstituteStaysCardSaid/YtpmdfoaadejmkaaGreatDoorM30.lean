/-
  The maker: glyphs.
-/
import Derived.Test.YtpmdfoaadejmkaaGreatDoorM29
namespace Go.Proofs.YtpmdfoaadejmkaaGreatDoor
open Go.RowKit
attribute [local irreducible] AT bv AX AO Av Kt b9 dh DA cE
variable (s:List Int) (hs:s.length≤1000000) (F:MF)
theorem xV (a c:UInt8):(⟨#[a]⟩:ByteArray)++(⟨#[c]⟩:ByteArray)=bytes [a,c]:=by
 apply ByteArray.ext
 simp [bytes]
theorem xW (a b c:UInt8):(⟨#[a,b]⟩:ByteArray)++(⟨#[c]⟩:ByteArray)=bytes [a,b,c]:=by
 apply ByteArray.ext
 simp [bytes]
theorem Hd {z:Int} (h:0≤z∧z < 256):IntKind.wrap .u8 z=z:=by
 unfold IntKind.wrap
 simp [IntKind.signed,IntKind.bits]
 try omega
theorem u9 (n:Nat) (h:n < 100):IntKind.wrap .u8 (97+(n:Int))=97+(n:Int):=Hd (by omega)
theorem x3 (n:Nat) (h:n < 100):UInt8.ofNat (97+(n:Int)).toNat=(97+n).toUInt8:=by
 rw [show ((97+(n:Int))).toNat=97+n by omega]
theorem H1 {a c:Nat×AB} {T:AL}:(a::(T++[])++[c]).Perm ([a,c]++(T++[])):=List.Perm.cons a (List.perm_append_comm (l₁:=T++[]))
def kD (nm:ByteArray) (ad:Int) (mk:Bool) (o:List er×List Int) (ps an de hi:AV):List AV:=[uZ nm,aF ad,ec mk,.imm 3 (o.1.map dq),.imm 1 (aT o.2),ps,an,de,hi]
theorem xH (mark:Bool) (cl:Int) (m:MS) (k:Nat):(eB s mark cl k m).1.length≤k:=by
 refine (bL.runs (fun i (l:List di)=>l.length≤i) k (Nat.le_refl _) fun i l _ h=>(bL.any _).bnd fun z _=>bL.ite (fun _=>(bL.any _).bnd fun x _=>(bL.any _).bnd fun y _=>bL.ret (by simp;omega)) fun _=>bL.ret (by omega)) m
theorem vx (r:Nat) (l:List dw) (m:MS) (k:Nat):(gK s r l k m).1.length≤l.length+k:=by
 refine (bL.runs (fun i (q:List dw)=>q.length≤l.length+i) k (Nat.le_refl _) fun i q _ h=>(bL.any _).bnd fun z _=>bL.ite (fun _=>(bL.any _).bnd fun x _=>bL.ite (fun _=>bL.ret (by simp;omega)) fun _=>(bL.any _).bnd fun y _=>bL.ret (by simp;omega)) fun _=>bL.ret (by omega)) m
def kC (cl:Int):List (List AV):=(fU cl).map fun p=>[aF p.1,aF p.2]
abbrev CD (F:MF) (v:AV):MF:={ F with gl:=v }
include hs
set_option maxHeartbeats 16000000 in
theorem B6 {kg:Option (Nat×Nat)} {gl rg fu:List (List AV)} (hF:F.gl= .vec kg 9 gl) (hrg:F.rg= .imm 1 rg) (hfu:F.fu= .imm 1 fu) (R fn n:Nat) (hR:rg.length=R) (hfn:fu.length=fn) (hg:gl.length≤1000) (hRl:R≤1000) (hfl:fn≤1000) (hn:n < 100) (b:Nat) (m:MS):AC Tryz.prog 91 [CJ b,aF n] ([dH b s F m]++(tok kg 76 9 gl.length++[])) fun _ L=>∃kg',L=[dH b s (CD F (.vec kg' 9 (gl++[bG (jI s R fn n m).1]))) (jI s R fn n m).2]++(tok kg' 76 9 (gl++[bG (jI s R fn n m).1]).length++[]):=by
 refine aL Tryz.func91 rfl Tryz.ntmps91 rfl fun B=>?_
 repeat' (first|refine IT ?_|fail)
 refine bA 15 [(0,.v),(1,.v),(2,.v),(3,.v),(4,.v),(5,.v),(6,.v),(10,.v),(7,.e),(8,.v),(9,.v),(11,.e),(12,.v),(13,.v)] (some (14,.box _ 76)) ?_ ⟨_,rfl,rfl,fun _ _ _=>lZ (ez a5 rfl) rfl⟩ rfl (by kernel_rfl) (by kernel_rfl) (by kernel_rfl) bU (by kernel_rfl) rfl
 repeat' (first|refine aD ?_|refine b8 a5 ?_|(apply ek;refine fH ?_)|fail)
 refine Aw a5 ?_
 rw [u9 n hn]
 repeat' (first|refine aD ?_|refine dR a5 ?_|fail)
 refine wN a5 ?_
 rw [x3 n hn]
 repeat' (first|refine aD ?_|fail)
 refine EF (hs:=Nat.le_of_ble_eq_true rfl) ?_
 rw [xV]
 repeat' (first|refine aD ?_|refine b8 a5 ?_|fail)
 refine sg ?_
 have had:=cg s hs m.a (n:=19) (by omega)
 have had:0≤(dr s 19 m).1∧(dr s 19 m).1 < 19:=had
 generalize e1:dr s 19 m=ad at had ⊢
 repeat' (first|refine aD ?_|(apply ek;refine fH ?_)|fail)
 refine sg ?_
 generalize e2:dr s 4 ad.2=mk
 repeat' (first|refine aD ?_|refine b8 a5 ?_|fail)
 refine wQ [0,1,4,23] (fun _=>_) (fun _=>rfl) rfl fun _=>?_
 rename_i gb
 refine aJ (aI (L':=[dH b s F mk.2,(gb,.box [.sc (.string ⟨#[]⟩),aF 0,ec false,bI,bI,bI,bI,bI,bI] 76)]++(tok kg 76 9 gl.length++[])) H1) ?_
 repeat' (first|refine IT ?_|refine IF a5 G9 ?_|(apply aK;first|refine IG a5 0 ID ?_|refine IG a5 1 ID ?_|refine IG a5 2 ID ?_|refine IG a5 3 ID ?_|fail))
 refine sd [0,1,4] ([dH b s F mk.2,(gb,.box [uZ (cD n),aF (100+ad.1 * 50),ec (decide (mk.1=0) && decide (n≠0)),bI,bI,.vec none 3 [],.vec none 4 [],.vec none 4 [],bI] 76)]++(tok kg 76 9 gl.length++[])) rfl (fun Q' K=>?_) ?_
 ·refine ar rfl (fun h=>?_) (fun h=>?_)
  ·have h:n=0:=by have:=Iy h;omega
   have hm:(decide (mk.1=0) && decide (n≠0))=false:=by simp [h]
   have hgn:cD n=BP:=if_pos h
   rw [hm,hgn] at K
   repeat' (first|refine IT ?_|refine IF a5 G9 ?_|(apply aK;first|refine IG a5 0 ID ?_|refine IG a5 1 ID ?_|refine IG a5 2 ID ?_|refine IG a5 3 ID ?_|fail))
   refine bh (bq 1 rfl fun σ vs h=>cr (k:=5) (c':= .vec none 3 []) (cr (k:=6) (c':= .vec none 4 []) (cr (k:=7) (c':= .vec none 4 []) h rfl fun v hv=>cL 4 hv) rfl fun v hv=>cL 4 hv) rfl fun v hv=>cL 3 hv) ?_
   exact K _ rfl
  ·have h:¬n=0:=by have:=Ix h;omega
   have hm:(decide (mk.1=0) && decide (n≠0))=decide (mk.1=0):=by simp [h]
   have hgn:cD n=iQ I3 n:=if_neg h
   rw [hm,hgn] at K
   repeat' (first|refine IT ?_|fail)
   refine bh (bq 1 rfl fun σ vs h=>cr (k:=5) (c':= .vec none 3 []) (cr (k:=6) (c':= .vec none 4 []) (cr (k:=7) (c':= .vec none 4 []) h rfl fun v hv=>cL 4 hv) rfl fun v hv=>cL 4 hv) rfl fun v hv=>cL 3 hv) ?_
   exact K _ rfl
 generalize hmk:(decide (mk.1=0) && decide (n≠0))=mb
 repeat' (first|refine IT ?_|refine IF a5 G9 ?_)
 refine uh (sQ s hs F) ?_
 have ho:=og s mk.2
 generalize e3:je s mk.2=o at ho ⊢
 obtain ⟨ko,hko,hoo⟩:=ho
 have hol:=hoo.len
 unfold GY
 refine IF a5 G9 ?_
 (apply aK;refine IG a5 1 ID ?_)
 refine a7 ?_
 refine a6 ?_
 refine a9 ?_
 refine sd [0,4] ([dH b s F (iw s n o.2).2,(gb,.box (kD (cD n) (100+ad.1 * 50) mb o.1 (.imm 3 ((iw s n o.2).1.map ep)) (.vec none 4 []) (.vec none 4 []) bI) 76)]++(tok kg 76 9 gl.length++[])) rfl (fun Q' K=>?_) ?_
 ·repeat' (first|refine IT ?_|refine IF a5 G9 ?_)
  by_cases hn1:1 < n
  ·rw [decide_eq_true (show (1:Int) < (n:Int) by omega)]
   repeat' (first|refine IF a5 G9 ?_|refine IM G9 ?_)
   refine cu ?_
   generalize e4:dr s 4 o.2=z
   repeat' (first|refine IT ?_|refine IF a5 G9 ?_|refine IM G9 ?_)
   refine ar rfl (fun h=>?_) (fun h=>?_)
   ·have h:=Iy h
    repeat' (first|fail)
    refine d8 [.cell (gb,5,.vec none 3 [])] 11 [(0,.v),(1,.k),(2,.v),(6,.v),(3,.f),(4,.v),(5,.v),(7,.f),(8,.v),(9,.v),(10,.v)] none ?_ trivial rfl (by kernel_rfl) (by kernel_rfl) (by kernel_rfl) bU (by kernel_rfl) rfl
    repeat' (first|refine aD ?_|refine b8 a5 ?_|fail)
    refine dx a5 0 rfl rfl rfl (bF 1 rfl rfl bT) (by first | trivial | rfl) ?_
    repeat' (first|refine aD ?_|refine b8 a5 ?_|fail)
    refine eu (bF 1 rfl rfl bT) ?_
    have hx:=cg s hs z.2.a (n:=9) (by omega)
    have hx:0≤(dr s 9 z.2).1∧(dr s 9 z.2).1 < 9:=hx
    generalize e5:dr s 9 z.2=x at hx ⊢
    repeat' (first|refine aD ?_|(apply ek;refine fH ?_)|fail)
    refine eu (bF 1 rfl rfl bT) ?_
    have hy:=cg s hs x.2.a (n:=5) (by omega)
    have hy:0≤(dr s 5 x.2).1∧(dr s 5 x.2).1 < 5:=hy
    generalize e6:dr s 5 x.2=y at hy ⊢
    repeat' (first|refine aD ?_|refine b8 a5 ?_|(apply ek;refine fH ?_)|refine dR a5 ?_|fail)
    refine IQ [0,4,39,48] G9 ?_
    repeat' (first|fail)
    refine bM a5 _ rfl rfl rfl rfl (Jt _) (by simp) (by simp) rfl fun q'=>?_
    refine aJ (bO (List.sublist_append_right _ _)) ?_
    repeat' (first|refine IT ?_|refine IF a5 G9 ?_|(apply aK;first|refine IG a5 0 ID ?_|refine IG a5 1 ID ?_|refine IG a5 2 ID ?_|refine IG a5 3 ID ?_|fail))
    have hv:iw s n o.2=([⟨1,x.1 * 50 - 200,y.1 * 50⟩],y.2):=by simp [iw,bX,ret,hn1,e4,e5,e6,h]
    rw [hv] at K
    refine bh (bq 1 rfl fun σ vs h=>cr (k:=5) (c':= .imm 3 ([(⟨1,x.1 * 50 - 200,y.1 * 50⟩:dC)].map ep)) h rfl fun v hv=>VR.im hv) ?_
    exact K _ rfl
   ·have h:=Ix h
    repeat' (first|refine IT ?_|fail)
    have hv:iw s n o.2=([],z.2):=by simp [iw,bX,ret,hn1,e4,h]
    rw [hv] at K
    refine bh (bq 1 rfl fun σ vs h=>cr (k:=5) (c':= .imm 3 []) h rfl fun v hv=>VR.im hv) ?_
    exact K _ rfl
  ·rw [decide_eq_false (show ¬(1:Int) < (n:Int) by omega)]
   repeat' (first|refine IT ?_|refine IF a5 G9 ?_|refine IP IB ?_|refine bK rfl ?_)
   have hv:iw s n o.2=([],o.2):=by simp [iw,ret,hn1]
   rw [hv] at K
   refine bh (bq 1 rfl fun σ vs h=>cr (k:=5) (c':= .imm 3 []) h rfl fun v hv=>VR.im hv) ?_
   exact K _ rfl
 generalize e4:iw s n o.2=ps
 repeat' (first|refine IT ?_|refine IF a5 G9 ?_)
 refine cu ?_
 have hcl:=cg s hs ps.2.a (n:=2) (by omega)
 have hcl:0≤(dr s 2 ps.2).1∧(dr s 2 ps.2).1 < 2:=hcl
 generalize e5:dr s 2 ps.2=cl at hcl ⊢
 repeat' (first|refine IT ?_|refine am ?_|refine IF a5 G9 ?_|refine bH a5 ?_|fail)
 refine aO [0,4,5] (α:=Nat×Option (Nat×Nat)) (fun x=>[(6,aF x.1),(5,.imm 2 (kC cl.1))]) (fun x=>x.1≤5) (fun x=>[dH b s F (eB s mb cl.1 x.1 cl.2).2,(gb,.box (kD (cD n) (100+ad.1 * 50) mb o.1 (.imm 3 (ps.1.map ep)) (.vec x.2 4 ((eB s mb cl.1 x.1 cl.2).1.map cY)) (.vec none 4 []) bI) 76)]++(tok x.2 113 4 ((eB s mb cl.1 x.1 cl.2).1.map cY).length++(tok kg 76 9 gl.length++[]))) (fun x=>5 - x.1) (0,none) rfl ⟨rfl,rfl,trivial⟩ (Nat.zero_le _) (fun _ _ h=>h) ?_
 rintro ⟨i,q⟩ hi
 dsimp only at hi ⊢
 have hal:=xH s mb cl.1 cl.2 i
 have hstep:eB s mb cl.1 (i+1) cl.2=(bX (dr s 3) fun z=>if z=0∧(((fU cl.1).getD i (0,0)).1≠2∨mb=true) then bX (dr s 21) fun x=>bX (dr s 21) fun y=>ret ((eB s mb cl.1 i cl.2).1++[(⟨((fU cl.1).getD i (0,0)).1,((fU cl.1).getD i (0,0)).2,x * 50,y * 50 - 200⟩:di)]) else ret (eB s mb cl.1 i cl.2).1) (eB s mb cl.1 i cl.2).2:=rfl
 try dsimp only [Jx,Jw,Jv,Jq]
 repeat' (first|refine IT ?_|refine IF a5 G9 ?_)
 refine ar rfl (fun h=>?_) (fun h=>?_)
 ·have hil:i < 5:=by have:=Iy h;omega
  have hka:(kC cl.1)[i]?=some [aF ((fU cl.1).getD i (0,0)).1,aF ((fU cl.1).getD i (0,0)).2]:=by
   unfold kC
   rw [List.getElem?_map,tj hil]
   rfl
  generalize eB s mb cl.1 i cl.2=st at hal hstep ⊢
  have halm:(st.1.map cY).length=st.1.length:=Jz ..
  generalize (fU cl.1).getD i (0,0)=pr at hka hstep
  repeat' (first|refine IT ?_|refine am ?_|refine IF a5 G9 ?_)
  refine cu ?_
  unfold bX at hstep
  generalize dr s 3 st.2=z at hstep ⊢
  dsimp only at hstep
  repeat' (first|refine IF a5 G9 ?_)
  refine df (t:=77) [0,4,5,6] (z.1=0∧(pr.1≠2∨mb=true)) rfl (fun Q' K=>?_) ?_
  ·by_cases hz:z.1=0
   ·rw [decide_eq_true hz]
    repeat' (first|refine IF a5 G9 ?_|refine IM G9 ?_|(apply aS;first|refine aQ a5 ?_|refine aG a5 ?_)|fail)
    refine GV a5 0 ?_
    repeat' (first|refine IF a5 G9 ?_|refine IM G9 ?_)
    by_cases h2:pr.1≠2
    ·rw [decide_eq_true h2]
     repeat' (first|refine IT ?_|refine IF a5 G9 ?_|refine IM G9 ?_|refine IP IB ?_)
     exact K _ _ rfl rfl (by simp [hz,h2])
    ·rw [decide_eq_false h2]
     repeat' (first|refine IT ?_|refine IF a5 G9 ?_|refine IM G9 ?_|(apply bw;first|refine II a5 0 IC ?_|refine II a5 1 IC ?_|refine II a5 2 IC ?_|refine II a5 3 IC ?_|refine IJ a5 0 IC ?_|refine IJ a5 1 IC ?_|refine IJ a5 2 IC ?_|refine IK a5 1 IA (by assumption) rfl ?_|refine IK a5 0 IA (by assumption) rfl ?_|fail)|fail)
     exact K _ _ rfl rfl (by simp only [ne_eq,Decidable.not_not] at h2;simp [hz,h2])
   ·rw [decide_eq_false hz]
    repeat' (first|refine IT ?_|refine IF a5 G9 ?_|refine IP IB ?_|refine dm rfl rfl rfl ?_)
    exact K _ _ rfl rfl (by simp [hz])
  repeat' (first|refine IT ?_|fail)
  refine ar rfl (fun h=>?_) (fun h=>?_)
  ·have h:=Iy h
   rw [if_pos h] at hstep
   repeat' (first|fail)
   refine d8 [.cell (gb,6,.vec q 4 (st.1.map cY))] 21 [(0,.v),(1,.k),(2,.v),(3,.v),(4,.v),(5,.v),(6,.v),(7,.v),(8,.v),(9,.v),(10,.v),(11,.v),(12,.v),(15,.v),(13,.f),(14,.v),(16,.f),(17,.v),(18,.v),(19,.v),(20,.v)] none ?_ trivial rfl (by kernel_rfl) (by kernel_rfl) (by kernel_rfl) bU (by kernel_rfl) rfl
   repeat' (first|refine aD ?_|refine b8 a5 ?_|fail)
   refine dx a5 0 rfl rfl rfl (bF 1 rfl rfl bT) (by first | trivial | rfl) ?_
   repeat' (first|refine aD ?_|refine b8 a5 ?_|(apply cB;refine cT a5 ?_)|fail)
   refine EE a5 0 ?_
   repeat' (first|refine aD ?_|refine b8 a5 ?_|(apply cB;refine cT a5 ?_)|fail)
   refine EE a5 1 ?_
   repeat' (first|refine aD ?_|refine b8 a5 ?_|fail)
   refine eu (bF 1 rfl rfl bT) ?_
   have hx:=cg s hs z.2.a (n:=21) (by omega)
   have hx:0≤(dr s 21 z.2).1∧(dr s 21 z.2).1 < 21:=hx
   generalize dr s 21 z.2=x at hx hstep ⊢
   try dsimp only at hstep
   repeat' (first|refine aD ?_|(apply ek;refine fH ?_)|fail)
   refine eu (bF 1 rfl rfl bT) ?_
   have hy:=cg s hs x.2.a (n:=21) (by omega)
   have hy:0≤(dr s 21 x.2).1∧(dr s 21 x.2).1 < 21:=hy
   generalize dr s 21 x.2=y at hy hstep ⊢
   try dsimp only [ret] at hstep
   repeat' (first|refine aD ?_|refine b8 a5 ?_|(apply ek;refine fH ?_)|refine dR a5 ?_|fail)
   refine IQ [0,4,5,6,79,98] G9 ?_
   repeat' (first|fail)
   refine bM a5 _ rfl rfl rfl rfl (ew (A:=[_,_])) (by simp;omega) (by simp;omega) rfl fun q'=>?_
   refine aJ (aI (ew (A:=[_,_])).symm) ?_
   repeat' (first|refine IT ?_|refine IF a5 G9 ?_|(apply aV;refine aU ?_)|(apply aK;first|refine IG a5 0 ID ?_|refine IG a5 1 ID ?_|refine IG a5 2 ID ?_|refine IG a5 3 ID ?_|fail))
   exact aC (i+1,q') rfl ⟨by rw [Iv];rfl,rfl,trivial⟩ (by dsimp only;omega) (by dsimp only;omega) (fun _ _ h=>by dsimp only;rw [hstep];dsimp only;rw [List.map_append];exact h)
  ·have h:=Ix h
   rw [if_neg h] at hstep
   dsimp only [ret] at hstep
   repeat' (first|refine IT ?_|refine IF a5 G9 ?_|(apply aV;refine aU ?_)|fail)
   exact aC (i+1,q) rfl ⟨by rw [Iv];rfl,rfl,trivial⟩ (by dsimp only;omega) (by dsimp only;omega) (fun _ _ h=>by dsimp only;rw [hstep];exact h)
 have hil:i=5:=by have:=Ix h;omega
 subst hil
 clear hstep hal
 generalize e6:eB s mb cl.1 5 cl.2=an
 refine bP (bq 1 rfl fun σ vs h=>cr (k:=6) (c':= .imm 4 (an.1.map cY)) h rfl fun v hv=>VR.im hv) ?_
 refine bP (bO (L':=[dH b s F an.2,(gb,.box (kD (cD n) (100+ad.1 * 50) mb o.1 (.imm 3 (ps.1.map ep)) (.imm 4 (an.1.map cY)) (.vec none 4 []) bI) 76)]++(tok kg 76 9 gl.length++[])) (List.Sublist.cons_cons _ (List.Sublist.cons_cons _ (List.sublist_append_right _ _)))) ?_
 have hpl:(o.1.1.map dq).length=o.1.1.length:=Jz ..
 repeat' (first|refine IT ?_|refine am ?_|refine IF a5 G9 ?_)
 refine aO [0,4] (α:=Nat×Option (Nat×Nat)) (fun x=>[(7,aF x.1)]) (fun x=>x.1≤R) (fun x=>[dH b s F (fW s o.1.1.length x.1 an.2).2,(gb,.box (kD (cD n) (100+ad.1 * 50) mb o.1 (.imm 3 (ps.1.map ep)) (.imm 4 (an.1.map cY)) (.vec x.2 4 ((fW s o.1.1.length x.1 an.2).1.map dL)) bI) 76)]++(tok x.2 115 4 ((fW s o.1.1.length x.1 an.2).1.map dL).length++(tok kg 76 9 gl.length++[]))) (fun x=>R - x.1) (0,none) rfl ⟨rfl,trivial⟩ (Nat.zero_le _) (fun _ _ h=>h) ?_
 rintro ⟨r,q⟩ hr
 dsimp only at hr ⊢
 have hdl:=(px s o.1.1.length r an.2).len
 have hdl:(fW s o.1.1.length r an.2).1.length≤11000:=Nat.le_trans hdl (Nat.le_trans (Nat.mul_le_mul (show r≤1000 by omega) (show o.1.1.length+1≤11 by omega)) (by omega))
 have hstep:fW s o.1.1.length (r+1) an.2=gK s r (fW s o.1.1.length r an.2).1 (o.1.1.length+1) (fW s o.1.1.length r an.2).2:=rfl
 try dsimp only [Jx,Jw,Jv,Jq]
 repeat' (first|refine IT ?_|refine IF a5 G9 ?_|(apply bw;first|refine II a5 0 IC ?_|refine II a5 1 IC ?_|refine II a5 2 IC ?_|refine II a5 3 IC ?_|refine IJ a5 0 IC ?_|refine IJ a5 1 IC ?_|refine IJ a5 2 IC ?_|refine IK a5 1 IA (by assumption) rfl ?_|refine IK a5 0 IA (by assumption) rfl ?_|fail)|fail)
 rw [hrg]
 repeat' (first|refine IT ?_|refine IF a5 G9 ?_)
 rw [hR]
 refine ar rfl (fun h=>?_) (fun h=>?_)
 ·have hrl:r < R:=by have:=Iy h;omega
  generalize fW s o.1.1.length r an.2=D at hdl hstep ⊢
  repeat' (first|refine IT ?_|refine am ?_|refine IF a5 G9 ?_)
  refine aO [0,4,7] (α:=Nat×Option (Nat×Nat)) (fun x=>[(8,aF ((x.1:Int) - 1))]) (fun x=>x.1≤o.1.1.length+1) (fun x=>[dH b s F (gK s r D.1 x.1 D.2).2,(gb,.box (kD (cD n) (100+ad.1 * 50) mb o.1 (.imm 3 (ps.1.map ep)) (.imm 4 (an.1.map cY)) (.vec x.2 4 ((gK s r D.1 x.1 D.2).1.map dL)) bI) 76)]++(tok x.2 115 4 ((gK s r D.1 x.1 D.2).1.map dL).length++(tok kg 76 9 gl.length++[]))) (fun x=>o.1.1.length+1 - x.1) (0,q) rfl ⟨rfl,trivial⟩ (Nat.zero_le _) (fun _ _ h=>h) ?_
  rintro ⟨p,q⟩ hp
  dsimp only at hp ⊢
  have hel:=vx s r D.1 D.2 p
  have hst2:gK s r D.1 (p+1) D.2=(bX (dr s 3) fun z=>if z=0 then bX (dr s 41) fun x=>if p=0 then ret ((gK s r D.1 p D.2).1++[(⟨r,-1,x - 20,0⟩:dw)]) else bX (dr s 41) fun y=>ret ((gK s r D.1 p D.2).1++[(⟨r,(p:Int) - 1,x - 20,y - 20⟩:dw)]) else ret (gK s r D.1 p D.2).1) (gK s r D.1 p D.2).2:=rfl
  try dsimp only [Jx,Jw,Jv,Jq]
  repeat' (first|refine IT ?_|refine IF a5 G9 ?_|(apply bw;first|refine II a5 0 IC ?_|refine II a5 1 IC ?_|refine II a5 2 IC ?_|refine II a5 3 IC ?_|refine IJ a5 0 IC ?_|refine IJ a5 1 IC ?_|refine IJ a5 2 IC ?_|refine IK a5 1 IA (by assumption) rfl ?_|refine IK a5 0 IA (by assumption) rfl ?_|fail)|fail)
  refine ar rfl (fun h=>?_) (fun h=>?_)
  ·have hpp:p < o.1.1.length+1:=by have:=Iy h;rw [hpl] at this;omega
   generalize gK s r D.1 p D.2=E at hel hst2 ⊢
   have hElm:(E.1.map dL).length=E.1.length:=Jz ..
   repeat' (first|refine IT ?_|refine am ?_|refine IF a5 G9 ?_)
   refine cu ?_
   unfold bX at hst2
   generalize dr s 3 E.2=z at hst2 ⊢
   dsimp only at hst2
   repeat' (first|refine IT ?_|refine IF a5 G9 ?_)
   refine ar rfl (fun hz=>?_) (fun hz=>?_)
   ·rw [if_pos (Iy hz)] at hst2
    repeat' (first|refine IT ?_|refine IF a5 G9 ?_)
    refine cu ?_
    have hx:=cg s hs z.2.a (n:=41) (by omega)
    have hx:0≤(dr s 41 z.2).1∧(dr s 41 z.2).1 < 41:=hx
    generalize dr s 41 z.2=x at hx hst2 ⊢
    try dsimp only at hst2
    repeat' (first|refine IT ?_|refine IF a5 G9 ?_|(apply aV;refine aU ?_)|(apply aK;first|refine IG a5 0 ID ?_|refine IG a5 1 ID ?_|refine IG a5 2 ID ?_|refine IG a5 3 ID ?_|fail)|refine bi a5 fun _=>?_|fail)
    refine bP (aI (List.perm_middle (l₁:=[_,_])).symm) ?_
    refine ar rfl (fun h0=>?_) (fun h0=>?_)
    ·have h0:¬p=0:=by have:=Iy h0;omega
     rw [if_neg h0] at hst2
     repeat' (first|refine IT ?_|refine IF a5 G9 ?_)
     refine cu ?_
     have hy:=cg s hs x.2.a (n:=41) (by omega)
     have hy:0≤(dr s 41 x.2).1∧(dr s 41 x.2).1 < 41:=hy
     generalize dr s 41 x.2=y at hy hst2 ⊢
     try dsimp only [ret] at hst2
     repeat' (first|refine IT ?_|refine IF a5 G9 ?_|(apply bw;first|refine II a5 0 IC ?_|refine II a5 1 IC ?_|refine II a5 2 IC ?_|refine II a5 3 IC ?_|refine IJ a5 0 IC ?_|refine IJ a5 1 IC ?_|refine IJ a5 2 IC ?_|refine IK a5 1 IA (by assumption) rfl ?_|refine IK a5 0 IA (by assumption) rfl ?_|fail)|(apply aV;refine aU ?_)|(apply aK;first|refine IG a5 0 ID ?_|refine IG a5 1 ID ?_|refine IG a5 2 ID ?_|refine IG a5 3 ID ?_|fail)|refine bH a5 ?_|fail)
     refine bM a5 _ rfl rfl rfl rfl (ew (A:=[_,_,_])) (by simp;omega) (by simp;omega) rfl fun q'=>?_
     refine aJ (aI (ew (A:=[_,_,_])).symm) ?_
     repeat' (first|refine IT ?_|refine IF a5 G9 ?_|(apply aV;refine aU ?_)|(apply aK;first|refine IG a5 0 ID ?_|refine IG a5 1 ID ?_|refine IG a5 2 ID ?_|refine IG a5 3 ID ?_|fail))
     exact aC (p+1,q') rfl ⟨by dsimp only;rw [show ((p+1:Nat):Int) - 1=(p:Int) - 1+1 by omega];rfl,trivial⟩ (by dsimp only;omega) (by dsimp only;omega) (fun _ _ h=>by dsimp only;rw [hst2];dsimp only;rw [List.map_append];exact h.sublist (List.Sublist.cons_cons _ (List.Sublist.cons_cons _ (List.sublist_cons_self ..))))
    ·have h0:p=0:=by have:=Ix h0;omega
     rw [if_pos h0] at hst2
     try dsimp only [ret] at hst2
     repeat' (first|refine IT ?_|refine IF a5 G9 ?_|(apply bw;first|refine II a5 0 IC ?_|refine II a5 1 IC ?_|refine II a5 2 IC ?_|refine II a5 3 IC ?_|refine IJ a5 0 IC ?_|refine IJ a5 1 IC ?_|refine IJ a5 2 IC ?_|refine IK a5 1 IA (by assumption) rfl ?_|refine IK a5 0 IA (by assumption) rfl ?_|fail)|refine bH a5 ?_|fail)
     refine bM a5 _ rfl rfl rfl rfl (ew (A:=[_,_,_])) (by simp;omega) (by simp;omega) rfl fun q'=>?_
     refine aJ (aI (ew (A:=[_,_,_])).symm) ?_
     repeat' (first|refine IT ?_|refine IF a5 G9 ?_|(apply aV;refine aU ?_)|(apply aK;first|refine IG a5 0 ID ?_|refine IG a5 1 ID ?_|refine IG a5 2 ID ?_|refine IG a5 3 ID ?_|fail))
     subst h0
     exact aC (0+1,q') rfl ⟨rfl,trivial⟩ (by dsimp only;omega) (by dsimp only;omega) (fun _ _ h=>by dsimp only;rw [hst2];dsimp only;rw [List.map_append];exact h.sublist (List.Sublist.cons_cons _ (List.Sublist.cons_cons _ (List.sublist_cons_self ..))))
   ·rw [if_neg (Ix hz)] at hst2
    try dsimp only [ret] at hst2
    repeat' (first|refine IT ?_|refine IF a5 G9 ?_|(apply aV;refine aU ?_)|fail)
    exact aC (p+1,q) rfl ⟨by dsimp only;rw [show ((p+1:Nat):Int) - 1=(p:Int) - 1+1 by omega];rfl,trivial⟩ (by dsimp only;omega) (by dsimp only;omega) (fun _ _ h=>by dsimp only;rw [hst2];exact h)
  have hpp:p=o.1.1.length+1:=by have:=Ix h;rw [hpl] at this;omega
  subst hpp
  repeat' (first|refine IT ?_|refine IF a5 G9 ?_|(apply aV;refine aU ?_)|fail)
  exact aC (r+1,q) rfl ⟨by rw [Iv];rfl,trivial⟩ (by dsimp only;omega) (by dsimp only;omega) (fun _ _ h=>by dsimp only;rw [hstep];exact h)
 have hrl:r=R:=by have:=Ix h;omega
 subst hrl
 clear hstep hdl
 generalize e7:fW s o.1.1.length r an.2=de
 repeat' (first|refine IT ?_|refine IF a5 G9 ?_|(apply aK;first|refine IG a5 0 ID ?_|refine IG a5 1 ID ?_|refine IG a5 2 ID ?_|refine IG a5 3 ID ?_|fail))
 refine bP (aI (L':=[dH b s F (gD 2 de.2).2,(gb,.box (kD (cD n) (100+ad.1 * 50) mb o.1 (.imm 3 (ps.1.map ep)) (.imm 4 (an.1.map cY)) (.vec q 4 (de.1.map dL)) bI) 76)]++(tok q 115 4 (de.1.map dL).length++(tok kg 76 9 gl.length++[]))) (Jt _)) ?_
 refine bP (bq 1 rfl fun σ vs h=>cr (k:=7) (c':= .imm 4 (de.1.map dL)) h rfl fun v hv=>VR.im hv) ?_
 refine bP (bO (L':=[dH b s F (gD 2 de.2).2,(gb,.box (kD (cD n) (100+ad.1 * 50) mb o.1 (.imm 3 (ps.1.map ep)) (.imm 4 (an.1.map cY)) (.imm 4 (de.1.map dL)) bI) 76)]++(tok kg 76 9 gl.length++[])) (List.Sublist.cons_cons _ (List.Sublist.cons_cons _ (List.sublist_append_right _ _)))) ?_
 generalize e8:(gD 2 de.2).2=w
 refine bA 11 [(0,.v),(1,.v),(2,.v),(3,.l),(4,.v),(5,.v),(6,.v),(7,.v),(8,.v),(9,.l),(10,.v)] none ?_ trivial rfl (by kernel_rfl) (by kernel_rfl) (by kernel_rfl) bU (by kernel_rfl) rfl
 repeat' (first|refine aD ?_|refine b8 a5 ?_|refine bZ a5 0 rfl rfl rfl rfl (by first|trivial|rfl) ?_|refine bZ a5 1 rfl rfl rfl rfl (by first|trivial|rfl) ?_)
 rw [hfu]
 repeat' (first|refine b8 a5 ?_|fail)
 rw [hfn,hpl]
 refine IQ [0,4,143,147,153] G9 ?_
 refine uh (ry s hs F (n:=o.1.1.length) (fn:=fn) (most:=6) (by omega) (by omega) (by omega)) ?_
 generalize e9:mn s o.1.1.length fn 6 w=hi
 unfold j5
 repeat' (first|refine IT ?_|refine IF a5 G9 ?_|(apply aK;first|refine IG a5 0 ID ?_|refine IG a5 1 ID ?_|refine IG a5 2 ID ?_|refine IG a5 3 ID ?_|fail))
 refine bP (aI (L':=[dH b s F hi.2,(gb,.box (kD (cD n) (100+ad.1 * 50) mb o.1 (.imm 3 (ps.1.map ep)) (.imm 4 (an.1.map cY)) (.imm 4 (de.1.map dL)) (.imm 2 (hi.1.map eK))) 76)]++(tok kg 76 9 gl.length++[])) (Jt _)) ?_
 refine bA 9 [(0,.v),(1,.v),(2,.v),(3,.v),(4,.v),(5,.l),(6,.l),(7,.v),(8,.e)] none ?_ trivial rfl (by kernel_rfl) (by kernel_rfl) (by kernel_rfl) bU (by kernel_rfl) rfl
 repeat' (first|refine aD ?_|refine b8 a5 ?_|refine dR a5 ?_|refine bZ a5 0 rfl rfl rfl rfl (by first|trivial|rfl) ?_|refine oO a5 1 rfl rfl rfl rfl (by first|trivial|rfl) ?_)
 rw [hF]
 refine eV a5 _ rfl rfl rfl rfl (ew (A:=[_,_])) (by simp;omega) (by simp;omega) (by first | trivial | rfl) fun q'=>?_
 refine IQ [156,164] G9 ?_
 refine aJ (aI (ew (A:=[_,_])).symm) ?_
 repeat' (first|refine IT ?_|refine IF a5 G9 ?_|(apply aK;first|refine IG a5 0 ID ?_|refine IG a5 1 ID ?_|refine IG a5 2 ID ?_|refine IG a5 3 ID ?_|fail))
 have hv:jI s r fn n m=(⟨cD n,100+ad.1 * 50,mb,o.1.1,o.1.2,ps.1,an.1,de.1,hi.1⟩,hi.2):=by
  unfold jI bX
  rw [e1]
  try dsimp only
  rw [e2]
  try dsimp only
  rw [e3]
  try dsimp only
  rw [e4]
  try dsimp only
  rw [e5,hmk]
  try dsimp only
  rw [e6]
  try dsimp only
  rw [e7]
  try dsimp only
  rw [e8,e9]
  rfl
 rw [hv]
 exact bh (bO (L':=[dH b s (CD F (.vec q' 9 (gl++[bG ⟨cD n,100+ad.1 * 50,mb,o.1.1,o.1.2,ps.1,an.1,de.1,hi.1⟩]))) hi.2]++(tok q' 76 9 (gl++[bG ⟨cD n,100+ad.1 * 50,mb,o.1.1,o.1.2,ps.1,an.1,de.1,hi.1⟩]).length++[])) (List.Sublist.cons_cons _ (List.sublist_cons_self ..))) (cA rfl ⟨q',rfl⟩)
end Go.Proofs.YtpmdfoaadejmkaaGreatDoor
