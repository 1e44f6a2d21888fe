/-
  The maker: glyphs.
-/
import Derived.Test.YtpmdfoaadejmkaaGreatDoorM29
namespace Go.Proofs.YtpmdfoaadejmkaaGreatDoor
open Go.RowKit
attribute [local irreducible] AT br AX AO Av Kt bb df DA cC
variable (s:List Int) (hs:s.length≤1000000) (F:MF)
theorem xG (a c:UInt8):(⟨#[a]⟩:ByteArray)++(⟨#[c]⟩:ByteArray)=bytes [a,c]:=by
 apply ByteArray.ext
 simp [bytes]
theorem xH (a b c:UInt8):(⟨#[a,b]⟩:ByteArray)++(⟨#[c]⟩:ByteArray)=bytes [a,b,c]:=by
 apply ByteArray.ext
 simp [bytes]
theorem GT {z:Int} (h:0≤z∧z < 256):IntKind.wrap .u8 z=z:=by
 unfold IntKind.wrap
 simp [IntKind.signed,IntKind.bits]
 try omega
theorem tX (n:Nat) (h:n < 100):IntKind.wrap .u8 (97+(n:Int))=97+(n:Int):=GT (by omega)
theorem wQ (n:Nat) (h:n < 100):UInt8.ofNat (97+(n:Int)).toNat=(97+n).toUInt8:=by
 rw [show ((97+(n:Int))).toNat=97+n by omega]
theorem GG {a c:Nat×AB} {T:AL}:(a::(T++[])++[c]).Perm ([a,c]++(T++[])):=List.Perm.cons a (List.perm_append_comm (l₁:=T++[]))
def kB (nm:ByteArray) (ad:Int) (mk:Bool) (o:List ep×List Int) (ps an de hi:AV):List AV:=[uL nm,aF ad,ej mk,.imm 3 (o.1.map dm),.imm 1 (aT o.2),ps,an,de,hi]
theorem xt (mark:Bool) (cl:Int) (m:MS) (k:Nat):(ez s mark cl k m).1.length≤k:=by
 refine (bK.runs (fun i (l:List dg)=>l.length≤i) k (Nat.le_refl _) fun i l _ h=>(bK.any _).bnd fun z _=>bK.ite (fun _=>(bK.any _).bnd fun x _=>(bK.any _).bnd fun y _=>bK.ret (by simp;omega)) fun _=>bK.ret (by omega)) m
theorem vi (r:Nat) (l:List dw) (m:MS) (k:Nat):(gM s r l k m).1.length≤l.length+k:=by
 refine (bK.runs (fun i (q:List dw)=>q.length≤l.length+i) k (Nat.le_refl _) fun i q _ h=>(bK.any _).bnd fun z _=>bK.ite (fun _=>(bK.any _).bnd fun x _=>bK.ite (fun _=>bK.ret (by simp;omega)) fun _=>(bK.any _).bnd fun y _=>bK.ret (by simp;omega)) fun _=>bK.ret (by omega)) m
def kC (cl:Int):List (List AV):=(fX cl).map fun p=>[aF p.1,aF p.2]
abbrev Ce (F:MF) (v:AV):MF:={ F with gl:=v }
include hs
set_option maxHeartbeats 16000000 in
theorem AF {kg:Option (Nat×Nat)} {gl rg fu:List (List AV)} (hF:F.gl= .vec kg 9 gl) (hrg:F.rg= .imm 1 rg) (hfu:F.fu= .imm 1 fu) (R fn n:Nat) (hR:rg.length=R) (hfn:fu.length=fn) (hg:gl.length≤1000) (hRl:R≤1000) (hfl:fn≤1000) (hn:n < 100) (b:Nat) (m:MS):AC Tryz.prog 91 [Cm b,aF n] ([dG b s F m]++(tok kg 76 9 gl.length++[])) fun _ L=>∃kg',L=[dG b s (Ce F (.vec kg' 9 (gl++[bL (jH s R fn n m).1]))) (jH s R fn n m).2]++(tok kg' 76 9 (gl++[bL (jH s R fn n m).1]).length++[]):=by
 refine aN Tryz.func91 rfl Tryz.ntmps91 rfl fun B=>?_
 repeat' (first|refine If ?_|fail)
 refine bz 15 [(0,.v),(1,.v),(2,.v),(3,.v),(4,.v),(5,.v),(6,.v),(10,.v),(7,.e),(8,.v),(9,.v),(11,.e),(12,.v),(13,.v)] (some (14,.box _ 76)) ?_ ⟨_,rfl,rfl,fun _ _ _=>m6 (ew a5 rfl) rfl⟩ rfl (by kernel_rfl) (by kernel_rfl) (by kernel_rfl) bT (by kernel_rfl) rfl
 repeat' (first|refine aC ?_|refine b6 a5 ?_|(apply dW;refine fz ?_)|fail)
 refine A6 a5 ?_
 rw [tX n hn]
 repeat' (first|refine aC ?_|refine dS a5 ?_|fail)
 refine wC a5 ?_
 rw [wQ n hn]
 repeat' (first|refine aC ?_|fail)
 refine Ei (hs:=Nat.le_of_ble_eq_true rfl) ?_
 rw [xG]
 repeat' (first|refine aC ?_|refine b6 a5 ?_|fail)
 refine s3 ?_
 have had:=cg s hs m.a (n:=19) (by omega)
 have had:0≤(dr s 19 m).1∧(dr s 19 m).1 < 19:=had
 generalize e1:dr s 19 m=ad at had ⊢
 repeat' (first|refine aC ?_|(apply dW;refine fz ?_)|fail)
 refine s3 ?_
 generalize e2:dr s 4 ad.2=mk
 repeat' (first|refine aC ?_|refine b6 a5 ?_|fail)
 refine wF [0,1,4,23] (fun _=>_) (fun _=>rfl) rfl fun _=>?_
 rename_i gb
 refine aJ (aI (L':=[dG b s F mk.2,(gb,.box [.sc (.string ⟨#[]⟩),aF 0,ej false,bF,bF,bF,bF,bF,bF] 76)]++(tok kg 76 9 gl.length++[])) GG) ?_
 repeat' (first|refine If ?_|refine IF a5 FN ?_|(apply aM;first|refine IG a5 0 ID ?_|refine IG a5 1 ID ?_|refine IG a5 2 ID ?_|refine IG a5 3 ID ?_|fail))
 refine rY [0,1,4] ([dG b s F mk.2,(gb,.box [uL (cD n),aF (100+ad.1 * 50),ej (decide (mk.1=0) && decide (n≠0)),bF,bF,.vec none 3 [],.vec none 4 [],.vec none 4 [],bF] 76)]++(tok kg 76 9 gl.length++[])) rfl (fun Q' K=>?_) ?_
 ·refine aq rfl (fun h=>?_) (fun h=>?_)
  ·have h:n=0:=by have:=Iy h;omega
   have hm:(decide (mk.1=0) && decide (n≠0))=false:=by simp [h]
   have hgn:cD n=Bu:=if_pos h
   rw [hm,hgn] at K
   repeat' (first|refine If ?_|refine IF a5 FN ?_|(apply aM;first|refine IG a5 0 ID ?_|refine IG a5 1 ID ?_|refine IG a5 2 ID ?_|refine IG a5 3 ID ?_|fail))
   refine bf (bo 1 rfl fun σ vs h=>cr (k:=5) (c':= .vec none 3 []) (cr (k:=6) (c':= .vec none 4 []) (cr (k:=7) (c':= .vec none 4 []) h rfl fun v hv=>cJ 4 hv) rfl fun v hv=>cJ 4 hv) rfl fun v hv=>cJ 3 hv) ?_
   exact K _ rfl
  ·have h:¬n=0:=by have:=Ix h;omega
   have hm:(decide (mk.1=0) && decide (n≠0))=decide (mk.1=0):=by simp [h]
   have hgn:cD n=iP HK n:=if_neg h
   rw [hm,hgn] at K
   repeat' (first|refine If ?_|fail)
   refine bf (bo 1 rfl fun σ vs h=>cr (k:=5) (c':= .vec none 3 []) (cr (k:=6) (c':= .vec none 4 []) (cr (k:=7) (c':= .vec none 4 []) h rfl fun v hv=>cJ 4 hv) rfl fun v hv=>cJ 4 hv) rfl fun v hv=>cJ 3 hv) ?_
   exact K _ rfl
 generalize hmk:(decide (mk.1=0) && decide (n≠0))=mb
 repeat' (first|refine If ?_|refine IF a5 FN ?_)
 refine u5 (sE s hs F) ?_
 have ho:=od s mk.2
 generalize e3:jd s mk.2=o at ho ⊢
 obtain ⟨ko,hko,hoo⟩:=ho
 have hol:=hoo.len
 unfold GD
 refine IF a5 FN ?_
 (apply aM;refine IG a5 1 ID ?_)
 refine a7 ?_
 refine a6 ?_
 refine a9 ?_
 refine rY [0,4] ([dG b s F (it s n o.2).2,(gb,.box (kB (cD n) (100+ad.1 * 50) mb o.1 (.imm 3 ((it s n o.2).1.map eo)) (.vec none 4 []) (.vec none 4 []) bF) 76)]++(tok kg 76 9 gl.length++[])) rfl (fun Q' K=>?_) ?_
 ·repeat' (first|refine If ?_|refine IF a5 FN ?_)
  by_cases hn1:1 < n
  ·rw [decide_eq_true (show (1:Int) < (n:Int) by omega)]
   repeat' (first|refine IF a5 FN ?_|refine IN FN ?_)
   refine cu ?_
   generalize e4:dr s 4 o.2=z
   repeat' (first|refine If ?_|refine IF a5 FN ?_|refine IN FN ?_)
   refine aq rfl (fun h=>?_) (fun h=>?_)
   ·have h:=Iy h
    repeat' (first|fail)
    refine d7 [.cell (gb,5,.vec none 3 [])] 11 [(0,.v),(1,.k),(2,.v),(6,.v),(3,.f),(4,.v),(5,.v),(7,.f),(8,.v),(9,.v),(10,.v)] none ?_ trivial rfl (by kernel_rfl) (by kernel_rfl) (by kernel_rfl) bT (by kernel_rfl) rfl
    repeat' (first|refine aC ?_|refine b6 a5 ?_|fail)
    refine dx a5 0 rfl rfl rfl (bD 1 rfl rfl bS) (by first | trivial | rfl) ?_
    repeat' (first|refine aC ?_|refine b6 a5 ?_|fail)
    refine er (bD 1 rfl rfl bS) ?_
    have hx:=cg s hs z.2.a (n:=9) (by omega)
    have hx:0≤(dr s 9 z.2).1∧(dr s 9 z.2).1 < 9:=hx
    generalize e5:dr s 9 z.2=x at hx ⊢
    repeat' (first|refine aC ?_|(apply dW;refine fz ?_)|fail)
    refine er (bD 1 rfl rfl bS) ?_
    have hy:=cg s hs x.2.a (n:=5) (by omega)
    have hy:0≤(dr s 5 x.2).1∧(dr s 5 x.2).1 < 5:=hy
    generalize e6:dr s 5 x.2=y at hy ⊢
    repeat' (first|refine aC ?_|refine b6 a5 ?_|(apply dW;refine fz ?_)|refine dS a5 ?_|fail)
    refine IQ [0,4,39,48] FN ?_
    repeat' (first|fail)
    refine bJ a5 _ rfl rfl rfl rfl (Io _) (by simp) (by simp) rfl fun q'=>?_
    refine aJ (bM (List.sublist_append_right _ _)) ?_
    repeat' (first|refine If ?_|refine IF a5 FN ?_|(apply aM;first|refine IG a5 0 ID ?_|refine IG a5 1 ID ?_|refine IG a5 2 ID ?_|refine IG a5 3 ID ?_|fail))
    have hv:it s n o.2=([⟨1,x.1 * 50 - 200,y.1 * 50⟩],y.2):=by simp [it,bX,ret,hn1,e4,e5,e6,h]
    rw [hv] at K
    refine bf (bo 1 rfl fun σ vs h=>cr (k:=5) (c':= .imm 3 ([(⟨1,x.1 * 50 - 200,y.1 * 50⟩:dB)].map eo)) h rfl fun v hv=>VR.im hv) ?_
    exact K _ rfl
   ·have h:=Ix h
    repeat' (first|refine If ?_|fail)
    have hv:it s n o.2=([],z.2):=by simp [it,bX,ret,hn1,e4,h]
    rw [hv] at K
    refine bf (bo 1 rfl fun σ vs h=>cr (k:=5) (c':= .imm 3 []) h rfl fun v hv=>VR.im hv) ?_
    exact K _ rfl
  ·rw [decide_eq_false (show ¬(1:Int) < (n:Int) by omega)]
   repeat' (first|refine If ?_|refine IF a5 FN ?_|refine IP IB ?_|refine bI rfl ?_)
   have hv:it s n o.2=([],o.2):=by simp [it,ret,hn1]
   rw [hv] at K
   refine bf (bo 1 rfl fun σ vs h=>cr (k:=5) (c':= .imm 3 []) h rfl fun v hv=>VR.im hv) ?_
   exact K _ rfl
 generalize e4:it s n o.2=ps
 repeat' (first|refine If ?_|refine IF a5 FN ?_)
 refine cu ?_
 have hcl:=cg s hs ps.2.a (n:=2) (by omega)
 have hcl:0≤(dr s 2 ps.2).1∧(dr s 2 ps.2).1 < 2:=hcl
 generalize e5:dr s 2 ps.2=cl at hcl ⊢
 repeat' (first|refine If ?_|refine ak ?_|refine IF a5 FN ?_|refine bG a5 ?_|fail)
 refine aO [0,4,5] (α:=Nat×Option (Nat×Nat)) (fun x=>[(6,aF x.1),(5,.imm 2 (kC cl.1))]) (fun x=>x.1≤5) (fun x=>[dG b s F (ez s mb cl.1 x.1 cl.2).2,(gb,.box (kB (cD n) (100+ad.1 * 50) mb o.1 (.imm 3 (ps.1.map eo)) (.vec x.2 4 ((ez s mb cl.1 x.1 cl.2).1.map cX)) (.vec none 4 []) bF) 76)]++(tok x.2 113 4 ((ez s mb cl.1 x.1 cl.2).1.map cX).length++(tok kg 76 9 gl.length++[]))) (fun x=>5 - x.1) (0,none) rfl ⟨rfl,rfl,trivial⟩ (Nat.zero_le _) (fun _ _ h=>h) ?_
 rintro ⟨i,q⟩ hi
 dsimp only at hi ⊢
 have hal:=xt s mb cl.1 cl.2 i
 have hstep:ez s mb cl.1 (i+1) cl.2=(bX (dr s 3) fun z=>if z=0∧(((fX cl.1).getD i (0,0)).1≠2∨mb=true) then bX (dr s 21) fun x=>bX (dr s 21) fun y=>ret ((ez s mb cl.1 i cl.2).1++[(⟨((fX cl.1).getD i (0,0)).1,((fX cl.1).getD i (0,0)).2,x * 50,y * 50 - 200⟩:dg)]) else ret (ez s mb cl.1 i cl.2).1) (ez s mb cl.1 i cl.2).2:=rfl
 try dsimp only [Is,Ir,Iq,Ik]
 repeat' (first|refine If ?_|refine IF a5 FN ?_)
 refine aq rfl (fun h=>?_) (fun h=>?_)
 ·have hil:i < 5:=by have:=Iy h;omega
  have hka:(kC cl.1)[i]?=some [aF ((fX cl.1).getD i (0,0)).1,aF ((fX cl.1).getD i (0,0)).2]:=by
   unfold kC
   rw [List.getElem?_map,t8 hil]
   rfl
  generalize ez s mb cl.1 i cl.2=st at hal hstep ⊢
  have halm:(st.1.map cX).length=st.1.length:=Iu ..
  generalize (fX cl.1).getD i (0,0)=pr at hka hstep
  repeat' (first|refine If ?_|refine ak ?_|refine IF a5 FN ?_)
  refine cu ?_
  unfold bX at hstep
  generalize dr s 3 st.2=z at hstep ⊢
  dsimp only at hstep
  repeat' (first|refine IF a5 FN ?_)
  refine da (t:=77) [0,4,5,6] (z.1=0∧(pr.1≠2∨mb=true)) rfl (fun Q' K=>?_) ?_
  ·by_cases hz:z.1=0
   ·rw [decide_eq_true hz]
    repeat' (first|refine IF a5 FN ?_|refine IN FN ?_|(apply aS;first|refine aR a5 ?_|refine aH a5 ?_)|fail)
    refine GA a5 0 ?_
    repeat' (first|refine IF a5 FN ?_|refine IN FN ?_)
    by_cases h2:pr.1≠2
    ·rw [decide_eq_true h2]
     repeat' (first|refine If ?_|refine IF a5 FN ?_|refine IN FN ?_|refine IP IB ?_)
     exact K _ _ rfl rfl (by simp [hz,h2])
    ·rw [decide_eq_false h2]
     repeat' (first|refine If ?_|refine IF a5 FN ?_|refine IN FN ?_|(apply bw;first|refine II a5 0 IC ?_|refine II a5 1 IC ?_|refine II a5 2 IC ?_|refine II a5 3 IC ?_|refine IJ a5 0 IC ?_|refine IJ a5 1 IC ?_|refine IJ a5 2 IC ?_|refine IK a5 1 IA (by assumption) rfl ?_|refine IK a5 0 IA (by assumption) rfl ?_|fail)|fail)
     exact K _ _ rfl rfl (by simp only [ne_eq,Decidable.not_not] at h2;simp [hz,h2])
   ·rw [decide_eq_false hz]
    repeat' (first|refine If ?_|refine IF a5 FN ?_|refine IP IB ?_|refine dl rfl rfl rfl ?_)
    exact K _ _ rfl rfl (by simp [hz])
  repeat' (first|refine If ?_|fail)
  refine aq rfl (fun h=>?_) (fun h=>?_)
  ·have h:=Iy h
   rw [if_pos h] at hstep
   repeat' (first|fail)
   refine d7 [.cell (gb,6,.vec q 4 (st.1.map cX))] 21 [(0,.v),(1,.k),(2,.v),(3,.v),(4,.v),(5,.v),(6,.v),(7,.v),(8,.v),(9,.v),(10,.v),(11,.v),(12,.v),(15,.v),(13,.f),(14,.v),(16,.f),(17,.v),(18,.v),(19,.v),(20,.v)] none ?_ trivial rfl (by kernel_rfl) (by kernel_rfl) (by kernel_rfl) bT (by kernel_rfl) rfl
   repeat' (first|refine aC ?_|refine b6 a5 ?_|fail)
   refine dx a5 0 rfl rfl rfl (bD 1 rfl rfl bS) (by first | trivial | rfl) ?_
   repeat' (first|refine aC ?_|refine b6 a5 ?_|(apply cB;refine cS a5 ?_)|fail)
   refine Eh a5 0 ?_
   repeat' (first|refine aC ?_|refine b6 a5 ?_|(apply cB;refine cS a5 ?_)|fail)
   refine Eh a5 1 ?_
   repeat' (first|refine aC ?_|refine b6 a5 ?_|fail)
   refine er (bD 1 rfl rfl bS) ?_
   have hx:=cg s hs z.2.a (n:=21) (by omega)
   have hx:0≤(dr s 21 z.2).1∧(dr s 21 z.2).1 < 21:=hx
   generalize dr s 21 z.2=x at hx hstep ⊢
   try dsimp only at hstep
   repeat' (first|refine aC ?_|(apply dW;refine fz ?_)|fail)
   refine er (bD 1 rfl rfl bS) ?_
   have hy:=cg s hs x.2.a (n:=21) (by omega)
   have hy:0≤(dr s 21 x.2).1∧(dr s 21 x.2).1 < 21:=hy
   generalize dr s 21 x.2=y at hy hstep ⊢
   try dsimp only [ret] at hstep
   repeat' (first|refine aC ?_|refine b6 a5 ?_|(apply dW;refine fz ?_)|refine dS a5 ?_|fail)
   refine IQ [0,4,5,6,79,98] FN ?_
   repeat' (first|fail)
   refine bJ a5 _ rfl rfl rfl rfl (ev (A:=[_,_])) (by simp;omega) (by simp;omega) rfl fun q'=>?_
   refine aJ (aI (ev (A:=[_,_])).symm) ?_
   repeat' (first|refine If ?_|refine IF a5 FN ?_|(apply aV;refine aU ?_)|(apply aM;first|refine IG a5 0 ID ?_|refine IG a5 1 ID ?_|refine IG a5 2 ID ?_|refine IG a5 3 ID ?_|fail))
   exact aD (i+1,q') rfl ⟨by rw [Iv];rfl,rfl,trivial⟩ (by dsimp only;omega) (by dsimp only;omega) (fun _ _ h=>by dsimp only;rw [hstep];dsimp only;rw [List.map_append];exact h)
  ·have h:=Ix h
   rw [if_neg h] at hstep
   dsimp only [ret] at hstep
   repeat' (first|refine If ?_|refine IF a5 FN ?_|(apply aV;refine aU ?_)|fail)
   exact aD (i+1,q) rfl ⟨by rw [Iv];rfl,rfl,trivial⟩ (by dsimp only;omega) (by dsimp only;omega) (fun _ _ h=>by dsimp only;rw [hstep];exact h)
 have hil:i=5:=by have:=Ix h;omega
 subst hil
 clear hstep hal
 generalize e6:ez s mb cl.1 5 cl.2=an
 refine bP (bo 1 rfl fun σ vs h=>cr (k:=6) (c':= .imm 4 (an.1.map cX)) h rfl fun v hv=>VR.im hv) ?_
 refine bP (bM (L':=[dG b s F an.2,(gb,.box (kB (cD n) (100+ad.1 * 50) mb o.1 (.imm 3 (ps.1.map eo)) (.imm 4 (an.1.map cX)) (.vec none 4 []) bF) 76)]++(tok kg 76 9 gl.length++[])) (List.Sublist.cons_cons _ (List.Sublist.cons_cons _ (List.sublist_append_right _ _)))) ?_
 have hpl:(o.1.1.map dm).length=o.1.1.length:=Iu ..
 repeat' (first|refine If ?_|refine ak ?_|refine IF a5 FN ?_)
 refine aO [0,4] (α:=Nat×Option (Nat×Nat)) (fun x=>[(7,aF x.1)]) (fun x=>x.1≤R) (fun x=>[dG b s F (fZ s o.1.1.length x.1 an.2).2,(gb,.box (kB (cD n) (100+ad.1 * 50) mb o.1 (.imm 3 (ps.1.map eo)) (.imm 4 (an.1.map cX)) (.vec x.2 4 ((fZ s o.1.1.length x.1 an.2).1.map dM)) bF) 76)]++(tok x.2 115 4 ((fZ s o.1.1.length x.1 an.2).1.map dM).length++(tok kg 76 9 gl.length++[]))) (fun x=>R - x.1) (0,none) rfl ⟨rfl,trivial⟩ (Nat.zero_le _) (fun _ _ h=>h) ?_
 rintro ⟨r,q⟩ hr
 dsimp only at hr ⊢
 have hdl:=(pu s o.1.1.length r an.2).len
 have hdl:(fZ s o.1.1.length r an.2).1.length≤11000:=Nat.le_trans hdl (Nat.le_trans (Nat.mul_le_mul (show r≤1000 by omega) (show o.1.1.length+1≤11 by omega)) (by omega))
 have hstep:fZ s o.1.1.length (r+1) an.2=gM s r (fZ s o.1.1.length r an.2).1 (o.1.1.length+1) (fZ s o.1.1.length r an.2).2:=rfl
 try dsimp only [Is,Ir,Iq,Ik]
 repeat' (first|refine If ?_|refine IF a5 FN ?_|(apply bw;first|refine II a5 0 IC ?_|refine II a5 1 IC ?_|refine II a5 2 IC ?_|refine II a5 3 IC ?_|refine IJ a5 0 IC ?_|refine IJ a5 1 IC ?_|refine IJ a5 2 IC ?_|refine IK a5 1 IA (by assumption) rfl ?_|refine IK a5 0 IA (by assumption) rfl ?_|fail)|fail)
 rw [hrg]
 repeat' (first|refine If ?_|refine IF a5 FN ?_)
 rw [hR]
 refine aq rfl (fun h=>?_) (fun h=>?_)
 ·have hrl:r < R:=by have:=Iy h;omega
  generalize fZ s o.1.1.length r an.2=D at hdl hstep ⊢
  repeat' (first|refine If ?_|refine ak ?_|refine IF a5 FN ?_)
  refine aO [0,4,7] (α:=Nat×Option (Nat×Nat)) (fun x=>[(8,aF ((x.1:Int) - 1))]) (fun x=>x.1≤o.1.1.length+1) (fun x=>[dG b s F (gM s r D.1 x.1 D.2).2,(gb,.box (kB (cD n) (100+ad.1 * 50) mb o.1 (.imm 3 (ps.1.map eo)) (.imm 4 (an.1.map cX)) (.vec x.2 4 ((gM s r D.1 x.1 D.2).1.map dM)) bF) 76)]++(tok x.2 115 4 ((gM s r D.1 x.1 D.2).1.map dM).length++(tok kg 76 9 gl.length++[]))) (fun x=>o.1.1.length+1 - x.1) (0,q) rfl ⟨rfl,trivial⟩ (Nat.zero_le _) (fun _ _ h=>h) ?_
  rintro ⟨p,q⟩ hp
  dsimp only at hp ⊢
  have hel:=vi s r D.1 D.2 p
  have hst2:gM s r D.1 (p+1) D.2=(bX (dr s 3) fun z=>if z=0 then bX (dr s 41) fun x=>if p=0 then ret ((gM s r D.1 p D.2).1++[(⟨r,-1,x - 20,0⟩:dw)]) else bX (dr s 41) fun y=>ret ((gM s r D.1 p D.2).1++[(⟨r,(p:Int) - 1,x - 20,y - 20⟩:dw)]) else ret (gM s r D.1 p D.2).1) (gM s r D.1 p D.2).2:=rfl
  try dsimp only [Is,Ir,Iq,Ik]
  repeat' (first|refine If ?_|refine IF a5 FN ?_|(apply bw;first|refine II a5 0 IC ?_|refine II a5 1 IC ?_|refine II a5 2 IC ?_|refine II a5 3 IC ?_|refine IJ a5 0 IC ?_|refine IJ a5 1 IC ?_|refine IJ a5 2 IC ?_|refine IK a5 1 IA (by assumption) rfl ?_|refine IK a5 0 IA (by assumption) rfl ?_|fail)|fail)
  refine aq rfl (fun h=>?_) (fun h=>?_)
  ·have hpp:p < o.1.1.length+1:=by have:=Iy h;rw [hpl] at this;omega
   generalize gM s r D.1 p D.2=E at hel hst2 ⊢
   have hElm:(E.1.map dM).length=E.1.length:=Iu ..
   repeat' (first|refine If ?_|refine ak ?_|refine IF a5 FN ?_)
   refine cu ?_
   unfold bX at hst2
   generalize dr s 3 E.2=z at hst2 ⊢
   dsimp only at hst2
   repeat' (first|refine If ?_|refine IF a5 FN ?_)
   refine aq rfl (fun hz=>?_) (fun hz=>?_)
   ·rw [if_pos (Iy hz)] at hst2
    repeat' (first|refine If ?_|refine IF a5 FN ?_)
    refine cu ?_
    have hx:=cg s hs z.2.a (n:=41) (by omega)
    have hx:0≤(dr s 41 z.2).1∧(dr s 41 z.2).1 < 41:=hx
    generalize dr s 41 z.2=x at hx hst2 ⊢
    try dsimp only at hst2
    repeat' (first|refine If ?_|refine IF a5 FN ?_|(apply aV;refine aU ?_)|(apply aM;first|refine IG a5 0 ID ?_|refine IG a5 1 ID ?_|refine IG a5 2 ID ?_|refine IG a5 3 ID ?_|fail)|refine bh a5 fun _=>?_|fail)
    refine bP (aI (List.perm_middle (l₁:=[_,_])).symm) ?_
    refine aq rfl (fun h0=>?_) (fun h0=>?_)
    ·have h0:¬p=0:=by have:=Iy h0;omega
     rw [if_neg h0] at hst2
     repeat' (first|refine If ?_|refine IF a5 FN ?_)
     refine cu ?_
     have hy:=cg s hs x.2.a (n:=41) (by omega)
     have hy:0≤(dr s 41 x.2).1∧(dr s 41 x.2).1 < 41:=hy
     generalize dr s 41 x.2=y at hy hst2 ⊢
     try dsimp only [ret] at hst2
     repeat' (first|refine If ?_|refine IF a5 FN ?_|(apply bw;first|refine II a5 0 IC ?_|refine II a5 1 IC ?_|refine II a5 2 IC ?_|refine II a5 3 IC ?_|refine IJ a5 0 IC ?_|refine IJ a5 1 IC ?_|refine IJ a5 2 IC ?_|refine IK a5 1 IA (by assumption) rfl ?_|refine IK a5 0 IA (by assumption) rfl ?_|fail)|(apply aV;refine aU ?_)|(apply aM;first|refine IG a5 0 ID ?_|refine IG a5 1 ID ?_|refine IG a5 2 ID ?_|refine IG a5 3 ID ?_|fail)|refine bG a5 ?_|fail)
     refine bJ a5 _ rfl rfl rfl rfl (ev (A:=[_,_,_])) (by simp;omega) (by simp;omega) rfl fun q'=>?_
     refine aJ (aI (ev (A:=[_,_,_])).symm) ?_
     repeat' (first|refine If ?_|refine IF a5 FN ?_|(apply aV;refine aU ?_)|(apply aM;first|refine IG a5 0 ID ?_|refine IG a5 1 ID ?_|refine IG a5 2 ID ?_|refine IG a5 3 ID ?_|fail))
     exact aD (p+1,q') rfl ⟨by dsimp only;rw [show ((p+1:Nat):Int) - 1=(p:Int) - 1+1 by omega];rfl,trivial⟩ (by dsimp only;omega) (by dsimp only;omega) (fun _ _ h=>by dsimp only;rw [hst2];dsimp only;rw [List.map_append];exact h.sublist (List.Sublist.cons_cons _ (List.Sublist.cons_cons _ (List.sublist_cons_self ..))))
    ·have h0:p=0:=by have:=Ix h0;omega
     rw [if_pos h0] at hst2
     try dsimp only [ret] at hst2
     repeat' (first|refine If ?_|refine IF a5 FN ?_|(apply bw;first|refine II a5 0 IC ?_|refine II a5 1 IC ?_|refine II a5 2 IC ?_|refine II a5 3 IC ?_|refine IJ a5 0 IC ?_|refine IJ a5 1 IC ?_|refine IJ a5 2 IC ?_|refine IK a5 1 IA (by assumption) rfl ?_|refine IK a5 0 IA (by assumption) rfl ?_|fail)|refine bG a5 ?_|fail)
     refine bJ a5 _ rfl rfl rfl rfl (ev (A:=[_,_,_])) (by simp;omega) (by simp;omega) rfl fun q'=>?_
     refine aJ (aI (ev (A:=[_,_,_])).symm) ?_
     repeat' (first|refine If ?_|refine IF a5 FN ?_|(apply aV;refine aU ?_)|(apply aM;first|refine IG a5 0 ID ?_|refine IG a5 1 ID ?_|refine IG a5 2 ID ?_|refine IG a5 3 ID ?_|fail))
     subst h0
     exact aD (0+1,q') rfl ⟨rfl,trivial⟩ (by dsimp only;omega) (by dsimp only;omega) (fun _ _ h=>by dsimp only;rw [hst2];dsimp only;rw [List.map_append];exact h.sublist (List.Sublist.cons_cons _ (List.Sublist.cons_cons _ (List.sublist_cons_self ..))))
   ·rw [if_neg (Ix hz)] at hst2
    try dsimp only [ret] at hst2
    repeat' (first|refine If ?_|refine IF a5 FN ?_|(apply aV;refine aU ?_)|fail)
    exact aD (p+1,q) rfl ⟨by dsimp only;rw [show ((p+1:Nat):Int) - 1=(p:Int) - 1+1 by omega];rfl,trivial⟩ (by dsimp only;omega) (by dsimp only;omega) (fun _ _ h=>by dsimp only;rw [hst2];exact h)
  have hpp:p=o.1.1.length+1:=by have:=Ix h;rw [hpl] at this;omega
  subst hpp
  repeat' (first|refine If ?_|refine IF a5 FN ?_|(apply aV;refine aU ?_)|fail)
  exact aD (r+1,q) rfl ⟨by rw [Iv];rfl,trivial⟩ (by dsimp only;omega) (by dsimp only;omega) (fun _ _ h=>by dsimp only;rw [hstep];exact h)
 have hrl:r=R:=by have:=Ix h;omega
 subst hrl
 clear hstep hdl
 generalize e7:fZ s o.1.1.length r an.2=de
 repeat' (first|refine If ?_|refine IF a5 FN ?_|(apply aM;first|refine IG a5 0 ID ?_|refine IG a5 1 ID ?_|refine IG a5 2 ID ?_|refine IG a5 3 ID ?_|fail))
 refine bP (aI (L':=[dG b s F (gF 2 de.2).2,(gb,.box (kB (cD n) (100+ad.1 * 50) mb o.1 (.imm 3 (ps.1.map eo)) (.imm 4 (an.1.map cX)) (.vec q 4 (de.1.map dM)) bF) 76)]++(tok q 115 4 (de.1.map dM).length++(tok kg 76 9 gl.length++[]))) (Io _)) ?_
 refine bP (bo 1 rfl fun σ vs h=>cr (k:=7) (c':= .imm 4 (de.1.map dM)) h rfl fun v hv=>VR.im hv) ?_
 refine bP (bM (L':=[dG b s F (gF 2 de.2).2,(gb,.box (kB (cD n) (100+ad.1 * 50) mb o.1 (.imm 3 (ps.1.map eo)) (.imm 4 (an.1.map cX)) (.imm 4 (de.1.map dM)) bF) 76)]++(tok kg 76 9 gl.length++[])) (List.Sublist.cons_cons _ (List.Sublist.cons_cons _ (List.sublist_append_right _ _)))) ?_
 generalize e8:(gF 2 de.2).2=w
 refine bz 11 [(0,.v),(1,.v),(2,.v),(3,.l),(4,.v),(5,.v),(6,.v),(7,.v),(8,.v),(9,.l),(10,.v)] none ?_ trivial rfl (by kernel_rfl) (by kernel_rfl) (by kernel_rfl) bT (by kernel_rfl) rfl
 repeat' (first|refine aC ?_|refine b6 a5 ?_|refine bZ a5 0 rfl rfl rfl rfl (by first|trivial|rfl) ?_|refine bZ a5 1 rfl rfl rfl rfl (by first|trivial|rfl) ?_)
 rw [hfu]
 repeat' (first|refine b6 a5 ?_|fail)
 rw [hfn,hpl]
 refine IQ [0,4,143,147,153] FN ?_
 refine u5 (rk s hs F (n:=o.1.1.length) (fn:=fn) (most:=6) (by omega) (by omega) (by omega)) ?_
 generalize e9:mp s o.1.1.length fn 6 w=hi
 unfold j4
 repeat' (first|refine If ?_|refine IF a5 FN ?_|(apply aM;first|refine IG a5 0 ID ?_|refine IG a5 1 ID ?_|refine IG a5 2 ID ?_|refine IG a5 3 ID ?_|fail))
 refine bP (aI (L':=[dG b s F hi.2,(gb,.box (kB (cD n) (100+ad.1 * 50) mb o.1 (.imm 3 (ps.1.map eo)) (.imm 4 (an.1.map cX)) (.imm 4 (de.1.map dM)) (.imm 2 (hi.1.map eI))) 76)]++(tok kg 76 9 gl.length++[])) (Io _)) ?_
 refine bz 9 [(0,.v),(1,.v),(2,.v),(3,.v),(4,.v),(5,.l),(6,.l),(7,.v),(8,.e)] none ?_ trivial rfl (by kernel_rfl) (by kernel_rfl) (by kernel_rfl) bT (by kernel_rfl) rfl
 repeat' (first|refine aC ?_|refine b6 a5 ?_|refine dS a5 ?_|refine bZ a5 0 rfl rfl rfl rfl (by first|trivial|rfl) ?_|refine oL a5 1 rfl rfl rfl rfl (by first|trivial|rfl) ?_)
 rw [hF]
 refine eV a5 _ rfl rfl rfl rfl (ev (A:=[_,_])) (by simp;omega) (by simp;omega) (by first | trivial | rfl) fun q'=>?_
 refine IQ [156,164] FN ?_
 refine aJ (aI (ev (A:=[_,_])).symm) ?_
 repeat' (first|refine If ?_|refine IF a5 FN ?_|(apply aM;first|refine IG a5 0 ID ?_|refine IG a5 1 ID ?_|refine IG a5 2 ID ?_|refine IG a5 3 ID ?_|fail))
 have hv:jH s r fn n m=(⟨cD n,100+ad.1 * 50,mb,o.1.1,o.1.2,ps.1,an.1,de.1,hi.1⟩,hi.2):=by
  unfold jH bX
  rw [e1]
  try dsimp only
  rw [e2]
  try dsimp only
  rw [e3]
  try dsimp only
  rw [e4]
  try dsimp only
  rw [e5,hmk]
  try dsimp only
  rw [e6]
  try dsimp only
  rw [e7]
  try dsimp only
  rw [e8,e9]
  rfl
 rw [hv]
 exact bf (bM (L':=[dG b s (Ce F (.vec q' 9 (gl++[bL ⟨cD n,100+ad.1 * 50,mb,o.1.1,o.1.2,ps.1,an.1,de.1,hi.1⟩]))) hi.2]++(tok q' 76 9 (gl++[bL ⟨cD n,100+ad.1 * 50,mb,o.1.1,o.1.2,ps.1,an.1,de.1,hi.1⟩]).length++[])) (List.Sublist.cons_cons _ (List.sublist_cons_self ..))) (cA rfl ⟨q',rfl⟩)
end Go.Proofs.YtpmdfoaadejmkaaGreatDoor
