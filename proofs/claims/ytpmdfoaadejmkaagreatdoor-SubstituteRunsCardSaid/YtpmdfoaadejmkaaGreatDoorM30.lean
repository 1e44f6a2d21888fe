/-
  The maker: glyphs.
-/
import Derived.Test.YtpmdfoaadejmkaaGreatDoorM29
namespace Go.Proofs.YtpmdfoaadejmkaaGreatDoor
open Go.RowKit
attribute [local irreducible] AT bK AX AO Av Kt bh dw DA cK
variable (s:List Int) (hs:s.length≤1000000) (F:MF)
theorem yX (a c:UInt8):(⟨#[a]⟩:ByteArray)++(⟨#[c]⟩:ByteArray)=bytes [a,c]:=by
 apply ByteArray.ext
 simp [bytes]
theorem yY (a b c:UInt8):(⟨#[a,b]⟩:ByteArray)++(⟨#[c]⟩:ByteArray)=bytes [a,b,c]:=by
 apply ByteArray.ext
 simp [bytes]
theorem Ih {z:Int} (h:0≤z∧z < 256):IntKind.wrap .u8 z=z:=by
 unfold IntKind.wrap
 simp [IntKind.signed,IntKind.bits]
 try omega
theorem uW (n:Nat) (h:n < 100):IntKind.wrap .u8 (97+(n:Int))=97+(n:Int):=Ih (by omega)
theorem y6 (n:Nat) (h:n < 100):UInt8.ofNat (97+(n:Int)).toNat=(97+n).toUInt8:=by
 rw [show ((97+(n:Int))).toNat=97+n by omega]
theorem I4 {a c:Nat×AB} {T:AL}:(a::(T++[])++[c]).Perm ([a,c]++(T++[])):=List.Perm.cons a (List.perm_append_comm (l₁:=T++[]))
def l7 (nm:ByteArray) (ad:Int) (mk:Bool) (o:List eE×List Int) (ps an de hi:AV):List AV:=[vQ nm,aF ad,dY mk,.imm 3 (o.1.map dA),.imm 1 (aW o.2),ps,an,de,hi]
theorem yL (mark:Bool) (cl:Int) (m:MS) (k:Nat):(eL s mark cl k m).1.length≤k:=by
 refine (bV.runs (fun i (l:List dv)=>l.length≤i) k (Nat.le_refl _) fun i l _ h=>(bV.any _).bnd fun z _=>bV.ite (fun _=>(bV.any _).bnd fun x _=>(bV.any _).bnd fun y _=>bV.ret (by simp;omega)) fun _=>bV.ret (by omega)) m
theorem wq (r:Nat) (l:List dH) (m:MS) (k:Nat):(hQ s r l k m).1.length≤l.length+k:=by
 refine (bV.runs (fun i (q:List dH)=>q.length≤l.length+i) k (Nat.le_refl _) fun i q _ h=>(bV.any _).bnd fun z _=>bV.ite (fun _=>(bV.any _).bnd fun x _=>bV.ite (fun _=>bV.ret (by simp;omega)) fun _=>(bV.any _).bnd fun y _=>bV.ret (by simp;omega)) fun _=>bV.ret (by omega)) m
def kC (cl:Int):List (List AV):=(gg cl).map fun p=>[aF p.1,aF p.2]
abbrev Dw (F:MF) (v:AV):MF:={ F with gl:=v }
include hs
set_option maxHeartbeats 16000000 in
theorem C4 {kg:Option (Nat×Nat)} {gl rg fu:List (List AV)} (hF:F.gl= .vec kg 9 gl) (hrg:F.rg= .imm 1 rg) (hfu:F.fu= .imm 1 fu) (R fn n:Nat) (hR:rg.length=R) (hfn:fu.length=fn) (hg:gl.length≤1000) (hRl:R≤1000) (hfl:fn≤1000) (hn:n < 100) (b:Nat) (m:MS):AC Tryz.prog 91 [DG b,aF n] ([dT b s F m]++(tok kg 76 9 gl.length++[])) fun _ L=>∃kg',L=[dT b s (Dw F (.vec kg' 9 (gl++[bR (ke s R fn n m).1]))) (ke s R fn n m).2]++(tok kg' 76 9 (gl++[bR (ke s R fn n m).1]).length++[]):=by
 refine aN Tryz.func91 rfl Tryz.ntmps91 rfl fun B=>?_
 repeat' (first|refine JU ?_|fail)
 refine br 15 [(0,.v),(1,.v),(2,.v),(3,.v),(4,.v),(5,.v),(6,.v),(10,.v),(7,.e),(8,.v),(9,.v),(11,.e),(12,.v),(13,.v)] (some (14,.box _ 76)) ?_ ⟨_,rfl,rfl,fun _ _ _=>mL (eJ a5 rfl) rfl⟩ rfl (by kernel_rfl) (by kernel_rfl) (by kernel_rfl) bQ (by kernel_rfl) rfl
 repeat' (first|refine aD ?_|refine b8 a5 ?_|(apply ea;refine fA ?_)|fail)
 refine BG a5 ?_
 rw [uW n hn]
 repeat' (first|refine aD ?_|refine ej a5 ?_|fail)
 refine xP a5 ?_
 rw [y6 n hn]
 repeat' (first|refine aD ?_|fail)
 refine FG (hs:=Nat.le_of_ble_eq_true rfl) ?_
 rw [yX]
 repeat' (first|refine aD ?_|refine b8 a5 ?_|fail)
 refine t6 ?_
 have had:=cq s hs m.a (n:=19) (by omega)
 have had:0≤(dr s 19 m).1∧(dr s 19 m).1 < 19:=had
 generalize e1:dr s 19 m=ad at had ⊢
 repeat' (first|refine aD ?_|(apply ea;refine fA ?_)|fail)
 refine t6 ?_
 generalize e2:dr s 4 ad.2=mk
 repeat' (first|refine aD ?_|refine b8 a5 ?_|fail)
 refine xS [0,1,4,23] (fun _=>_) (fun _=>rfl) rfl fun _=>?_
 rename_i gb
 refine aJ (aR (L':=[dT b s F mk.2,(gb,.box [.sc (.string ⟨#[]⟩),aF 0,dY false,bT,bT,bT,bT,bT,bT] 76)]++(tok kg 76 9 gl.length++[])) I4) ?_
 repeat' (first|refine JU ?_|refine JG a5 JA ?_|(apply aM;first|refine JH a5 0 JE ?_|refine JH a5 1 JE ?_|refine JH a5 2 JE ?_|refine JH a5 3 JE ?_|fail))
 refine t3 [0,1,4] ([dT b s F mk.2,(gb,.box [vQ (cJ n),aF (100+ad.1 * 50),dY (decide (mk.1=0) && decide (n≠0)),bT,bT,.vec none 3 [],.vec none 4 [],.vec none 4 [],bT] 76)]++(tok kg 76 9 gl.length++[])) rfl (fun Q' K=>?_) ?_
 ·refine ar rfl (fun h=>?_) (fun h=>?_)
  ·have h:n=0:=by have:=Jz h;omega
   have hm:(decide (mk.1=0) && decide (n≠0))=false:=by simp [h]
   have hgn:cJ n=CN:=if_pos h
   rw [hm,hgn] at K
   repeat' (first|refine JU ?_|refine JG a5 JA ?_|(apply aM;first|refine JH a5 0 JE ?_|refine JH a5 1 JE ?_|refine JH a5 2 JE ?_|refine JH a5 3 JE ?_|fail))
   refine bk (bE 1 rfl fun σ vs h=>cA (k:=5) (c':= .vec none 3 []) (cA (k:=6) (c':= .vec none 4 []) (cA (k:=7) (c':= .vec none 4 []) h rfl fun v hv=>cR 4 hv) rfl fun v hv=>cR 4 hv) rfl fun v hv=>cR 3 hv) ?_
   exact K _ rfl
  ·have h:¬n=0:=by have:=Jy h;omega
   have hm:(decide (mk.1=0) && decide (n≠0))=decide (mk.1=0):=by simp [h]
   have hgn:cJ n=jh J0 n:=if_neg h
   rw [hm,hgn] at K
   repeat' (first|refine JU ?_|fail)
   refine bk (bE 1 rfl fun σ vs h=>cA (k:=5) (c':= .vec none 3 []) (cA (k:=6) (c':= .vec none 4 []) (cA (k:=7) (c':= .vec none 4 []) h rfl fun v hv=>cR 4 hv) rfl fun v hv=>cR 4 hv) rfl fun v hv=>cR 3 hv) ?_
   exact K _ rfl
 generalize hmk:(decide (mk.1=0) && decide (n≠0))=mb
 repeat' (first|refine JU ?_|refine JG a5 JA ?_)
 refine v7 (tK s hs F) ?_
 have ho:=oX s mk.2
 generalize e3:jD s mk.2=o at ho ⊢
 obtain ⟨ko,hko,hoo⟩:=ho
 have hol:=hoo.len
 unfold I1
 refine JG a5 JA ?_
 (apply aM;refine JH a5 1 JE ?_)
 refine a7 ?_
 refine a6 ?_
 refine a9 ?_
 refine t3 [0,4] ([dT b s F (iN s n o.2).2,(gb,.box (l7 (cJ n) (100+ad.1 * 50) mb o.1 (.imm 3 ((iN s n o.2).1.map eD)) (.vec none 4 []) (.vec none 4 []) bT) 76)]++(tok kg 76 9 gl.length++[])) rfl (fun Q' K=>?_) ?_
 ·repeat' (first|refine JU ?_|refine JG a5 JA ?_)
  by_cases hn1:1 < n
  ·rw [decide_eq_true (show (1:Int) < (n:Int) by omega)]
   repeat' (first|refine JG a5 JA ?_|refine JO JA ?_)
   refine cD ?_
   generalize e4:dr s 4 o.2=z
   repeat' (first|refine JU ?_|refine JG a5 JA ?_|refine JO JA ?_)
   refine ar rfl (fun h=>?_) (fun h=>?_)
   ·have h:=Jz h
    repeat' (first|fail)
    refine di [.cell (gb,5,.vec none 3 [])] 11 [(0,.v),(1,.k),(2,.v),(6,.v),(3,.f),(4,.v),(5,.v),(7,.f),(8,.v),(9,.v),(10,.v)] none ?_ trivial rfl (by kernel_rfl) (by kernel_rfl) (by kernel_rfl) bQ (by kernel_rfl) rfl
    repeat' (first|refine aD ?_|refine b8 a5 ?_|fail)
    refine dJ a5 0 rfl rfl rfl (bP 1 rfl rfl c5) (by first | trivial | rfl) ?_
    repeat' (first|refine aD ?_|refine b8 a5 ?_|fail)
    refine eF (bP 1 rfl rfl c5) ?_
    have hx:=cq s hs z.2.a (n:=9) (by omega)
    have hx:0≤(dr s 9 z.2).1∧(dr s 9 z.2).1 < 9:=hx
    generalize e5:dr s 9 z.2=x at hx ⊢
    repeat' (first|refine aD ?_|(apply ea;refine fA ?_)|fail)
    refine eF (bP 1 rfl rfl c5) ?_
    have hy:=cq s hs x.2.a (n:=5) (by omega)
    have hy:0≤(dr s 5 x.2).1∧(dr s 5 x.2).1 < 5:=hy
    generalize e6:dr s 5 x.2=y at hy ⊢
    repeat' (first|refine aD ?_|refine b8 a5 ?_|(apply ea;refine fA ?_)|refine ej a5 ?_|fail)
    refine JQ [0,4,39,48] JA ?_
    repeat' (first|fail)
    refine bI a5 _ rfl rfl rfl rfl (Jp _) (by simp) (by simp) rfl fun q'=>?_
    refine aJ (bA (List.sublist_append_right _ _)) ?_
    repeat' (first|refine JU ?_|refine JG a5 JA ?_|(apply aM;first|refine JH a5 0 JE ?_|refine JH a5 1 JE ?_|refine JH a5 2 JE ?_|refine JH a5 3 JE ?_|fail))
    have hv:iN s n o.2=([⟨1,x.1 * 50 - 200,y.1 * 50⟩],y.2):=by simp [iN,c9,ret,hn1,e4,e5,e6,h]
    rw [hv] at K
    refine bk (bE 1 rfl fun σ vs h=>cA (k:=5) (c':= .imm 3 ([(⟨1,x.1 * 50 - 200,y.1 * 50⟩:dM)].map eD)) h rfl fun v hv=>VR.im hv) ?_
    exact K _ rfl
   ·have h:=Jy h
    repeat' (first|refine JU ?_|fail)
    have hv:iN s n o.2=([],z.2):=by simp [iN,c9,ret,hn1,e4,h]
    rw [hv] at K
    refine bk (bE 1 rfl fun σ vs h=>cA (k:=5) (c':= .imm 3 []) h rfl fun v hv=>VR.im hv) ?_
    exact K _ rfl
  ·rw [decide_eq_false (show ¬(1:Int) < (n:Int) by omega)]
   repeat' (first|refine JU ?_|refine JG a5 JA ?_|refine JP JC ?_|refine bC rfl ?_)
   have hv:iN s n o.2=([],o.2):=by simp [iN,ret,hn1]
   rw [hv] at K
   refine bk (bE 1 rfl fun σ vs h=>cA (k:=5) (c':= .imm 3 []) h rfl fun v hv=>VR.im hv) ?_
   exact K _ rfl
 generalize e4:iN s n o.2=ps
 repeat' (first|refine JU ?_|refine JG a5 JA ?_)
 refine cD ?_
 have hcl:=cq s hs ps.2.a (n:=2) (by omega)
 have hcl:0≤(dr s 2 ps.2).1∧(dr s 2 ps.2).1 < 2:=hcl
 generalize e5:dr s 2 ps.2=cl at hcl ⊢
 repeat' (first|refine JU ?_|refine am ?_|refine JG a5 JA ?_|refine bN a5 ?_|fail)
 refine aP [0,4,5] (α:=Nat×Option (Nat×Nat)) (fun x=>[(6,aF x.1),(5,.imm 2 (kC cl.1))]) (fun x=>x.1≤5) (fun x=>[dT b s F (eL s mb cl.1 x.1 cl.2).2,(gb,.box (l7 (cJ n) (100+ad.1 * 50) mb o.1 (.imm 3 (ps.1.map eD)) (.vec x.2 4 ((eL s mb cl.1 x.1 cl.2).1.map d8)) (.vec none 4 []) bT) 76)]++(tok x.2 113 4 ((eL s mb cl.1 x.1 cl.2).1.map d8).length++(tok kg 76 9 gl.length++[]))) (fun x=>5 - x.1) (0,none) rfl ⟨rfl,rfl,trivial⟩ (Nat.zero_le _) (fun _ _ h=>h) ?_
 rintro ⟨i,q⟩ hi
 dsimp only at hi ⊢
 have hal:=yL s mb cl.1 cl.2 i
 have hstep:eL s mb cl.1 (i+1) cl.2=(c9 (dr s 3) fun z=>if z=0∧(((gg cl.1).getD i (0,0)).1≠2∨mb=true) then c9 (dr s 21) fun x=>c9 (dr s 21) fun y=>ret ((eL s mb cl.1 i cl.2).1++[(⟨((gg cl.1).getD i (0,0)).1,((gg cl.1).getD i (0,0)).2,x * 50,y * 50 - 200⟩:dv)]) else ret (eL s mb cl.1 i cl.2).1) (eL s mb cl.1 i cl.2).2:=rfl
 try dsimp only [Jt,Js,Jr,Kz]
 repeat' (first|refine JU ?_|refine JG a5 JA ?_)
 refine ar rfl (fun h=>?_) (fun h=>?_)
 ·have hil:i < 5:=by have:=Jz h;omega
  have hka:(kC cl.1)[i]?=some [aF ((gg cl.1).getD i (0,0)).1,aF ((gg cl.1).getD i (0,0)).2]:=by
   unfold kC
   rw [List.getElem?_map,ud hil]
   rfl
  generalize eL s mb cl.1 i cl.2=st at hal hstep ⊢
  have halm:(st.1.map d8).length=st.1.length:=Jv ..
  generalize (gg cl.1).getD i (0,0)=pr at hka hstep
  repeat' (first|refine JU ?_|refine am ?_|refine JG a5 JA ?_)
  refine cD ?_
  unfold c9 at hstep
  generalize dr s 3 st.2=z at hstep ⊢
  dsimp only at hstep
  repeat' (first|refine JG a5 JA ?_)
  refine dp (t:=77) [0,4,5,6] (z.1=0∧(pr.1≠2∨mb=true)) rfl (fun Q' K=>?_) ?_
  ·by_cases hz:z.1=0
   ·rw [decide_eq_true hz]
    repeat' (first|refine JG a5 JA ?_|refine JO JA ?_|(apply aL;first|refine aK a5 ?_|refine aG a5 ?_)|fail)
    refine HX a5 0 ?_
    repeat' (first|refine JG a5 JA ?_|refine JO JA ?_)
    by_cases h2:pr.1≠2
    ·rw [decide_eq_true h2]
     repeat' (first|refine JU ?_|refine JG a5 JA ?_|refine JO JA ?_|refine JP JC ?_)
     exact K _ _ rfl rfl (by simp [hz,h2])
    ·rw [decide_eq_false h2]
     repeat' (first|refine JU ?_|refine JG a5 JA ?_|refine JO JA ?_|(apply bF;first|refine JJ a5 0 JD ?_|refine JJ a5 1 JD ?_|refine JJ a5 2 JD ?_|refine JJ a5 3 JD ?_|refine JK a5 0 JD ?_|refine JK a5 1 JD ?_|refine JK a5 2 JD ?_|refine JL a5 1 JB (by assumption) rfl ?_|refine JL a5 0 JB (by assumption) rfl ?_|fail)|fail)
     exact K _ _ rfl rfl (by simp only [ne_eq,Decidable.not_not] at h2;simp [hz,h2])
   ·rw [decide_eq_false hz]
    repeat' (first|refine JU ?_|refine JG a5 JA ?_|refine JP JC ?_|refine dz rfl rfl rfl ?_)
    exact K _ _ rfl rfl (by simp [hz])
  repeat' (first|refine JU ?_|fail)
  refine ar rfl (fun h=>?_) (fun h=>?_)
  ·have h:=Jz h
   rw [if_pos h] at hstep
   repeat' (first|fail)
   refine di [.cell (gb,6,.vec q 4 (st.1.map d8))] 21 [(0,.v),(1,.k),(2,.v),(3,.v),(4,.v),(5,.v),(6,.v),(7,.v),(8,.v),(9,.v),(10,.v),(11,.v),(12,.v),(15,.v),(13,.f),(14,.v),(16,.f),(17,.v),(18,.v),(19,.v),(20,.v)] none ?_ trivial rfl (by kernel_rfl) (by kernel_rfl) (by kernel_rfl) bQ (by kernel_rfl) rfl
   repeat' (first|refine aD ?_|refine b8 a5 ?_|fail)
   refine dJ a5 0 rfl rfl rfl (bP 1 rfl rfl c5) (by first | trivial | rfl) ?_
   repeat' (first|refine aD ?_|refine b8 a5 ?_|(apply bW;refine ci a5 ?_)|fail)
   refine FF a5 0 ?_
   repeat' (first|refine aD ?_|refine b8 a5 ?_|(apply bW;refine ci a5 ?_)|fail)
   refine FF a5 1 ?_
   repeat' (first|refine aD ?_|refine b8 a5 ?_|fail)
   refine eF (bP 1 rfl rfl c5) ?_
   have hx:=cq s hs z.2.a (n:=21) (by omega)
   have hx:0≤(dr s 21 z.2).1∧(dr s 21 z.2).1 < 21:=hx
   generalize dr s 21 z.2=x at hx hstep ⊢
   try dsimp only at hstep
   repeat' (first|refine aD ?_|(apply ea;refine fA ?_)|fail)
   refine eF (bP 1 rfl rfl c5) ?_
   have hy:=cq s hs x.2.a (n:=21) (by omega)
   have hy:0≤(dr s 21 x.2).1∧(dr s 21 x.2).1 < 21:=hy
   generalize dr s 21 x.2=y at hy hstep ⊢
   try dsimp only [ret] at hstep
   repeat' (first|refine aD ?_|refine b8 a5 ?_|(apply ea;refine fA ?_)|refine ej a5 ?_|fail)
   refine JQ [0,4,5,6,79,98] JA ?_
   repeat' (first|fail)
   refine bI a5 _ rfl rfl rfl rfl (eI (A:=[_,_])) (by simp;omega) (by simp;omega) rfl fun q'=>?_
   refine aJ (aR (eI (A:=[_,_])).symm) ?_
   repeat' (first|refine JU ?_|refine JG a5 JA ?_|(apply aS;refine aQ ?_)|(apply aM;first|refine JH a5 0 JE ?_|refine JH a5 1 JE ?_|refine JH a5 2 JE ?_|refine JH a5 3 JE ?_|fail))
   exact aC (i+1,q') rfl ⟨by rw [Jw];rfl,rfl,trivial⟩ (by dsimp only;omega) (by dsimp only;omega) (fun _ _ h=>by dsimp only;rw [hstep];dsimp only;rw [List.map_append];exact h)
  ·have h:=Jy h
   rw [if_neg h] at hstep
   dsimp only [ret] at hstep
   repeat' (first|refine JU ?_|refine JG a5 JA ?_|(apply aS;refine aQ ?_)|fail)
   exact aC (i+1,q) rfl ⟨by rw [Jw];rfl,rfl,trivial⟩ (by dsimp only;omega) (by dsimp only;omega) (fun _ _ h=>by dsimp only;rw [hstep];exact h)
 have hil:i=5:=by have:=Jy h;omega
 subst hil
 clear hstep hal
 generalize e6:eL s mb cl.1 5 cl.2=an
 refine bS (bE 1 rfl fun σ vs h=>cA (k:=6) (c':= .imm 4 (an.1.map d8)) h rfl fun v hv=>VR.im hv) ?_
 refine bS (bA (L':=[dT b s F an.2,(gb,.box (l7 (cJ n) (100+ad.1 * 50) mb o.1 (.imm 3 (ps.1.map eD)) (.imm 4 (an.1.map d8)) (.vec none 4 []) bT) 76)]++(tok kg 76 9 gl.length++[])) (List.Sublist.cons_cons _ (List.Sublist.cons_cons _ (List.sublist_append_right _ _)))) ?_
 have hpl:(o.1.1.map dA).length=o.1.1.length:=Jv ..
 repeat' (first|refine JU ?_|refine am ?_|refine JG a5 JA ?_)
 refine aP [0,4] (α:=Nat×Option (Nat×Nat)) (fun x=>[(7,aF x.1)]) (fun x=>x.1≤R) (fun x=>[dT b s F (gj s o.1.1.length x.1 an.2).2,(gb,.box (l7 (cJ n) (100+ad.1 * 50) mb o.1 (.imm 3 (ps.1.map eD)) (.imm 4 (an.1.map d8)) (.vec x.2 4 ((gj s o.1.1.length x.1 an.2).1.map dZ)) bT) 76)]++(tok x.2 115 4 ((gj s o.1.1.length x.1 an.2).1.map dZ).length++(tok kg 76 9 gl.length++[]))) (fun x=>R - x.1) (0,none) rfl ⟨rfl,trivial⟩ (Nat.zero_le _) (fun _ _ h=>h) ?_
 rintro ⟨r,q⟩ hr
 dsimp only at hr ⊢
 have hdl:=(qb s o.1.1.length r an.2).len
 have hdl:(gj s o.1.1.length r an.2).1.length≤11000:=Nat.le_trans hdl (Nat.le_trans (Nat.mul_le_mul (show r≤1000 by omega) (show o.1.1.length+1≤11 by omega)) (by omega))
 have hstep:gj s o.1.1.length (r+1) an.2=hQ s r (gj s o.1.1.length r an.2).1 (o.1.1.length+1) (gj s o.1.1.length r an.2).2:=rfl
 try dsimp only [Jt,Js,Jr,Kz]
 repeat' (first|refine JU ?_|refine JG a5 JA ?_|(apply bF;first|refine JJ a5 0 JD ?_|refine JJ a5 1 JD ?_|refine JJ a5 2 JD ?_|refine JJ a5 3 JD ?_|refine JK a5 0 JD ?_|refine JK a5 1 JD ?_|refine JK a5 2 JD ?_|refine JL a5 1 JB (by assumption) rfl ?_|refine JL a5 0 JB (by assumption) rfl ?_|fail)|fail)
 rw [hrg]
 repeat' (first|refine JU ?_|refine JG a5 JA ?_)
 rw [hR]
 refine ar rfl (fun h=>?_) (fun h=>?_)
 ·have hrl:r < R:=by have:=Jz h;omega
  generalize gj s o.1.1.length r an.2=D at hdl hstep ⊢
  repeat' (first|refine JU ?_|refine am ?_|refine JG a5 JA ?_)
  refine aP [0,4,7] (α:=Nat×Option (Nat×Nat)) (fun x=>[(8,aF ((x.1:Int) - 1))]) (fun x=>x.1≤o.1.1.length+1) (fun x=>[dT b s F (hQ s r D.1 x.1 D.2).2,(gb,.box (l7 (cJ n) (100+ad.1 * 50) mb o.1 (.imm 3 (ps.1.map eD)) (.imm 4 (an.1.map d8)) (.vec x.2 4 ((hQ s r D.1 x.1 D.2).1.map dZ)) bT) 76)]++(tok x.2 115 4 ((hQ s r D.1 x.1 D.2).1.map dZ).length++(tok kg 76 9 gl.length++[]))) (fun x=>o.1.1.length+1 - x.1) (0,q) rfl ⟨rfl,trivial⟩ (Nat.zero_le _) (fun _ _ h=>h) ?_
  rintro ⟨p,q⟩ hp
  dsimp only at hp ⊢
  have hel:=wq s r D.1 D.2 p
  have hst2:hQ s r D.1 (p+1) D.2=(c9 (dr s 3) fun z=>if z=0 then c9 (dr s 41) fun x=>if p=0 then ret ((hQ s r D.1 p D.2).1++[(⟨r,-1,x - 20,0⟩:dH)]) else c9 (dr s 41) fun y=>ret ((hQ s r D.1 p D.2).1++[(⟨r,(p:Int) - 1,x - 20,y - 20⟩:dH)]) else ret (hQ s r D.1 p D.2).1) (hQ s r D.1 p D.2).2:=rfl
  try dsimp only [Jt,Js,Jr,Kz]
  repeat' (first|refine JU ?_|refine JG a5 JA ?_|(apply bF;first|refine JJ a5 0 JD ?_|refine JJ a5 1 JD ?_|refine JJ a5 2 JD ?_|refine JJ a5 3 JD ?_|refine JK a5 0 JD ?_|refine JK a5 1 JD ?_|refine JK a5 2 JD ?_|refine JL a5 1 JB (by assumption) rfl ?_|refine JL a5 0 JB (by assumption) rfl ?_|fail)|fail)
  refine ar rfl (fun h=>?_) (fun h=>?_)
  ·have hpp:p < o.1.1.length+1:=by have:=Jz h;rw [hpl] at this;omega
   generalize hQ s r D.1 p D.2=E at hel hst2 ⊢
   have hElm:(E.1.map dZ).length=E.1.length:=Jv ..
   repeat' (first|refine JU ?_|refine am ?_|refine JG a5 JA ?_)
   refine cD ?_
   unfold c9 at hst2
   generalize dr s 3 E.2=z at hst2 ⊢
   dsimp only at hst2
   repeat' (first|refine JU ?_|refine JG a5 JA ?_)
   refine ar rfl (fun hz=>?_) (fun hz=>?_)
   ·rw [if_pos (Jz hz)] at hst2
    repeat' (first|refine JU ?_|refine JG a5 JA ?_)
    refine cD ?_
    have hx:=cq s hs z.2.a (n:=41) (by omega)
    have hx:0≤(dr s 41 z.2).1∧(dr s 41 z.2).1 < 41:=hx
    generalize dr s 41 z.2=x at hx hst2 ⊢
    try dsimp only at hst2
    repeat' (first|refine JU ?_|refine JG a5 JA ?_|(apply aS;refine aQ ?_)|(apply aM;first|refine JH a5 0 JE ?_|refine JH a5 1 JE ?_|refine JH a5 2 JE ?_|refine JH a5 3 JE ?_|fail)|refine bj a5 fun _=>?_|fail)
    refine bS (aR (List.perm_middle (l₁:=[_,_])).symm) ?_
    refine ar rfl (fun h0=>?_) (fun h0=>?_)
    ·have h0:¬p=0:=by have:=Jz h0;omega
     rw [if_neg h0] at hst2
     repeat' (first|refine JU ?_|refine JG a5 JA ?_)
     refine cD ?_
     have hy:=cq s hs x.2.a (n:=41) (by omega)
     have hy:0≤(dr s 41 x.2).1∧(dr s 41 x.2).1 < 41:=hy
     generalize dr s 41 x.2=y at hy hst2 ⊢
     try dsimp only [ret] at hst2
     repeat' (first|refine JU ?_|refine JG a5 JA ?_|(apply bF;first|refine JJ a5 0 JD ?_|refine JJ a5 1 JD ?_|refine JJ a5 2 JD ?_|refine JJ a5 3 JD ?_|refine JK a5 0 JD ?_|refine JK a5 1 JD ?_|refine JK a5 2 JD ?_|refine JL a5 1 JB (by assumption) rfl ?_|refine JL a5 0 JB (by assumption) rfl ?_|fail)|(apply aS;refine aQ ?_)|(apply aM;first|refine JH a5 0 JE ?_|refine JH a5 1 JE ?_|refine JH a5 2 JE ?_|refine JH a5 3 JE ?_|fail)|refine bN a5 ?_|fail)
     refine bI a5 _ rfl rfl rfl rfl (eI (A:=[_,_,_])) (by simp;omega) (by simp;omega) rfl fun q'=>?_
     refine aJ (aR (eI (A:=[_,_,_])).symm) ?_
     repeat' (first|refine JU ?_|refine JG a5 JA ?_|(apply aS;refine aQ ?_)|(apply aM;first|refine JH a5 0 JE ?_|refine JH a5 1 JE ?_|refine JH a5 2 JE ?_|refine JH a5 3 JE ?_|fail))
     exact aC (p+1,q') rfl ⟨by dsimp only;rw [show ((p+1:Nat):Int) - 1=(p:Int) - 1+1 by omega];rfl,trivial⟩ (by dsimp only;omega) (by dsimp only;omega) (fun _ _ h=>by dsimp only;rw [hst2];dsimp only;rw [List.map_append];exact h.sublist (List.Sublist.cons_cons _ (List.Sublist.cons_cons _ (List.sublist_cons_self ..))))
    ·have h0:p=0:=by have:=Jy h0;omega
     rw [if_pos h0] at hst2
     try dsimp only [ret] at hst2
     repeat' (first|refine JU ?_|refine JG a5 JA ?_|(apply bF;first|refine JJ a5 0 JD ?_|refine JJ a5 1 JD ?_|refine JJ a5 2 JD ?_|refine JJ a5 3 JD ?_|refine JK a5 0 JD ?_|refine JK a5 1 JD ?_|refine JK a5 2 JD ?_|refine JL a5 1 JB (by assumption) rfl ?_|refine JL a5 0 JB (by assumption) rfl ?_|fail)|refine bN a5 ?_|fail)
     refine bI a5 _ rfl rfl rfl rfl (eI (A:=[_,_,_])) (by simp;omega) (by simp;omega) rfl fun q'=>?_
     refine aJ (aR (eI (A:=[_,_,_])).symm) ?_
     repeat' (first|refine JU ?_|refine JG a5 JA ?_|(apply aS;refine aQ ?_)|(apply aM;first|refine JH a5 0 JE ?_|refine JH a5 1 JE ?_|refine JH a5 2 JE ?_|refine JH a5 3 JE ?_|fail))
     subst h0
     exact aC (0+1,q') rfl ⟨rfl,trivial⟩ (by dsimp only;omega) (by dsimp only;omega) (fun _ _ h=>by dsimp only;rw [hst2];dsimp only;rw [List.map_append];exact h.sublist (List.Sublist.cons_cons _ (List.Sublist.cons_cons _ (List.sublist_cons_self ..))))
   ·rw [if_neg (Jy hz)] at hst2
    try dsimp only [ret] at hst2
    repeat' (first|refine JU ?_|refine JG a5 JA ?_|(apply aS;refine aQ ?_)|fail)
    exact aC (p+1,q) rfl ⟨by dsimp only;rw [show ((p+1:Nat):Int) - 1=(p:Int) - 1+1 by omega];rfl,trivial⟩ (by dsimp only;omega) (by dsimp only;omega) (fun _ _ h=>by dsimp only;rw [hst2];exact h)
  have hpp:p=o.1.1.length+1:=by have:=Jy h;rw [hpl] at this;omega
  subst hpp
  repeat' (first|refine JU ?_|refine JG a5 JA ?_|(apply aS;refine aQ ?_)|fail)
  exact aC (r+1,q) rfl ⟨by rw [Jw];rfl,trivial⟩ (by dsimp only;omega) (by dsimp only;omega) (fun _ _ h=>by dsimp only;rw [hstep];exact h)
 have hrl:r=R:=by have:=Jy h;omega
 subst hrl
 clear hstep hdl
 generalize e7:gj s o.1.1.length r an.2=de
 repeat' (first|refine JU ?_|refine JG a5 JA ?_|(apply aM;first|refine JH a5 0 JE ?_|refine JH a5 1 JE ?_|refine JH a5 2 JE ?_|refine JH a5 3 JE ?_|fail))
 refine bS (aR (L':=[dT b s F (gU 2 de.2).2,(gb,.box (l7 (cJ n) (100+ad.1 * 50) mb o.1 (.imm 3 (ps.1.map eD)) (.imm 4 (an.1.map d8)) (.vec q 4 (de.1.map dZ)) bT) 76)]++(tok q 115 4 (de.1.map dZ).length++(tok kg 76 9 gl.length++[]))) (Jp _)) ?_
 refine bS (bE 1 rfl fun σ vs h=>cA (k:=7) (c':= .imm 4 (de.1.map dZ)) h rfl fun v hv=>VR.im hv) ?_
 refine bS (bA (L':=[dT b s F (gU 2 de.2).2,(gb,.box (l7 (cJ n) (100+ad.1 * 50) mb o.1 (.imm 3 (ps.1.map eD)) (.imm 4 (an.1.map d8)) (.imm 4 (de.1.map dZ)) bT) 76)]++(tok kg 76 9 gl.length++[])) (List.Sublist.cons_cons _ (List.Sublist.cons_cons _ (List.sublist_append_right _ _)))) ?_
 generalize e8:(gU 2 de.2).2=w
 refine br 11 [(0,.v),(1,.v),(2,.v),(3,.l),(4,.v),(5,.v),(6,.v),(7,.v),(8,.v),(9,.l),(10,.v)] none ?_ trivial rfl (by kernel_rfl) (by kernel_rfl) (by kernel_rfl) bQ (by kernel_rfl) rfl
 repeat' (first|refine aD ?_|refine b8 a5 ?_|refine ce a5 0 rfl rfl rfl rfl (by first|trivial|rfl) ?_|refine ce a5 1 rfl rfl rfl rfl (by first|trivial|rfl) ?_)
 rw [hfu]
 repeat' (first|refine b8 a5 ?_|fail)
 rw [hfn,hpl]
 refine JQ [0,4,143,147,153] JA ?_
 refine v7 (sj s hs F (n:=o.1.1.length) (fn:=fn) (most:=6) (by omega) (by omega) (by omega)) ?_
 generalize e9:n3 s o.1.1.length fn 6 w=hi
 unfold ju
 repeat' (first|refine JU ?_|refine JG a5 JA ?_|(apply aM;first|refine JH a5 0 JE ?_|refine JH a5 1 JE ?_|refine JH a5 2 JE ?_|refine JH a5 3 JE ?_|fail))
 refine bS (aR (L':=[dT b s F hi.2,(gb,.box (l7 (cJ n) (100+ad.1 * 50) mb o.1 (.imm 3 (ps.1.map eD)) (.imm 4 (an.1.map d8)) (.imm 4 (de.1.map dZ)) (.imm 2 (hi.1.map eU))) 76)]++(tok kg 76 9 gl.length++[])) (Jp _)) ?_
 refine br 9 [(0,.v),(1,.v),(2,.v),(3,.v),(4,.v),(5,.l),(6,.l),(7,.v),(8,.e)] none ?_ trivial rfl (by kernel_rfl) (by kernel_rfl) (by kernel_rfl) bQ (by kernel_rfl) rfl
 repeat' (first|refine aD ?_|refine b8 a5 ?_|refine ej a5 ?_|refine ce a5 0 rfl rfl rfl rfl (by first|trivial|rfl) ?_|refine pv a5 1 rfl rfl rfl rfl (by first|trivial|rfl) ?_)
 rw [hF]
 refine f9 a5 _ rfl rfl rfl rfl (eI (A:=[_,_])) (by simp;omega) (by simp;omega) (by first | trivial | rfl) fun q'=>?_
 refine JQ [156,164] JA ?_
 refine aJ (aR (eI (A:=[_,_])).symm) ?_
 repeat' (first|refine JU ?_|refine JG a5 JA ?_|(apply aM;first|refine JH a5 0 JE ?_|refine JH a5 1 JE ?_|refine JH a5 2 JE ?_|refine JH a5 3 JE ?_|fail))
 have hv:ke s r fn n m=(⟨cJ n,100+ad.1 * 50,mb,o.1.1,o.1.2,ps.1,an.1,de.1,hi.1⟩,hi.2):=by
  unfold ke c9
  rw [e1]
  try dsimp only
  rw [e2]
  try dsimp only
  rw [e3]
  try dsimp only
  rw [e4]
  try dsimp only
  rw [e5,hmk]
  try dsimp only
  rw [e6]
  try dsimp only
  rw [e7]
  try dsimp only
  rw [e8,e9]
  rfl
 rw [hv]
 exact bk (bA (L':=[dT b s (Dw F (.vec q' 9 (gl++[bR ⟨cJ n,100+ad.1 * 50,mb,o.1.1,o.1.2,ps.1,an.1,de.1,hi.1⟩]))) hi.2]++(tok q' 76 9 (gl++[bR ⟨cJ n,100+ad.1 * 50,mb,o.1.1,o.1.2,ps.1,an.1,de.1,hi.1⟩]).length++[])) (List.Sublist.cons_cons _ (List.sublist_cons_self ..))) (cH rfl ⟨q',rfl⟩)
end Go.Proofs.YtpmdfoaadejmkaaGreatDoor
