/-
  The maker: glyphs.
-/
import Derived.Test.YtpmdfoaadejmkaaGreatDoorM29
namespace Go.Proofs.YtpmdfoaadejmkaaGreatDoor
open Go.RowKit
attribute [local irreducible] AT bI AX AO Av Kt bi dx DA cK
variable (s:List Int) (hs:s.length≤1000000) (F:MF)
theorem yS (a c:UInt8):(⟨#[a]⟩:ByteArray)++(⟨#[c]⟩:ByteArray)=bytes [a,c]:=by
 apply ByteArray.ext
 simp [bytes]
theorem yT (a b c:UInt8):(⟨#[a,b]⟩:ByteArray)++(⟨#[c]⟩:ByteArray)=bytes [a,b,c]:=by
 apply ByteArray.ext
 simp [bytes]
theorem Ib {z:Int} (h:0≤z∧z < 256):IntKind.wrap .u8 z=z:=by
 unfold IntKind.wrap
 simp [IntKind.signed,IntKind.bits]
 try omega
theorem uY (n:Nat) (h:n < 100):IntKind.wrap .u8 (97+(n:Int))=97+(n:Int):=Ib (by omega)
theorem y0 (n:Nat) (h:n < 100):UInt8.ofNat (97+(n:Int)).toNat=(97+n).toUInt8:=by
 rw [show ((97+(n:Int))).toNat=97+n by omega]
theorem HZ {a c:Nat×AB} {T:AL}:(a::(T++[])++[c]).Perm ([a,c]++(T++[])):=List.Perm.cons a (List.perm_append_comm (l₁:=T++[]))
def l8 (nm:ByteArray) (ad:Int) (mk:Bool) (o:List eE×List Int) (ps an de hi:AV):List AV:=[vP nm,aF ad,dV mk,.imm 3 (o.1.map dA),.imm 1 (aX o.2),ps,an,de,hi]
theorem yG (mark:Bool) (cl:Int) (m:MS) (k:Nat):(eL s mark cl k m).1.length≤k:=by
 refine (bU.runs (fun i (l:List dv)=>l.length≤i) k (Nat.le_refl _) fun i l _ h=>(bU.any _).bnd fun z _=>bU.ite (fun _=>(bU.any _).bnd fun x _=>(bU.any _).bnd fun y _=>bU.ret (by simp;omega)) fun _=>bU.ret (by omega)) m
theorem wq (r:Nat) (l:List dH) (m:MS) (k:Nat):(hY s r l k m).1.length≤l.length+k:=by
 refine (bU.runs (fun i (q:List dH)=>q.length≤l.length+i) k (Nat.le_refl _) fun i q _ h=>(bU.any _).bnd fun z _=>bU.ite (fun _=>(bU.any _).bnd fun x _=>bU.ite (fun _=>bU.ret (by simp;omega)) fun _=>(bU.any _).bnd fun y _=>bU.ret (by simp;omega)) fun _=>bU.ret (by omega)) m
def kC (cl:Int):List (List AV):=(ge cl).map fun p=>[aF p.1,aF p.2]
abbrev Dq (F:MF) (v:AV):MF:={ F with gl:=v }
include hs
set_option maxHeartbeats 16000000 in
theorem BZ {kg:Option (Nat×Nat)} {gl rg fu:List (List AV)} (hF:F.gl= .vec kg 9 gl) (hrg:F.rg= .imm 1 rg) (hfu:F.fu= .imm 1 fu) (R fn n:Nat) (hR:rg.length=R) (hfn:fu.length=fn) (hg:gl.length≤1000) (hRl:R≤1000) (hfl:fn≤1000) (hn:n < 100) (b:Nat) (m:MS):AC Tryz.prog 91 [Dy b,aF n] ([dR b s F m]++(tok kg 76 9 gl.length++[])) fun _ L=>∃kg',L=[dR b s (Dq F (.vec kg' 9 (gl++[bO (ke s R fn n m).1]))) (ke s R fn n m).2]++(tok kg' 76 9 (gl++[bO (ke s R fn n m).1]).length++[]):=by
 refine aM Tryz.func91 rfl Tryz.ntmps91 rfl fun B=>?_
 repeat' (first|refine Ji ?_|fail)
 refine bw 15 [(0,.v),(1,.v),(2,.v),(3,.v),(4,.v),(5,.v),(6,.v),(10,.v),(7,.e),(8,.v),(9,.v),(11,.e),(12,.v),(13,.v)] (some (14,.box _ 76)) ?_ ⟨_,rfl,rfl,fun _ _ _=>mN (eJ a5 rfl) rfl⟩ rfl (by kernel_rfl) (by kernel_rfl) (by kernel_rfl) bR (by kernel_rfl) rfl
 repeat' (first|refine aD ?_|refine b7 a5 ?_|(apply ea;refine fz ?_)|fail)
 refine BB a5 ?_
 rw [uY n hn]
 repeat' (first|refine aD ?_|refine ej a5 ?_|fail)
 refine xL a5 ?_
 rw [y0 n hn]
 repeat' (first|refine aD ?_|fail)
 refine FB (hs:=Nat.le_of_ble_eq_true rfl) ?_
 rw [yS]
 repeat' (first|refine aD ?_|refine b7 a5 ?_|fail)
 refine t8 ?_
 have had:=co s hs m.a (n:=19) (by omega)
 have had:0≤(dr s 19 m).1∧(dr s 19 m).1 < 19:=had
 generalize e1:dr s 19 m=ad at had ⊢
 repeat' (first|refine aD ?_|(apply ea;refine fz ?_)|fail)
 refine t8 ?_
 generalize e2:dr s 4 ad.2=mk
 repeat' (first|refine aD ?_|refine b7 a5 ?_|fail)
 refine xO [0,1,4,23] (fun _=>_) (fun _=>rfl) rfl fun _=>?_
 rename_i gb
 refine aI (aQ (L':=[dR b s F mk.2,(gb,.box [.sc (.string ⟨#[]⟩),aF 0,dV false,bS,bS,bS,bS,bS,bS] 76)]++(tok kg 76 9 gl.length++[])) HZ) ?_
 repeat' (first|refine Ji ?_|refine JF a5 H6 ?_|(apply aK;first|refine JG a5 0 JD ?_|refine JG a5 1 JD ?_|refine JG a5 2 JD ?_|refine JG a5 3 JD ?_|fail))
 refine t5 [0,1,4] ([dR b s F mk.2,(gb,.box [vP (cJ n),aF (100+ad.1 * 50),dV (decide (mk.1=0) && decide (n≠0)),bS,bS,.vec none 3 [],.vec none 4 [],.vec none 4 [],bS] 76)]++(tok kg 76 9 gl.length++[])) rfl (fun Q' K=>?_) ?_
 ·refine ar rfl (fun h=>?_) (fun h=>?_)
  ·have h:n=0:=by have:=Jy h;omega
   have hm:(decide (mk.1=0) && decide (n≠0))=false:=by simp [h]
   have hgn:cJ n=CI:=if_pos h
   rw [hm,hgn] at K
   repeat' (first|refine Ji ?_|refine JF a5 H6 ?_|(apply aK;first|refine JG a5 0 JD ?_|refine JG a5 1 JD ?_|refine JG a5 2 JD ?_|refine JG a5 3 JD ?_|fail))
   refine bk (bD 1 rfl fun σ vs h=>cA (k:=5) (c':= .vec none 3 []) (cA (k:=6) (c':= .vec none 4 []) (cA (k:=7) (c':= .vec none 4 []) h rfl fun v hv=>cS 4 hv) rfl fun v hv=>cS 4 hv) rfl fun v hv=>cS 3 hv) ?_
   exact K _ rfl
  ·have h:¬n=0:=by have:=Jx h;omega
   have hm:(decide (mk.1=0) && decide (n≠0))=decide (mk.1=0):=by simp [h]
   have hgn:cJ n=jj IV n:=if_neg h
   rw [hm,hgn] at K
   repeat' (first|refine Ji ?_|fail)
   refine bk (bD 1 rfl fun σ vs h=>cA (k:=5) (c':= .vec none 3 []) (cA (k:=6) (c':= .vec none 4 []) (cA (k:=7) (c':= .vec none 4 []) h rfl fun v hv=>cS 4 hv) rfl fun v hv=>cS 4 hv) rfl fun v hv=>cS 3 hv) ?_
   exact K _ rfl
 generalize hmk:(decide (mk.1=0) && decide (n≠0))=mb
 repeat' (first|refine Ji ?_|refine JF a5 H6 ?_)
 refine v9 (tN s hs F) ?_
 have ho:=p6 s mk.2
 generalize e3:jE s mk.2=o at ho ⊢
 obtain ⟨ko,hko,hoo⟩:=ho
 have hol:=hoo.len
 unfold HW
 refine JF a5 H6 ?_
 (apply aK;refine JG a5 1 JD ?_)
 refine a7 ?_
 refine a6 ?_
 refine a9 ?_
 refine t5 [0,4] ([dR b s F (iP s n o.2).2,(gb,.box (l8 (cJ n) (100+ad.1 * 50) mb o.1 (.imm 3 ((iP s n o.2).1.map eD)) (.vec none 4 []) (.vec none 4 []) bS) 76)]++(tok kg 76 9 gl.length++[])) rfl (fun Q' K=>?_) ?_
 ·repeat' (first|refine Ji ?_|refine JF a5 H6 ?_)
  by_cases hn1:1 < n
  ·rw [decide_eq_true (show (1:Int) < (n:Int) by omega)]
   repeat' (first|refine JF a5 H6 ?_|refine JN H6 ?_)
   refine cC ?_
   generalize e4:dr s 4 o.2=z
   repeat' (first|refine Ji ?_|refine JF a5 H6 ?_|refine JN H6 ?_)
   refine ar rfl (fun h=>?_) (fun h=>?_)
   ·have h:=Jy h
    repeat' (first|fail)
    refine dk [.cell (gb,5,.vec none 3 [])] 11 [(0,.v),(1,.k),(2,.v),(6,.v),(3,.f),(4,.v),(5,.v),(7,.f),(8,.v),(9,.v),(10,.v)] none ?_ trivial rfl (by kernel_rfl) (by kernel_rfl) (by kernel_rfl) bR (by kernel_rfl) rfl
    repeat' (first|refine aD ?_|refine b7 a5 ?_|fail)
    refine dI a5 0 rfl rfl rfl (bN 1 rfl rfl bY) (by first | trivial | rfl) ?_
    repeat' (first|refine aD ?_|refine b7 a5 ?_|fail)
    refine eF (bN 1 rfl rfl bY) ?_
    have hx:=co s hs z.2.a (n:=9) (by omega)
    have hx:0≤(dr s 9 z.2).1∧(dr s 9 z.2).1 < 9:=hx
    generalize e5:dr s 9 z.2=x at hx ⊢
    repeat' (first|refine aD ?_|(apply ea;refine fz ?_)|fail)
    refine eF (bN 1 rfl rfl bY) ?_
    have hy:=co s hs x.2.a (n:=5) (by omega)
    have hy:0≤(dr s 5 x.2).1∧(dr s 5 x.2).1 < 5:=hy
    generalize e6:dr s 5 x.2=y at hy ⊢
    repeat' (first|refine aD ?_|refine b7 a5 ?_|(apply ea;refine fz ?_)|refine ej a5 ?_|fail)
    refine JQ [0,4,39,48] H6 ?_
    repeat' (first|fail)
    refine bK a5 _ rfl rfl rfl rfl (Jo _) (by simp) (by simp) rfl fun q'=>?_
    refine aI (bH (List.sublist_append_right _ _)) ?_
    repeat' (first|refine Ji ?_|refine JF a5 H6 ?_|(apply aK;first|refine JG a5 0 JD ?_|refine JG a5 1 JD ?_|refine JG a5 2 JD ?_|refine JG a5 3 JD ?_|fail))
    have hv:iP s n o.2=([⟨1,x.1 * 50 - 200,y.1 * 50⟩],y.2):=by simp [iP,c8,ret,hn1,e4,e5,e6,h]
    rw [hv] at K
    refine bk (bD 1 rfl fun σ vs h=>cA (k:=5) (c':= .imm 3 ([(⟨1,x.1 * 50 - 200,y.1 * 50⟩:dL)].map eD)) h rfl fun v hv=>VR.im hv) ?_
    exact K _ rfl
   ·have h:=Jx h
    repeat' (first|refine Ji ?_|fail)
    have hv:iP s n o.2=([],z.2):=by simp [iP,c8,ret,hn1,e4,h]
    rw [hv] at K
    refine bk (bD 1 rfl fun σ vs h=>cA (k:=5) (c':= .imm 3 []) h rfl fun v hv=>VR.im hv) ?_
    exact K _ rfl
  ·rw [decide_eq_false (show ¬(1:Int) < (n:Int) by omega)]
   repeat' (first|refine Ji ?_|refine JF a5 H6 ?_|refine JO JB ?_|refine bA rfl ?_)
   have hv:iP s n o.2=([],o.2):=by simp [iP,ret,hn1]
   rw [hv] at K
   refine bk (bD 1 rfl fun σ vs h=>cA (k:=5) (c':= .imm 3 []) h rfl fun v hv=>VR.im hv) ?_
   exact K _ rfl
 generalize e4:iP s n o.2=ps
 repeat' (first|refine Ji ?_|refine JF a5 H6 ?_)
 refine cC ?_
 have hcl:=co s hs ps.2.a (n:=2) (by omega)
 have hcl:0≤(dr s 2 ps.2).1∧(dr s 2 ps.2).1 < 2:=hcl
 generalize e5:dr s 2 ps.2=cl at hcl ⊢
 repeat' (first|refine Ji ?_|refine am ?_|refine JF a5 H6 ?_|refine bM a5 ?_|fail)
 refine aP [0,4,5] (α:=Nat×Option (Nat×Nat)) (fun x=>[(6,aF x.1),(5,.imm 2 (kC cl.1))]) (fun x=>x.1≤5) (fun x=>[dR b s F (eL s mb cl.1 x.1 cl.2).2,(gb,.box (l8 (cJ n) (100+ad.1 * 50) mb o.1 (.imm 3 (ps.1.map eD)) (.vec x.2 4 ((eL s mb cl.1 x.1 cl.2).1.map d8)) (.vec none 4 []) bS) 76)]++(tok x.2 113 4 ((eL s mb cl.1 x.1 cl.2).1.map d8).length++(tok kg 76 9 gl.length++[]))) (fun x=>5 - x.1) (0,none) rfl ⟨rfl,rfl,trivial⟩ (Nat.zero_le _) (fun _ _ h=>h) ?_
 rintro ⟨i,q⟩ hi
 dsimp only at hi ⊢
 have hal:=yG s mb cl.1 cl.2 i
 have hstep:eL s mb cl.1 (i+1) cl.2=(c8 (dr s 3) fun z=>if z=0∧(((ge cl.1).getD i (0,0)).1≠2∨mb=true) then c8 (dr s 21) fun x=>c8 (dr s 21) fun y=>ret ((eL s mb cl.1 i cl.2).1++[(⟨((ge cl.1).getD i (0,0)).1,((ge cl.1).getD i (0,0)).2,x * 50,y * 50 - 200⟩:dv)]) else ret (eL s mb cl.1 i cl.2).1) (eL s mb cl.1 i cl.2).2:=rfl
 try dsimp only [Js,Jr,Jq,Jl]
 repeat' (first|refine Ji ?_|refine JF a5 H6 ?_)
 refine ar rfl (fun h=>?_) (fun h=>?_)
 ·have hil:i < 5:=by have:=Jy h;omega
  have hka:(kC cl.1)[i]?=some [aF ((ge cl.1).getD i (0,0)).1,aF ((ge cl.1).getD i (0,0)).2]:=by
   unfold kC
   rw [List.getElem?_map,ue hil]
   rfl
  generalize eL s mb cl.1 i cl.2=st at hal hstep ⊢
  have halm:(st.1.map d8).length=st.1.length:=Ju ..
  generalize (ge cl.1).getD i (0,0)=pr at hka hstep
  repeat' (first|refine Ji ?_|refine am ?_|refine JF a5 H6 ?_)
  refine cC ?_
  unfold c8 at hstep
  generalize dr s 3 st.2=z at hstep ⊢
  dsimp only at hstep
  repeat' (first|refine JF a5 H6 ?_)
  refine dq (t:=77) [0,4,5,6] (z.1=0∧(pr.1≠2∨mb=true)) rfl (fun Q' K=>?_) ?_
  ·by_cases hz:z.1=0
   ·rw [decide_eq_true hz]
    repeat' (first|refine JF a5 H6 ?_|refine JN H6 ?_|(apply aO;first|refine aN a5 ?_|refine aG a5 ?_)|fail)
    refine HS a5 0 ?_
    repeat' (first|refine JF a5 H6 ?_|refine JN H6 ?_)
    by_cases h2:pr.1≠2
    ·rw [decide_eq_true h2]
     repeat' (first|refine Ji ?_|refine JF a5 H6 ?_|refine JN H6 ?_|refine JO JB ?_)
     exact K _ _ rfl rfl (by simp [hz,h2])
    ·rw [decide_eq_false h2]
     repeat' (first|refine Ji ?_|refine JF a5 H6 ?_|refine JN H6 ?_|(apply bE;first|refine JI a5 0 JC ?_|refine JI a5 1 JC ?_|refine JI a5 2 JC ?_|refine JI a5 3 JC ?_|refine JJ a5 0 JC ?_|refine JJ a5 1 JC ?_|refine JJ a5 2 JC ?_|refine JK a5 1 JA (by assumption) rfl ?_|refine JK a5 0 JA (by assumption) rfl ?_|fail)|fail)
     exact K _ _ rfl rfl (by simp only [ne_eq,Decidable.not_not] at h2;simp [hz,h2])
   ·rw [decide_eq_false hz]
    repeat' (first|refine Ji ?_|refine JF a5 H6 ?_|refine JO JB ?_|refine dz rfl rfl rfl ?_)
    exact K _ _ rfl rfl (by simp [hz])
  repeat' (first|refine Ji ?_|fail)
  refine ar rfl (fun h=>?_) (fun h=>?_)
  ·have h:=Jy h
   rw [if_pos h] at hstep
   repeat' (first|fail)
   refine dk [.cell (gb,6,.vec q 4 (st.1.map d8))] 21 [(0,.v),(1,.k),(2,.v),(3,.v),(4,.v),(5,.v),(6,.v),(7,.v),(8,.v),(9,.v),(10,.v),(11,.v),(12,.v),(15,.v),(13,.f),(14,.v),(16,.f),(17,.v),(18,.v),(19,.v),(20,.v)] none ?_ trivial rfl (by kernel_rfl) (by kernel_rfl) (by kernel_rfl) bR (by kernel_rfl) rfl
   repeat' (first|refine aD ?_|refine b7 a5 ?_|fail)
   refine dI a5 0 rfl rfl rfl (bN 1 rfl rfl bY) (by first | trivial | rfl) ?_
   repeat' (first|refine aD ?_|refine b7 a5 ?_|(apply bV;refine cn a5 ?_)|fail)
   refine FA a5 0 ?_
   repeat' (first|refine aD ?_|refine b7 a5 ?_|(apply bV;refine cn a5 ?_)|fail)
   refine FA a5 1 ?_
   repeat' (first|refine aD ?_|refine b7 a5 ?_|fail)
   refine eF (bN 1 rfl rfl bY) ?_
   have hx:=co s hs z.2.a (n:=21) (by omega)
   have hx:0≤(dr s 21 z.2).1∧(dr s 21 z.2).1 < 21:=hx
   generalize dr s 21 z.2=x at hx hstep ⊢
   try dsimp only at hstep
   repeat' (first|refine aD ?_|(apply ea;refine fz ?_)|fail)
   refine eF (bN 1 rfl rfl bY) ?_
   have hy:=co s hs x.2.a (n:=21) (by omega)
   have hy:0≤(dr s 21 x.2).1∧(dr s 21 x.2).1 < 21:=hy
   generalize dr s 21 x.2=y at hy hstep ⊢
   try dsimp only [ret] at hstep
   repeat' (first|refine aD ?_|refine b7 a5 ?_|(apply ea;refine fz ?_)|refine ej a5 ?_|fail)
   refine JQ [0,4,5,6,79,98] H6 ?_
   repeat' (first|fail)
   refine bK a5 _ rfl rfl rfl rfl (eI (A:=[_,_])) (by simp;omega) (by simp;omega) rfl fun q'=>?_
   refine aI (aQ (eI (A:=[_,_])).symm) ?_
   repeat' (first|refine Ji ?_|refine JF a5 H6 ?_|(apply aS;refine aR ?_)|(apply aK;first|refine JG a5 0 JD ?_|refine JG a5 1 JD ?_|refine JG a5 2 JD ?_|refine JG a5 3 JD ?_|fail))
   exact aC (i+1,q') rfl ⟨by rw [Jv];rfl,rfl,trivial⟩ (by dsimp only;omega) (by dsimp only;omega) (fun _ _ h=>by dsimp only;rw [hstep];dsimp only;rw [List.map_append];exact h)
  ·have h:=Jx h
   rw [if_neg h] at hstep
   dsimp only [ret] at hstep
   repeat' (first|refine Ji ?_|refine JF a5 H6 ?_|(apply aS;refine aR ?_)|fail)
   exact aC (i+1,q) rfl ⟨by rw [Jv];rfl,rfl,trivial⟩ (by dsimp only;omega) (by dsimp only;omega) (fun _ _ h=>by dsimp only;rw [hstep];exact h)
 have hil:i=5:=by have:=Jx h;omega
 subst hil
 clear hstep hal
 generalize e6:eL s mb cl.1 5 cl.2=an
 refine c5 (bD 1 rfl fun σ vs h=>cA (k:=6) (c':= .imm 4 (an.1.map d8)) h rfl fun v hv=>VR.im hv) ?_
 refine c5 (bH (L':=[dR b s F an.2,(gb,.box (l8 (cJ n) (100+ad.1 * 50) mb o.1 (.imm 3 (ps.1.map eD)) (.imm 4 (an.1.map d8)) (.vec none 4 []) bS) 76)]++(tok kg 76 9 gl.length++[])) (List.Sublist.cons_cons _ (List.Sublist.cons_cons _ (List.sublist_append_right _ _)))) ?_
 have hpl:(o.1.1.map dA).length=o.1.1.length:=Ju ..
 repeat' (first|refine Ji ?_|refine am ?_|refine JF a5 H6 ?_)
 refine aP [0,4] (α:=Nat×Option (Nat×Nat)) (fun x=>[(7,aF x.1)]) (fun x=>x.1≤R) (fun x=>[dR b s F (gi s o.1.1.length x.1 an.2).2,(gb,.box (l8 (cJ n) (100+ad.1 * 50) mb o.1 (.imm 3 (ps.1.map eD)) (.imm 4 (an.1.map d8)) (.vec x.2 4 ((gi s o.1.1.length x.1 an.2).1.map dZ)) bS) 76)]++(tok x.2 115 4 ((gi s o.1.1.length x.1 an.2).1.map dZ).length++(tok kg 76 9 gl.length++[]))) (fun x=>R - x.1) (0,none) rfl ⟨rfl,trivial⟩ (Nat.zero_le _) (fun _ _ h=>h) ?_
 rintro ⟨r,q⟩ hr
 dsimp only at hr ⊢
 have hdl:=(qf s o.1.1.length r an.2).len
 have hdl:(gi s o.1.1.length r an.2).1.length≤11000:=Nat.le_trans hdl (Nat.le_trans (Nat.mul_le_mul (show r≤1000 by omega) (show o.1.1.length+1≤11 by omega)) (by omega))
 have hstep:gi s o.1.1.length (r+1) an.2=hY s r (gi s o.1.1.length r an.2).1 (o.1.1.length+1) (gi s o.1.1.length r an.2).2:=rfl
 try dsimp only [Js,Jr,Jq,Jl]
 repeat' (first|refine Ji ?_|refine JF a5 H6 ?_|(apply bE;first|refine JI a5 0 JC ?_|refine JI a5 1 JC ?_|refine JI a5 2 JC ?_|refine JI a5 3 JC ?_|refine JJ a5 0 JC ?_|refine JJ a5 1 JC ?_|refine JJ a5 2 JC ?_|refine JK a5 1 JA (by assumption) rfl ?_|refine JK a5 0 JA (by assumption) rfl ?_|fail)|fail)
 rw [hrg]
 repeat' (first|refine Ji ?_|refine JF a5 H6 ?_)
 rw [hR]
 refine ar rfl (fun h=>?_) (fun h=>?_)
 ·have hrl:r < R:=by have:=Jy h;omega
  generalize gi s o.1.1.length r an.2=D at hdl hstep ⊢
  repeat' (first|refine Ji ?_|refine am ?_|refine JF a5 H6 ?_)
  refine aP [0,4,7] (α:=Nat×Option (Nat×Nat)) (fun x=>[(8,aF ((x.1:Int) - 1))]) (fun x=>x.1≤o.1.1.length+1) (fun x=>[dR b s F (hY s r D.1 x.1 D.2).2,(gb,.box (l8 (cJ n) (100+ad.1 * 50) mb o.1 (.imm 3 (ps.1.map eD)) (.imm 4 (an.1.map d8)) (.vec x.2 4 ((hY s r D.1 x.1 D.2).1.map dZ)) bS) 76)]++(tok x.2 115 4 ((hY s r D.1 x.1 D.2).1.map dZ).length++(tok kg 76 9 gl.length++[]))) (fun x=>o.1.1.length+1 - x.1) (0,q) rfl ⟨rfl,trivial⟩ (Nat.zero_le _) (fun _ _ h=>h) ?_
  rintro ⟨p,q⟩ hp
  dsimp only at hp ⊢
  have hel:=wq s r D.1 D.2 p
  have hst2:hY s r D.1 (p+1) D.2=(c8 (dr s 3) fun z=>if z=0 then c8 (dr s 41) fun x=>if p=0 then ret ((hY s r D.1 p D.2).1++[(⟨r,-1,x - 20,0⟩:dH)]) else c8 (dr s 41) fun y=>ret ((hY s r D.1 p D.2).1++[(⟨r,(p:Int) - 1,x - 20,y - 20⟩:dH)]) else ret (hY s r D.1 p D.2).1) (hY s r D.1 p D.2).2:=rfl
  try dsimp only [Js,Jr,Jq,Jl]
  repeat' (first|refine Ji ?_|refine JF a5 H6 ?_|(apply bE;first|refine JI a5 0 JC ?_|refine JI a5 1 JC ?_|refine JI a5 2 JC ?_|refine JI a5 3 JC ?_|refine JJ a5 0 JC ?_|refine JJ a5 1 JC ?_|refine JJ a5 2 JC ?_|refine JK a5 1 JA (by assumption) rfl ?_|refine JK a5 0 JA (by assumption) rfl ?_|fail)|fail)
  refine ar rfl (fun h=>?_) (fun h=>?_)
  ·have hpp:p < o.1.1.length+1:=by have:=Jy h;rw [hpl] at this;omega
   generalize hY s r D.1 p D.2=E at hel hst2 ⊢
   have hElm:(E.1.map dZ).length=E.1.length:=Ju ..
   repeat' (first|refine Ji ?_|refine am ?_|refine JF a5 H6 ?_)
   refine cC ?_
   unfold c8 at hst2
   generalize dr s 3 E.2=z at hst2 ⊢
   dsimp only at hst2
   repeat' (first|refine Ji ?_|refine JF a5 H6 ?_)
   refine ar rfl (fun hz=>?_) (fun hz=>?_)
   ·rw [if_pos (Jy hz)] at hst2
    repeat' (first|refine Ji ?_|refine JF a5 H6 ?_)
    refine cC ?_
    have hx:=co s hs z.2.a (n:=41) (by omega)
    have hx:0≤(dr s 41 z.2).1∧(dr s 41 z.2).1 < 41:=hx
    generalize dr s 41 z.2=x at hx hst2 ⊢
    try dsimp only at hst2
    repeat' (first|refine Ji ?_|refine JF a5 H6 ?_|(apply aS;refine aR ?_)|(apply aK;first|refine JG a5 0 JD ?_|refine JG a5 1 JD ?_|refine JG a5 2 JD ?_|refine JG a5 3 JD ?_|fail)|refine bj a5 fun _=>?_|fail)
    refine c5 (aQ (List.perm_middle (l₁:=[_,_])).symm) ?_
    refine ar rfl (fun h0=>?_) (fun h0=>?_)
    ·have h0:¬p=0:=by have:=Jy h0;omega
     rw [if_neg h0] at hst2
     repeat' (first|refine Ji ?_|refine JF a5 H6 ?_)
     refine cC ?_
     have hy:=co s hs x.2.a (n:=41) (by omega)
     have hy:0≤(dr s 41 x.2).1∧(dr s 41 x.2).1 < 41:=hy
     generalize dr s 41 x.2=y at hy hst2 ⊢
     try dsimp only [ret] at hst2
     repeat' (first|refine Ji ?_|refine JF a5 H6 ?_|(apply bE;first|refine JI a5 0 JC ?_|refine JI a5 1 JC ?_|refine JI a5 2 JC ?_|refine JI a5 3 JC ?_|refine JJ a5 0 JC ?_|refine JJ a5 1 JC ?_|refine JJ a5 2 JC ?_|refine JK a5 1 JA (by assumption) rfl ?_|refine JK a5 0 JA (by assumption) rfl ?_|fail)|(apply aS;refine aR ?_)|(apply aK;first|refine JG a5 0 JD ?_|refine JG a5 1 JD ?_|refine JG a5 2 JD ?_|refine JG a5 3 JD ?_|fail)|refine bM a5 ?_|fail)
     refine bK a5 _ rfl rfl rfl rfl (eI (A:=[_,_,_])) (by simp;omega) (by simp;omega) rfl fun q'=>?_
     refine aI (aQ (eI (A:=[_,_,_])).symm) ?_
     repeat' (first|refine Ji ?_|refine JF a5 H6 ?_|(apply aS;refine aR ?_)|(apply aK;first|refine JG a5 0 JD ?_|refine JG a5 1 JD ?_|refine JG a5 2 JD ?_|refine JG a5 3 JD ?_|fail))
     exact aC (p+1,q') rfl ⟨by dsimp only;rw [show ((p+1:Nat):Int) - 1=(p:Int) - 1+1 by omega];rfl,trivial⟩ (by dsimp only;omega) (by dsimp only;omega) (fun _ _ h=>by dsimp only;rw [hst2];dsimp only;rw [List.map_append];exact h.sublist (List.Sublist.cons_cons _ (List.Sublist.cons_cons _ (List.sublist_cons_self ..))))
    ·have h0:p=0:=by have:=Jx h0;omega
     rw [if_pos h0] at hst2
     try dsimp only [ret] at hst2
     repeat' (first|refine Ji ?_|refine JF a5 H6 ?_|(apply bE;first|refine JI a5 0 JC ?_|refine JI a5 1 JC ?_|refine JI a5 2 JC ?_|refine JI a5 3 JC ?_|refine JJ a5 0 JC ?_|refine JJ a5 1 JC ?_|refine JJ a5 2 JC ?_|refine JK a5 1 JA (by assumption) rfl ?_|refine JK a5 0 JA (by assumption) rfl ?_|fail)|refine bM a5 ?_|fail)
     refine bK a5 _ rfl rfl rfl rfl (eI (A:=[_,_,_])) (by simp;omega) (by simp;omega) rfl fun q'=>?_
     refine aI (aQ (eI (A:=[_,_,_])).symm) ?_
     repeat' (first|refine Ji ?_|refine JF a5 H6 ?_|(apply aS;refine aR ?_)|(apply aK;first|refine JG a5 0 JD ?_|refine JG a5 1 JD ?_|refine JG a5 2 JD ?_|refine JG a5 3 JD ?_|fail))
     subst h0
     exact aC (0+1,q') rfl ⟨rfl,trivial⟩ (by dsimp only;omega) (by dsimp only;omega) (fun _ _ h=>by dsimp only;rw [hst2];dsimp only;rw [List.map_append];exact h.sublist (List.Sublist.cons_cons _ (List.Sublist.cons_cons _ (List.sublist_cons_self ..))))
   ·rw [if_neg (Jx hz)] at hst2
    try dsimp only [ret] at hst2
    repeat' (first|refine Ji ?_|refine JF a5 H6 ?_|(apply aS;refine aR ?_)|fail)
    exact aC (p+1,q) rfl ⟨by dsimp only;rw [show ((p+1:Nat):Int) - 1=(p:Int) - 1+1 by omega];rfl,trivial⟩ (by dsimp only;omega) (by dsimp only;omega) (fun _ _ h=>by dsimp only;rw [hst2];exact h)
  have hpp:p=o.1.1.length+1:=by have:=Jx h;rw [hpl] at this;omega
  subst hpp
  repeat' (first|refine Ji ?_|refine JF a5 H6 ?_|(apply aS;refine aR ?_)|fail)
  exact aC (r+1,q) rfl ⟨by rw [Jv];rfl,trivial⟩ (by dsimp only;omega) (by dsimp only;omega) (fun _ _ h=>by dsimp only;rw [hstep];exact h)
 have hrl:r=R:=by have:=Jx h;omega
 subst hrl
 clear hstep hdl
 generalize e7:gi s o.1.1.length r an.2=de
 repeat' (first|refine Ji ?_|refine JF a5 H6 ?_|(apply aK;first|refine JG a5 0 JD ?_|refine JG a5 1 JD ?_|refine JG a5 2 JD ?_|refine JG a5 3 JD ?_|fail))
 refine c5 (aQ (L':=[dR b s F (gV 2 de.2).2,(gb,.box (l8 (cJ n) (100+ad.1 * 50) mb o.1 (.imm 3 (ps.1.map eD)) (.imm 4 (an.1.map d8)) (.vec q 4 (de.1.map dZ)) bS) 76)]++(tok q 115 4 (de.1.map dZ).length++(tok kg 76 9 gl.length++[]))) (Jo _)) ?_
 refine c5 (bD 1 rfl fun σ vs h=>cA (k:=7) (c':= .imm 4 (de.1.map dZ)) h rfl fun v hv=>VR.im hv) ?_
 refine c5 (bH (L':=[dR b s F (gV 2 de.2).2,(gb,.box (l8 (cJ n) (100+ad.1 * 50) mb o.1 (.imm 3 (ps.1.map eD)) (.imm 4 (an.1.map d8)) (.imm 4 (de.1.map dZ)) bS) 76)]++(tok kg 76 9 gl.length++[])) (List.Sublist.cons_cons _ (List.Sublist.cons_cons _ (List.sublist_append_right _ _)))) ?_
 generalize e8:(gV 2 de.2).2=w
 refine bw 11 [(0,.v),(1,.v),(2,.v),(3,.l),(4,.v),(5,.v),(6,.v),(7,.v),(8,.v),(9,.l),(10,.v)] none ?_ trivial rfl (by kernel_rfl) (by kernel_rfl) (by kernel_rfl) bR (by kernel_rfl) rfl
 repeat' (first|refine aD ?_|refine b7 a5 ?_|refine ca a5 0 rfl rfl rfl rfl (by first|trivial|rfl) ?_|refine ca a5 1 rfl rfl rfl rfl (by first|trivial|rfl) ?_)
 rw [hfu]
 repeat' (first|refine b7 a5 ?_|fail)
 rw [hfn,hpl]
 refine JQ [0,4,143,147,153] H6 ?_
 refine v9 (sm s hs F (n:=o.1.1.length) (fn:=fn) (most:=6) (by omega) (by omega) (by omega)) ?_
 generalize e9:n5 s o.1.1.length fn 6 w=hi
 unfold jv
 repeat' (first|refine Ji ?_|refine JF a5 H6 ?_|(apply aK;first|refine JG a5 0 JD ?_|refine JG a5 1 JD ?_|refine JG a5 2 JD ?_|refine JG a5 3 JD ?_|fail))
 refine c5 (aQ (L':=[dR b s F hi.2,(gb,.box (l8 (cJ n) (100+ad.1 * 50) mb o.1 (.imm 3 (ps.1.map eD)) (.imm 4 (an.1.map d8)) (.imm 4 (de.1.map dZ)) (.imm 2 (hi.1.map eT))) 76)]++(tok kg 76 9 gl.length++[])) (Jo _)) ?_
 refine bw 9 [(0,.v),(1,.v),(2,.v),(3,.v),(4,.v),(5,.l),(6,.l),(7,.v),(8,.e)] none ?_ trivial rfl (by kernel_rfl) (by kernel_rfl) (by kernel_rfl) bR (by kernel_rfl) rfl
 repeat' (first|refine aD ?_|refine b7 a5 ?_|refine ej a5 ?_|refine ca a5 0 rfl rfl rfl rfl (by first|trivial|rfl) ?_|refine py a5 1 rfl rfl rfl rfl (by first|trivial|rfl) ?_)
 rw [hF]
 refine f8 a5 _ rfl rfl rfl rfl (eI (A:=[_,_])) (by simp;omega) (by simp;omega) (by first | trivial | rfl) fun q'=>?_
 refine JQ [156,164] H6 ?_
 refine aI (aQ (eI (A:=[_,_])).symm) ?_
 repeat' (first|refine Ji ?_|refine JF a5 H6 ?_|(apply aK;first|refine JG a5 0 JD ?_|refine JG a5 1 JD ?_|refine JG a5 2 JD ?_|refine JG a5 3 JD ?_|fail))
 have hv:ke s r fn n m=(⟨cJ n,100+ad.1 * 50,mb,o.1.1,o.1.2,ps.1,an.1,de.1,hi.1⟩,hi.2):=by
  unfold ke c8
  rw [e1]
  try dsimp only
  rw [e2]
  try dsimp only
  rw [e3]
  try dsimp only
  rw [e4]
  try dsimp only
  rw [e5,hmk]
  try dsimp only
  rw [e6]
  try dsimp only
  rw [e7]
  try dsimp only
  rw [e8,e9]
  rfl
 rw [hv]
 exact bk (bH (L':=[dR b s (Dq F (.vec q' 9 (gl++[bO ⟨cJ n,100+ad.1 * 50,mb,o.1.1,o.1.2,ps.1,an.1,de.1,hi.1⟩]))) hi.2]++(tok q' 76 9 (gl++[bO ⟨cJ n,100+ad.1 * 50,mb,o.1.1,o.1.2,ps.1,an.1,de.1,hi.1⟩]).length++[])) (List.Sublist.cons_cons _ (List.sublist_cons_self ..))) (cG rfl ⟨q',rfl⟩)
end Go.Proofs.YtpmdfoaadejmkaaGreatDoor
