/-
  The maker: glyphs.
-/
import Derived.Test.YtpmdfoaadejmkaaGreatDoorM29
namespace Go.Proofs.YtpmdfoaadejmkaaGreatDoor
open Go.RowKit
attribute [local irreducible] AT bJ AX AO Av Kt bi dq DA cG
variable (s:List Int) (hs:s.length≤1000000) (F:MF)
theorem zP (a c:UInt8):(⟨#[a]⟩:ByteArray)++(⟨#[c]⟩:ByteArray)=bytes [a,c]:=by
 apply ByteArray.ext
 simp [bytes]
theorem zQ (a b c:UInt8):(⟨#[a,b]⟩:ByteArray)++(⟨#[c]⟩:ByteArray)=bytes [a,b,c]:=by
 apply ByteArray.ext
 simp [bytes]
theorem J5 {z:Int} (h:0≤z∧z < 256):IntKind.wrap .u8 z=z:=by
 unfold IntKind.wrap
 simp [IntKind.signed,IntKind.bits]
 try omega
theorem vK (n:Nat) (h:n < 100):IntKind.wrap .u8 (97+(n:Int))=97+(n:Int):=J5 (by omega)
theorem yS (n:Nat) (h:n < 100):UInt8.ofNat (97+(n:Int)).toNat=(97+n).toUInt8:=by
 rw [show ((97+(n:Int))).toNat=97+n by omega]
theorem IT {a c:Nat×AB} {T:AL}:(a::(T++[])++[c]).Perm ([a,c]++(T++[])):=List.Perm.cons a (List.perm_append_comm (l₁:=T++[]))
def lK (nm:ByteArray) (ad:Int) (mk:Bool) (o:List eS×List Int) (ps an de hi:AV):List AV:=[wE nm,aF ad,d6 mk,.imm 3 (o.1.map dR),.imm 1 (aW o.2),ps,an,de,hi]
theorem zB (mark:Bool) (cl:Int) (m:MS) (k:Nat):(eY s mark cl k m).1.length≤k:=by
 refine (c7.runs (fun i (l:List dO)=>l.length≤i) k (Nat.le_refl _) fun i l _ h=>(c7.any _).bnd fun z _=>c7.ite (fun _=>(c7.any _).bnd fun x _=>(c7.any _).bnd fun y _=>c7.ret (by simp;omega)) fun _=>c7.ret (by omega)) m
theorem xf (r:Nat) (l:List dW) (m:MS) (k:Nat):(it s r l k m).1.length≤l.length+k:=by
 refine (c7.runs (fun i (q:List dW)=>q.length≤l.length+i) k (Nat.le_refl _) fun i q _ h=>(c7.any _).bnd fun z _=>c7.ite (fun _=>(c7.any _).bnd fun x _=>c7.ite (fun _=>c7.ret (by simp;omega)) fun _=>(c7.any _).bnd fun y _=>c7.ret (by simp;omega)) fun _=>c7.ret (by omega)) m
def kC (cl:Int):List (List AV):=(gw cl).map fun p=>[aF p.1,aF p.2]
abbrev Et (F:MF) (v:AV):MF:={ F with gl:=v }
include hs
set_option maxHeartbeats 16000000 in
theorem CV {kg:Option (Nat×Nat)} {gl rg fu:List (List AV)} (hF:F.gl= .vec kg 9 gl) (hrg:F.rg= .imm 1 rg) (hfu:F.fu= .imm 1 fu) (R fn n:Nat) (hR:rg.length=R) (hfn:fu.length=fn) (hg:gl.length≤1000) (hRl:R≤1000) (hfl:fn≤1000) (hn:n < 100) (b:Nat) (m:MS):AC Tryz.prog 91 [Eu b,aF n] ([eo b s F m]++(tok kg 76 9 gl.length++[])) fun _ L=>∃kg',L=[eo b s (Et F (.vec kg' 9 (gl++[bT (kO s R fn n m).1]))) (kO s R fn n m).2]++(tok kg' 76 9 (gl++[bT (kO s R fn n m).1]).length++[]):=by
 refine aN Tryz.func91 rfl Tryz.ntmps91 rfl fun B=>?_
 repeat' (first|refine L3 ?_|fail)
 refine bn 15 [(0,.v),(1,.v),(2,.v),(3,.v),(4,.v),(5,.v),(6,.v),(10,.v),(7,.e),(8,.v),(9,.v),(11,.e),(12,.v),(13,.v)] (some (14,.box _ 76)) ?_ ⟨_,rfl,rfl,fun _ _ _=>nk (eX a4 rfl) rfl⟩ rfl (by kernel_rfl) (by kernel_rfl) (by kernel_rfl) bI (by kernel_rfl) rfl
 repeat' (first|refine aB ?_|refine aX a4 ?_|(apply dz;refine eL ?_)|fail)
 refine Cw a4 ?_
 rw [vK n hn]
 repeat' (first|refine aB ?_|refine eD a4 ?_|fail)
 refine yB a4 ?_
 rw [yS n hn]
 repeat' (first|refine aB ?_|fail)
 refine Gy (hs:=Nat.le_of_ble_eq_true rfl) ?_
 rw [zP]
 repeat' (first|refine aB ?_|refine aX a4 ?_|fail)
 refine tS ?_
 have had:=cB s hs m.a (n:=19) (by omega)
 have had:0≤(dr s 19 m).1∧(dr s 19 m).1 < 19:=had
 generalize e1:dr s 19 m=ad at had ⊢
 repeat' (first|refine aB ?_|(apply dz;refine eL ?_)|fail)
 refine tS ?_
 generalize e2:dr s 4 ad.2=mk
 repeat' (first|refine aB ?_|refine aX a4 ?_|fail)
 refine yF [0,1,4,23] (fun _=>_) (fun _=>rfl) rfl fun _=>?_
 rename_i gb
 refine aP (aI (L':=[eo b s F mk.2,(gb,.box [.sc (.string ⟨#[]⟩),aF 0,d6 false,bX,bX,bX,bX,bX,bX] 76)]++(tok kg 76 9 gl.length++[])) IT) ?_
 repeat' (first|refine L3 ?_|refine KG a4 HY ?_|(apply aM;first|refine KH a4 0 KE ?_|refine KH a4 1 KE ?_|refine KH a4 2 KE ?_|refine KH a4 3 KE ?_|fail))
 refine tQ [0,1,4] ([eo b s F mk.2,(gb,.box [wE (cU n),aF (100+ad.1 * 50),d6 (decide (mk.1=0) && decide (n≠0)),bX,bX,.vec none 3 [],.vec none 4 [],.vec none 4 [],bX] 76)]++(tok kg 76 9 gl.length++[])) rfl (fun Q' K=>?_) ?_
 ·refine aw rfl (fun h=>?_) (fun h=>?_)
  ·have h:n=0:=by have:=Ky h;omega
   have hm:(decide (mk.1=0) && decide (n≠0))=false:=by simp [h]
   have hgn:cU n=DI:=if_pos h
   rw [hm,hgn] at K
   repeat' (first|refine L3 ?_|refine KG a4 HY ?_|(apply aM;first|refine KH a4 0 KE ?_|refine KH a4 1 KE ?_|refine KH a4 2 KE ?_|refine KH a4 3 KE ?_|fail))
   refine bj (bG 1 rfl fun σ vs h=>cI (k:=5) (c':= .vec none 3 []) (cI (k:=6) (c':= .vec none 4 []) (cI (k:=7) (c':= .vec none 4 []) h rfl fun v hv=>d5 4 hv) rfl fun v hv=>d5 4 hv) rfl fun v hv=>d5 3 hv) ?_
   exact K _ rfl
  ·have h:¬n=0:=by have:=Kx h;omega
   have hm:(decide (mk.1=0) && decide (n≠0))=decide (mk.1=0):=by simp [h]
   have hgn:cU n=jJ JY n:=if_neg h
   rw [hm,hgn] at K
   repeat' (first|refine L3 ?_|fail)
   refine bj (bG 1 rfl fun σ vs h=>cI (k:=5) (c':= .vec none 3 []) (cI (k:=6) (c':= .vec none 4 []) (cI (k:=7) (c':= .vec none 4 []) h rfl fun v hv=>d5 4 hv) rfl fun v hv=>d5 4 hv) rfl fun v hv=>d5 3 hv) ?_
   exact K _ rfl
 generalize hmk:(decide (mk.1=0) && decide (n≠0))=mb
 repeat' (first|refine L3 ?_|refine KG a4 HY ?_)
 refine vR (un s hs F) ?_
 have ho:=pD s mk.2
 generalize e3:kl s mk.2=o at ho ⊢
 obtain ⟨ko,hko,hoo⟩:=ho
 have hol:=hoo.len
 unfold IQ
 refine KG a4 HY ?_
 (apply aM;refine KH a4 1 KE ?_)
 refine a7 ?_
 refine a6 ?_
 refine a9 ?_
 refine tQ [0,4] ([eo b s F (jd s n o.2).2,(gb,.box (lK (cU n) (100+ad.1 * 50) mb o.1 (.imm 3 ((jd s n o.2).1.map eR)) (.vec none 4 []) (.vec none 4 []) bX) 76)]++(tok kg 76 9 gl.length++[])) rfl (fun Q' K=>?_) ?_
 ·repeat' (first|refine L3 ?_|refine KG a4 HY ?_)
  by_cases hn1:1 < n
  ·rw [decide_eq_true (show (1:Int) < (n:Int) by omega)]
   repeat' (first|refine KG a4 HY ?_|refine KR HY ?_)
   refine cL ?_
   generalize e4:dr s 4 o.2=z
   repeat' (first|refine L3 ?_|refine KG a4 HY ?_|refine KR HY ?_)
   refine aw rfl (fun h=>?_) (fun h=>?_)
   ·have h:=Ky h
    repeat' (first|fail)
    refine dC [.cell (gb,5,.vec none 3 [])] 11 [(0,.v),(1,.k),(2,.v),(6,.v),(3,.f),(4,.v),(5,.v),(7,.f),(8,.v),(9,.v),(10,.v)] none ?_ trivial rfl (by kernel_rfl) (by kernel_rfl) (by kernel_rfl) bI (by kernel_rfl) rfl
    repeat' (first|refine aB ?_|refine aX a4 ?_|fail)
    refine dY a4 0 rfl rfl rfl (bR 1 rfl rfl cj) (by first | trivial | rfl) ?_
    repeat' (first|refine aB ?_|refine aX a4 ?_|fail)
    refine eT (bR 1 rfl rfl cj) ?_
    have hx:=cB s hs z.2.a (n:=9) (by omega)
    have hx:0≤(dr s 9 z.2).1∧(dr s 9 z.2).1 < 9:=hx
    generalize e5:dr s 9 z.2=x at hx ⊢
    repeat' (first|refine aB ?_|(apply dz;refine eL ?_)|fail)
    refine eT (bR 1 rfl rfl cj) ?_
    have hy:=cB s hs x.2.a (n:=5) (by omega)
    have hy:0≤(dr s 5 x.2).1∧(dr s 5 x.2).1 < 5:=hy
    generalize e6:dr s 5 x.2=y at hy ⊢
    repeat' (first|refine aB ?_|refine aX a4 ?_|(apply dz;refine eL ?_)|refine eD a4 ?_|fail)
    refine KU [0,4,39,48] HY ?_
    repeat' (first|fail)
    refine bV a4 _ rfl rfl rfl rfl (Lz _) (by simp) (by simp) rfl fun q'=>?_
    refine aP (c6 (List.sublist_append_right _ _)) ?_
    repeat' (first|refine L3 ?_|refine KG a4 HY ?_|(apply aM;first|refine KH a4 0 KE ?_|refine KH a4 1 KE ?_|refine KH a4 2 KE ?_|refine KH a4 3 KE ?_|fail))
    have hv:jd s n o.2=([⟨1,x.1 * 50 - 200,y.1 * 50⟩],y.2):=by simp [jd,cn,ret,hn1,e4,e5,e6,h]
    rw [hv] at K
    refine bj (bG 1 rfl fun σ vs h=>cI (k:=5) (c':= .imm 3 ([(⟨1,x.1 * 50 - 200,y.1 * 50⟩:ec)].map eR)) h rfl fun v hv=>VR.im hv) ?_
    exact K _ rfl
   ·have h:=Kx h
    repeat' (first|refine L3 ?_|fail)
    have hv:jd s n o.2=([],z.2):=by simp [jd,cn,ret,hn1,e4,h]
    rw [hv] at K
    refine bj (bG 1 rfl fun σ vs h=>cI (k:=5) (c':= .imm 3 []) h rfl fun v hv=>VR.im hv) ?_
    exact K _ rfl
  ·rw [decide_eq_false (show ¬(1:Int) < (n:Int) by omega)]
   repeat' (first|refine L3 ?_|refine KG a4 HY ?_|refine KV KB ?_|refine bE rfl ?_)
   have hv:jd s n o.2=([],o.2):=by simp [jd,ret,hn1]
   rw [hv] at K
   refine bj (bG 1 rfl fun σ vs h=>cI (k:=5) (c':= .imm 3 []) h rfl fun v hv=>VR.im hv) ?_
   exact K _ rfl
 generalize e4:jd s n o.2=ps
 repeat' (first|refine L3 ?_|refine KG a4 HY ?_)
 refine cL ?_
 have hcl:=cB s hs ps.2.a (n:=2) (by omega)
 have hcl:0≤(dr s 2 ps.2).1∧(dr s 2 ps.2).1 < 2:=hcl
 generalize e5:dr s 2 ps.2=cl at hcl ⊢
 repeat' (first|refine L3 ?_|refine ak ?_|refine KG a4 HY ?_|refine bW a4 ?_|fail)
 refine aR [0,4,5] (α:=Nat×Option (Nat×Nat)) (fun x=>[(6,aF x.1),(5,.imm 2 (kC cl.1))]) (fun x=>x.1≤5) (fun x=>[eo b s F (eY s mb cl.1 x.1 cl.2).2,(gb,.box (lK (cU n) (100+ad.1 * 50) mb o.1 (.imm 3 (ps.1.map eR)) (.vec x.2 4 ((eY s mb cl.1 x.1 cl.2).1.map dt)) (.vec none 4 []) bX) 76)]++(tok x.2 113 4 ((eY s mb cl.1 x.1 cl.2).1.map dt).length++(tok kg 76 9 gl.length++[]))) (fun x=>5 - x.1) (0,none) rfl ⟨rfl,rfl,trivial⟩ (Nat.zero_le _) (fun _ _ h=>h) ?_
 rintro ⟨i,q⟩ hi
 dsimp only at hi ⊢
 have hal:=zB s mb cl.1 cl.2 i
 have hstep:eY s mb cl.1 (i+1) cl.2=(cn (dr s 3) fun z=>if z=0∧(((gw cl.1).getD i (0,0)).1≠2∨mb=true) then cn (dr s 21) fun x=>cn (dr s 21) fun y=>ret ((eY s mb cl.1 i cl.2).1++[(⟨((gw cl.1).getD i (0,0)).1,((gw cl.1).getD i (0,0)).2,x * 50,y * 50 - 200⟩:dO)]) else ret (eY s mb cl.1 i cl.2).1) (eY s mb cl.1 i cl.2).2:=rfl
 try dsimp only [Kr,Kq,Kp,Lv]
 repeat' (first|refine L3 ?_|refine KG a4 HY ?_)
 refine aw rfl (fun h=>?_) (fun h=>?_)
 ·have hil:i < 5:=by have:=Ky h;omega
  have hka:(kC cl.1)[i]?=some [aF ((gw cl.1).getD i (0,0)).1,aF ((gw cl.1).getD i (0,0)).2]:=by
   unfold kC
   rw [List.getElem?_map,uS hil]
   rfl
  generalize eY s mb cl.1 i cl.2=st at hal hstep ⊢
  have halm:(st.1.map dt).length=st.1.length:=Ku ..
  generalize (gw cl.1).getD i (0,0)=pr at hka hstep
  repeat' (first|refine L3 ?_|refine ak ?_|refine KG a4 HY ?_)
  refine cL ?_
  unfold cn at hstep
  generalize dr s 3 st.2=z at hstep ⊢
  dsimp only at hstep
  repeat' (first|refine KG a4 HY ?_)
  refine dG (t:=77) [0,4,5,6] (z.1=0∧(pr.1≠2∨mb=true)) rfl (fun Q' K=>?_) ?_
  ·by_cases hz:z.1=0
   ·rw [decide_eq_true hz]
    repeat' (first|refine KG a4 HY ?_|refine KR HY ?_|(apply aQ;first|refine aO a4 ?_|refine aG a4 ?_)|fail)
    refine IM a4 0 ?_
    repeat' (first|refine KG a4 HY ?_|refine KR HY ?_)
    by_cases h2:pr.1≠2
    ·rw [decide_eq_true h2]
     repeat' (first|refine L3 ?_|refine KG a4 HY ?_|refine KR HY ?_|refine KV KB ?_)
     exact K _ _ rfl rfl (by simp [hz,h2])
    ·rw [decide_eq_false h2]
     repeat' (first|refine L3 ?_|refine KG a4 HY ?_|refine KR HY ?_|(apply bo;first|refine KM a4 0 KC ?_|refine KM a4 1 KC ?_|refine KM a4 2 KC ?_|refine KM a4 3 KC ?_|refine KN a4 0 KC ?_|refine KN a4 1 KC ?_|refine KN a4 2 KC ?_|refine KO a4 1 KA (by assumption) rfl ?_|refine KO a4 0 KA (by assumption) rfl ?_|fail)|fail)
     exact K _ _ rfl rfl (by simp only [ne_eq,Decidable.not_not] at h2;simp [hz,h2])
   ·rw [decide_eq_false hz]
    repeat' (first|refine L3 ?_|refine KG a4 HY ?_|refine KV KB ?_|refine dg rfl rfl rfl ?_)
    exact K _ _ rfl rfl (by simp [hz])
  repeat' (first|refine L3 ?_|fail)
  refine aw rfl (fun h=>?_) (fun h=>?_)
  ·have h:=Ky h
   rw [if_pos h] at hstep
   repeat' (first|fail)
   refine dC [.cell (gb,6,.vec q 4 (st.1.map dt))] 21 [(0,.v),(1,.k),(2,.v),(3,.v),(4,.v),(5,.v),(6,.v),(7,.v),(8,.v),(9,.v),(10,.v),(11,.v),(12,.v),(15,.v),(13,.f),(14,.v),(16,.f),(17,.v),(18,.v),(19,.v),(20,.v)] none ?_ trivial rfl (by kernel_rfl) (by kernel_rfl) (by kernel_rfl) bI (by kernel_rfl) rfl
   repeat' (first|refine aB ?_|refine aX a4 ?_|fail)
   refine dY a4 0 rfl rfl rfl (bR 1 rfl rfl cj) (by first | trivial | rfl) ?_
   repeat' (first|refine aB ?_|refine aX a4 ?_|(apply cm;refine cA a4 ?_)|fail)
   refine Gx a4 0 ?_
   repeat' (first|refine aB ?_|refine aX a4 ?_|(apply cm;refine cA a4 ?_)|fail)
   refine Gx a4 1 ?_
   repeat' (first|refine aB ?_|refine aX a4 ?_|fail)
   refine eT (bR 1 rfl rfl cj) ?_
   have hx:=cB s hs z.2.a (n:=21) (by omega)
   have hx:0≤(dr s 21 z.2).1∧(dr s 21 z.2).1 < 21:=hx
   generalize dr s 21 z.2=x at hx hstep ⊢
   try dsimp only at hstep
   repeat' (first|refine aB ?_|(apply dz;refine eL ?_)|fail)
   refine eT (bR 1 rfl rfl cj) ?_
   have hy:=cB s hs x.2.a (n:=21) (by omega)
   have hy:0≤(dr s 21 x.2).1∧(dr s 21 x.2).1 < 21:=hy
   generalize dr s 21 x.2=y at hy hstep ⊢
   try dsimp only [ret] at hstep
   repeat' (first|refine aB ?_|refine aX a4 ?_|(apply dz;refine eL ?_)|refine eD a4 ?_|fail)
   refine KU [0,4,5,6,79,98] HY ?_
   repeat' (first|fail)
   refine bV a4 _ rfl rfl rfl rfl (eV (A:=[_,_])) (by simp;omega) (by simp;omega) rfl fun q'=>?_
   refine aP (aI (eV (A:=[_,_])).symm) ?_
   repeat' (first|refine L3 ?_|refine KG a4 HY ?_|(apply aU;refine aT ?_)|(apply aM;first|refine KH a4 0 KE ?_|refine KH a4 1 KE ?_|refine KH a4 2 KE ?_|refine KH a4 3 KE ?_|fail))
   exact aD (i+1,q') rfl ⟨by rw [Kv];rfl,rfl,trivial⟩ (by dsimp only;omega) (by dsimp only;omega) (fun _ _ h=>by dsimp only;rw [hstep];dsimp only;rw [List.map_append];exact h)
  ·have h:=Kx h
   rw [if_neg h] at hstep
   dsimp only [ret] at hstep
   repeat' (first|refine L3 ?_|refine KG a4 HY ?_|(apply aU;refine aT ?_)|fail)
   exact aD (i+1,q) rfl ⟨by rw [Kv];rfl,rfl,trivial⟩ (by dsimp only;omega) (by dsimp only;omega) (fun _ _ h=>by dsimp only;rw [hstep];exact h)
 have hil:i=5:=by have:=Kx h;omega
 subst hil
 clear hstep hal
 generalize e6:eY s mb cl.1 5 cl.2=an
 refine c8 (bG 1 rfl fun σ vs h=>cI (k:=6) (c':= .imm 4 (an.1.map dt)) h rfl fun v hv=>VR.im hv) ?_
 refine c8 (c6 (L':=[eo b s F an.2,(gb,.box (lK (cU n) (100+ad.1 * 50) mb o.1 (.imm 3 (ps.1.map eR)) (.imm 4 (an.1.map dt)) (.vec none 4 []) bX) 76)]++(tok kg 76 9 gl.length++[])) (List.Sublist.cons_cons _ (List.Sublist.cons_cons _ (List.sublist_append_right _ _)))) ?_
 have hpl:(o.1.1.map dR).length=o.1.1.length:=Ku ..
 repeat' (first|refine L3 ?_|refine ak ?_|refine KG a4 HY ?_)
 refine aR [0,4] (α:=Nat×Option (Nat×Nat)) (fun x=>[(7,aF x.1)]) (fun x=>x.1≤R) (fun x=>[eo b s F (gy s o.1.1.length x.1 an.2).2,(gb,.box (lK (cU n) (100+ad.1 * 50) mb o.1 (.imm 3 (ps.1.map eR)) (.imm 4 (an.1.map dt)) (.vec x.2 4 ((gy s o.1.1.length x.1 an.2).1.map ev)) bX) 76)]++(tok x.2 115 4 ((gy s o.1.1.length x.1 an.2).1.map ev).length++(tok kg 76 9 gl.length++[]))) (fun x=>R - x.1) (0,none) rfl ⟨rfl,trivial⟩ (Nat.zero_le _) (fun _ _ h=>h) ?_
 rintro ⟨r,q⟩ hr
 dsimp only at hr ⊢
 have hdl:=(qV s o.1.1.length r an.2).len
 have hdl:(gy s o.1.1.length r an.2).1.length≤11000:=Nat.le_trans hdl (Nat.le_trans (Nat.mul_le_mul (show r≤1000 by omega) (show o.1.1.length+1≤11 by omega)) (by omega))
 have hstep:gy s o.1.1.length (r+1) an.2=it s r (gy s o.1.1.length r an.2).1 (o.1.1.length+1) (gy s o.1.1.length r an.2).2:=rfl
 try dsimp only [Kr,Kq,Kp,Lv]
 repeat' (first|refine L3 ?_|refine KG a4 HY ?_|(apply bo;first|refine KM a4 0 KC ?_|refine KM a4 1 KC ?_|refine KM a4 2 KC ?_|refine KM a4 3 KC ?_|refine KN a4 0 KC ?_|refine KN a4 1 KC ?_|refine KN a4 2 KC ?_|refine KO a4 1 KA (by assumption) rfl ?_|refine KO a4 0 KA (by assumption) rfl ?_|fail)|fail)
 rw [hrg]
 repeat' (first|refine L3 ?_|refine KG a4 HY ?_)
 rw [hR]
 refine aw rfl (fun h=>?_) (fun h=>?_)
 ·have hrl:r < R:=by have:=Ky h;omega
  generalize gy s o.1.1.length r an.2=D at hdl hstep ⊢
  repeat' (first|refine L3 ?_|refine ak ?_|refine KG a4 HY ?_)
  refine aR [0,4,7] (α:=Nat×Option (Nat×Nat)) (fun x=>[(8,aF ((x.1:Int) - 1))]) (fun x=>x.1≤o.1.1.length+1) (fun x=>[eo b s F (it s r D.1 x.1 D.2).2,(gb,.box (lK (cU n) (100+ad.1 * 50) mb o.1 (.imm 3 (ps.1.map eR)) (.imm 4 (an.1.map dt)) (.vec x.2 4 ((it s r D.1 x.1 D.2).1.map ev)) bX) 76)]++(tok x.2 115 4 ((it s r D.1 x.1 D.2).1.map ev).length++(tok kg 76 9 gl.length++[]))) (fun x=>o.1.1.length+1 - x.1) (0,q) rfl ⟨rfl,trivial⟩ (Nat.zero_le _) (fun _ _ h=>h) ?_
  rintro ⟨p,q⟩ hp
  dsimp only at hp ⊢
  have hel:=xf s r D.1 D.2 p
  have hst2:it s r D.1 (p+1) D.2=(cn (dr s 3) fun z=>if z=0 then cn (dr s 41) fun x=>if p=0 then ret ((it s r D.1 p D.2).1++[(⟨r,-1,x - 20,0⟩:dW)]) else cn (dr s 41) fun y=>ret ((it s r D.1 p D.2).1++[(⟨r,(p:Int) - 1,x - 20,y - 20⟩:dW)]) else ret (it s r D.1 p D.2).1) (it s r D.1 p D.2).2:=rfl
  try dsimp only [Kr,Kq,Kp,Lv]
  repeat' (first|refine L3 ?_|refine KG a4 HY ?_|(apply bo;first|refine KM a4 0 KC ?_|refine KM a4 1 KC ?_|refine KM a4 2 KC ?_|refine KM a4 3 KC ?_|refine KN a4 0 KC ?_|refine KN a4 1 KC ?_|refine KN a4 2 KC ?_|refine KO a4 1 KA (by assumption) rfl ?_|refine KO a4 0 KA (by assumption) rfl ?_|fail)|fail)
  refine aw rfl (fun h=>?_) (fun h=>?_)
  ·have hpp:p < o.1.1.length+1:=by have:=Ky h;rw [hpl] at this;omega
   generalize it s r D.1 p D.2=E at hel hst2 ⊢
   have hElm:(E.1.map ev).length=E.1.length:=Ku ..
   repeat' (first|refine L3 ?_|refine ak ?_|refine KG a4 HY ?_)
   refine cL ?_
   unfold cn at hst2
   generalize dr s 3 E.2=z at hst2 ⊢
   dsimp only at hst2
   repeat' (first|refine L3 ?_|refine KG a4 HY ?_)
   refine aw rfl (fun hz=>?_) (fun hz=>?_)
   ·rw [if_pos (Ky hz)] at hst2
    repeat' (first|refine L3 ?_|refine KG a4 HY ?_)
    refine cL ?_
    have hx:=cB s hs z.2.a (n:=41) (by omega)
    have hx:0≤(dr s 41 z.2).1∧(dr s 41 z.2).1 < 41:=hx
    generalize dr s 41 z.2=x at hx hst2 ⊢
    try dsimp only at hst2
    repeat' (first|refine L3 ?_|refine KG a4 HY ?_|(apply aU;refine aT ?_)|(apply aM;first|refine KH a4 0 KE ?_|refine KH a4 1 KE ?_|refine KH a4 2 KE ?_|refine KH a4 3 KE ?_|fail)|refine bq a4 fun _=>?_|fail)
    refine c8 (aI (List.perm_middle (l₁:=[_,_])).symm) ?_
    refine aw rfl (fun h0=>?_) (fun h0=>?_)
    ·have h0:¬p=0:=by have:=Ky h0;omega
     rw [if_neg h0] at hst2
     repeat' (first|refine L3 ?_|refine KG a4 HY ?_)
     refine cL ?_
     have hy:=cB s hs x.2.a (n:=41) (by omega)
     have hy:0≤(dr s 41 x.2).1∧(dr s 41 x.2).1 < 41:=hy
     generalize dr s 41 x.2=y at hy hst2 ⊢
     try dsimp only [ret] at hst2
     repeat' (first|refine L3 ?_|refine KG a4 HY ?_|(apply bo;first|refine KM a4 0 KC ?_|refine KM a4 1 KC ?_|refine KM a4 2 KC ?_|refine KM a4 3 KC ?_|refine KN a4 0 KC ?_|refine KN a4 1 KC ?_|refine KN a4 2 KC ?_|refine KO a4 1 KA (by assumption) rfl ?_|refine KO a4 0 KA (by assumption) rfl ?_|fail)|(apply aU;refine aT ?_)|(apply aM;first|refine KH a4 0 KE ?_|refine KH a4 1 KE ?_|refine KH a4 2 KE ?_|refine KH a4 3 KE ?_|fail)|refine bW a4 ?_|fail)
     refine bV a4 _ rfl rfl rfl rfl (eV (A:=[_,_,_])) (by simp;omega) (by simp;omega) rfl fun q'=>?_
     refine aP (aI (eV (A:=[_,_,_])).symm) ?_
     repeat' (first|refine L3 ?_|refine KG a4 HY ?_|(apply aU;refine aT ?_)|(apply aM;first|refine KH a4 0 KE ?_|refine KH a4 1 KE ?_|refine KH a4 2 KE ?_|refine KH a4 3 KE ?_|fail))
     exact aD (p+1,q') rfl ⟨by dsimp only;rw [show ((p+1:Nat):Int) - 1=(p:Int) - 1+1 by omega];rfl,trivial⟩ (by dsimp only;omega) (by dsimp only;omega) (fun _ _ h=>by dsimp only;rw [hst2];dsimp only;rw [List.map_append];exact h.sublist (List.Sublist.cons_cons _ (List.Sublist.cons_cons _ (List.sublist_cons_self ..))))
    ·have h0:p=0:=by have:=Kx h0;omega
     rw [if_pos h0] at hst2
     try dsimp only [ret] at hst2
     repeat' (first|refine L3 ?_|refine KG a4 HY ?_|(apply bo;first|refine KM a4 0 KC ?_|refine KM a4 1 KC ?_|refine KM a4 2 KC ?_|refine KM a4 3 KC ?_|refine KN a4 0 KC ?_|refine KN a4 1 KC ?_|refine KN a4 2 KC ?_|refine KO a4 1 KA (by assumption) rfl ?_|refine KO a4 0 KA (by assumption) rfl ?_|fail)|refine bW a4 ?_|fail)
     refine bV a4 _ rfl rfl rfl rfl (eV (A:=[_,_,_])) (by simp;omega) (by simp;omega) rfl fun q'=>?_
     refine aP (aI (eV (A:=[_,_,_])).symm) ?_
     repeat' (first|refine L3 ?_|refine KG a4 HY ?_|(apply aU;refine aT ?_)|(apply aM;first|refine KH a4 0 KE ?_|refine KH a4 1 KE ?_|refine KH a4 2 KE ?_|refine KH a4 3 KE ?_|fail))
     subst h0
     exact aD (0+1,q') rfl ⟨rfl,trivial⟩ (by dsimp only;omega) (by dsimp only;omega) (fun _ _ h=>by dsimp only;rw [hst2];dsimp only;rw [List.map_append];exact h.sublist (List.Sublist.cons_cons _ (List.Sublist.cons_cons _ (List.sublist_cons_self ..))))
   ·rw [if_neg (Kx hz)] at hst2
    try dsimp only [ret] at hst2
    repeat' (first|refine L3 ?_|refine KG a4 HY ?_|(apply aU;refine aT ?_)|fail)
    exact aD (p+1,q) rfl ⟨by dsimp only;rw [show ((p+1:Nat):Int) - 1=(p:Int) - 1+1 by omega];rfl,trivial⟩ (by dsimp only;omega) (by dsimp only;omega) (fun _ _ h=>by dsimp only;rw [hst2];exact h)
  have hpp:p=o.1.1.length+1:=by have:=Kx h;rw [hpl] at this;omega
  subst hpp
  repeat' (first|refine L3 ?_|refine KG a4 HY ?_|(apply aU;refine aT ?_)|fail)
  exact aD (r+1,q) rfl ⟨by rw [Kv];rfl,trivial⟩ (by dsimp only;omega) (by dsimp only;omega) (fun _ _ h=>by dsimp only;rw [hstep];exact h)
 have hrl:r=R:=by have:=Kx h;omega
 subst hrl
 clear hstep hdl
 generalize e7:gy s o.1.1.length r an.2=de
 repeat' (first|refine L3 ?_|refine KG a4 HY ?_|(apply aM;first|refine KH a4 0 KE ?_|refine KH a4 1 KE ?_|refine KH a4 2 KE ?_|refine KH a4 3 KE ?_|fail))
 refine c8 (aI (L':=[eo b s F (ie 2 de.2).2,(gb,.box (lK (cU n) (100+ad.1 * 50) mb o.1 (.imm 3 (ps.1.map eR)) (.imm 4 (an.1.map dt)) (.vec q 4 (de.1.map ev)) bX) 76)]++(tok q 115 4 (de.1.map ev).length++(tok kg 76 9 gl.length++[]))) (Lz _)) ?_
 refine c8 (bG 1 rfl fun σ vs h=>cI (k:=7) (c':= .imm 4 (de.1.map ev)) h rfl fun v hv=>VR.im hv) ?_
 refine c8 (c6 (L':=[eo b s F (ie 2 de.2).2,(gb,.box (lK (cU n) (100+ad.1 * 50) mb o.1 (.imm 3 (ps.1.map eR)) (.imm 4 (an.1.map dt)) (.imm 4 (de.1.map ev)) bX) 76)]++(tok kg 76 9 gl.length++[])) (List.Sublist.cons_cons _ (List.Sublist.cons_cons _ (List.sublist_append_right _ _)))) ?_
 generalize e8:(ie 2 de.2).2=w
 refine bn 11 [(0,.v),(1,.v),(2,.v),(3,.l),(4,.v),(5,.v),(6,.v),(7,.v),(8,.v),(9,.l),(10,.v)] none ?_ trivial rfl (by kernel_rfl) (by kernel_rfl) (by kernel_rfl) bI (by kernel_rfl) rfl
 repeat' (first|refine aB ?_|refine aX a4 ?_|refine KY a4 0 KB (by first|trivial|rfl) ?_|refine KY a4 1 KB (by first|trivial|rfl) ?_)
 rw [hfu]
 repeat' (first|refine aX a4 ?_|fail)
 rw [hfn,hpl]
 refine KU [0,4,143,147,153] HY ?_
 refine vR (t5 s hs F (n:=o.1.1.length) (fn:=fn) (most:=6) (by omega) (by omega) (by omega)) ?_
 generalize e9:nH s o.1.1.length fn 6 w=hi
 unfold k6
 repeat' (first|refine L3 ?_|refine KG a4 HY ?_|(apply aM;first|refine KH a4 0 KE ?_|refine KH a4 1 KE ?_|refine KH a4 2 KE ?_|refine KH a4 3 KE ?_|fail))
 refine c8 (aI (L':=[eo b s F hi.2,(gb,.box (lK (cU n) (100+ad.1 * 50) mb o.1 (.imm 3 (ps.1.map eR)) (.imm 4 (an.1.map dt)) (.imm 4 (de.1.map ev)) (.imm 2 (hi.1.map fc))) 76)]++(tok kg 76 9 gl.length++[])) (Lz _)) ?_
 refine bn 9 [(0,.v),(1,.v),(2,.v),(3,.v),(4,.v),(5,.l),(6,.l),(7,.v),(8,.e)] none ?_ trivial rfl (by kernel_rfl) (by kernel_rfl) (by kernel_rfl) bI (by kernel_rfl) rfl
 repeat' (first|refine aB ?_|refine aX a4 ?_|refine eD a4 ?_|refine KY a4 0 KB (by first|trivial|rfl) ?_|refine qc a4 1 rfl rfl rfl rfl (by first|trivial|rfl) ?_)
 rw [hF]
 refine fx a4 _ rfl rfl rfl rfl (eV (A:=[_,_])) (by simp;omega) (by simp;omega) (by first | trivial | rfl) fun q'=>?_
 refine KU [156,164] HY ?_
 refine aP (aI (eV (A:=[_,_])).symm) ?_
 repeat' (first|refine L3 ?_|refine KG a4 HY ?_|(apply aM;first|refine KH a4 0 KE ?_|refine KH a4 1 KE ?_|refine KH a4 2 KE ?_|refine KH a4 3 KE ?_|fail))
 have hv:kO s r fn n m=(⟨cU n,100+ad.1 * 50,mb,o.1.1,o.1.2,ps.1,an.1,de.1,hi.1⟩,hi.2):=by
  unfold kO cn
  rw [e1]
  try dsimp only
  rw [e2]
  try dsimp only
  rw [e3]
  try dsimp only
  rw [e4]
  try dsimp only
  rw [e5,hmk]
  try dsimp only
  rw [e6]
  try dsimp only
  rw [e7]
  try dsimp only
  rw [e8,e9]
  rfl
 rw [hv]
 exact bj (c6 (L':=[eo b s (Et F (.vec q' 9 (gl++[bT ⟨cU n,100+ad.1 * 50,mb,o.1.1,o.1.2,ps.1,an.1,de.1,hi.1⟩]))) hi.2]++(tok q' 76 9 (gl++[bT ⟨cU n,100+ad.1 * 50,mb,o.1.1,o.1.2,ps.1,an.1,de.1,hi.1⟩]).length++[])) (List.Sublist.cons_cons _ (List.sublist_cons_self ..))) (ca rfl ⟨q',rfl⟩)
end Go.Proofs.YtpmdfoaadejmkaaGreatDoor
