/-
  The maker: glyphs.
-/
import Derived.Test.YtjjpkibjffmceaaGreatM28
import Derived.Test.YtjjpkibjffmceaaGreatM25
namespace Go.Proofs.YtjjpkibjffmceaaGreat
open Go.RowKit
attribute [local irreducible] AT bW AX AO Av Kt bA eI DA dl
variable (s:List Int) (hs:s.length≤1000000) (F:MF)
theorem xS (a c:UInt8):(⟨#[a]⟩:ByteArray)++(⟨#[c]⟩:ByteArray)=bytes [a,c]:=by
 apply ByteArray.ext
 simp [bytes]
theorem xT (a b c:UInt8):(⟨#[a,b]⟩:ByteArray)++(⟨#[c]⟩:ByteArray)=bytes [a,b,c]:=by
 apply ByteArray.ext
 simp [bytes]
theorem GU {z:Int} (h:0≤z∧z < 256):IntKind.wrap .u8 z=z:=by
 unfold IntKind.wrap
 simp [IntKind.signed,IntKind.bits]
 try omega
theorem uw (n:Nat) (h:n < 100):IntKind.wrap .u8 (97+(n:Int))=97+(n:Int):=GU (by omega)
theorem xb (n:Nat) (h:n < 100):UInt8.ofNat (97+(n:Int)).toNat=(97+n).toUInt8:=by
 rw [show ((97+(n:Int))).toNat=97+n by omega]
theorem GF {a c:Nat×AB} {T:AL}:(a::(T++[])++[c]).Perm ([a,c]++(T++[])):=List.Perm.cons a (List.perm_append_comm (l₁:=T++[]))
def kW (nm:ByteArray) (ad:Int) (mk:Bool) (o:List eP×List Int) (ps an de hi:AV):List AV:=[gO nm,aP ad,cx mk,.imm 3 (o.1.map cM),.imm 1 (aZ o.2),ps,an,de,hi]
theorem xM (mark:Bool) (cl:Int) (m:MS) (k:Nat):(fj s mark cl k m).1.length≤k:=by
 refine (bZ.runs (fun i (l:List dT)=>l.length≤i) k (Nat.le_refl _) fun i l _ h=>(bZ.any _).bnd fun z _=>bZ.ite (fun _=>(bZ.any _).bnd fun x _=>(bZ.any _).bnd fun y _=>bZ.ret (by simp;omega)) fun _=>bZ.ret (by omega)) m
theorem vO (r:Nat) (l:List eb) (m:MS) (k:Nat):(it s r l k m).1.length≤l.length+k:=by
 refine (bZ.runs (fun i (q:List eb)=>q.length≤l.length+i) k (Nat.le_refl _) fun i q _ h=>(bZ.any _).bnd fun z _=>bZ.ite (fun _=>(bZ.any _).bnd fun x _=>bZ.ite (fun _=>bZ.ret (by simp;omega)) fun _=>(bZ.any _).bnd fun y _=>bZ.ret (by simp;omega)) fun _=>bZ.ret (by omega)) m
def kC (cl:Int):List (List AV):=(fy cl).map fun p=>[aP p.1,aP p.2]
abbrev Cv (F:MF) (v:AV):MF:={ F with gl:=v }
include hs
set_option maxHeartbeats 16000000 in
theorem B9 {kg:Option (Nat×Nat)} {gl rg fu:List (List AV)} (hF:F.gl= .vec kg 9 gl) (hrg:F.rg= .imm 1 rg) (hfu:F.fu= .imm 1 fu) (R fn n:Nat) (hR:rg.length=R) (hfn:fu.length=fn) (hg:gl.length≤1000) (hRl:R≤1000) (hfl:fn≤1000) (hn:n < 100) (b:Nat) (m:MS):AC Tryz.prog 65 [g9 b,aP n] ([eF b s F m]++(tok kg 63 9 gl.length++[])) fun _ L=>∃kg',L=[eF b s (Cv F (.vec kg' 9 (gl++[bC (km s R fn n m).1]))) (km s R fn n m).2]++(tok kg' 63 9 (gl++[bC (km s R fn n m).1]).length++[]):=by
 refine aS Tryz.func65 rfl Tryz.ntmps65 rfl fun B=>?_
 repeat' (first|refine go ?_|fail)
 refine bn 15 [(0,.v),(1,.v),(2,.v),(3,.v),(4,.v),(5,.v),(6,.v),(10,.v),(7,.e),(8,.v),(9,.v),(11,.e),(12,.v),(13,.v)] (some (14,.box _ 63)) ?_ ⟨_,rfl,rfl,fun _ _ _=>gA (f5 a6 rfl) rfl⟩ rfl (by kernel_rfl) (by kernel_rfl) (by kernel_rfl) mixed (by kernel_rfl) rfl
 repeat' (first|refine aC ?_|refine b7 a6 ?_|(apply fq;refine gK ?_)|fail)
 refine AH a6 ?_
 rw [uw n hn]
 repeat' (first|refine aC ?_|refine eS a6 ?_|fail)
 refine wX a6 ?_
 rw [xb n hn]
 repeat' (first|refine aC ?_|fail)
 refine dy (hs:=Nat.le_of_ble_eq_true rfl) ?_
 rw [xS]
 repeat' (first|refine aC ?_|refine b7 a6 ?_|fail)
 refine sG ?_
 have had:=cB s hs m.a (n:=19) (by omega)
 have had:0≤(dr s 19 m).1∧(dr s 19 m).1 < 19:=had
 generalize e1:dr s 19 m=ad at had ⊢
 repeat' (first|refine aC ?_|(apply fq;refine gK ?_)|fail)
 refine sG ?_
 generalize e2:dr s 4 ad.2=mk
 repeat' (first|refine aC ?_|refine b7 a6 ?_|fail)
 refine je [0,1,4,23] (fun _=>_) (fun _=>rfl) rfl fun _=>?_
 rename_i gb
 refine aO (aK (L':=[eF b s F mk.2,(gb,.box [.sc (.string ⟨#[]⟩),aP 0,cx false,bQ,bQ,bQ,bQ,bQ,bQ] 63)]++(tok kg 63 9 gl.length++[])) GF) ?_
 repeat' (first|refine go ?_|refine HK a6 FS ?_|(apply aG;first|refine HM a6 0 HH ?_|refine HM a6 1 HH ?_|refine HM a6 2 HH ?_|refine HM a6 3 HH ?_|fail))
 refine sy [0,1,4] ([eF b s F mk.2,(gb,.box [gO (cT n),aP (100+ad.1 * 50),cx (decide (mk.1=0) && decide (n≠0)),bQ,bQ,.vec none 3 [],.vec none 4 [],.vec none 4 [],bQ] 63)]++(tok kg 63 9 gl.length++[])) rfl (fun Q' K=>?_) ?_
 ·refine ay rfl (fun h=>?_) (fun h=>?_)
  ·have h:n=0:=by have:=Iy h;omega
   have hm:(decide (mk.1=0) && decide (n≠0))=false:=by simp [h]
   have hgn:cT n=BP:=if_pos h
   rw [hm,hgn] at K
   repeat' (first|refine go ?_|refine HK a6 FS ?_|(apply aG;first|refine HM a6 0 HH ?_|refine HM a6 1 HH ?_|refine HM a6 2 HH ?_|refine HM a6 3 HH ?_|fail))
   refine bc (bD 1 rfl fun σ vs h=>cC (k:=5) (c':= .vec none 3 []) (cC (k:=6) (c':= .vec none 4 []) (cC (k:=7) (c':= .vec none 4 []) h rfl fun v hv=>cq 4 hv) rfl fun v hv=>cq 4 hv) rfl fun v hv=>cq 3 hv) ?_
   exact K _ rfl
  ·have h:¬n=0:=by have:=Ix h;omega
   have hm:(decide (mk.1=0) && decide (n≠0))=decide (mk.1=0):=by simp [h]
   have hgn:cT n=iV Hq n:=if_neg h
   rw [hm,hgn] at K
   repeat' (first|refine go ?_|fail)
   refine bc (bD 1 rfl fun σ vs h=>cC (k:=5) (c':= .vec none 3 []) (cC (k:=6) (c':= .vec none 4 []) (cC (k:=7) (c':= .vec none 4 []) h rfl fun v hv=>cq 4 hv) rfl fun v hv=>cq 4 hv) rfl fun v hv=>cq 3 hv) ?_
   exact K _ rfl
 generalize hmk:(decide (mk.1=0) && decide (n≠0))=mb
 repeat' (first|refine go ?_|refine HK a6 FS ?_)
 refine uC (te s hs F) ?_
 have ho:=oV s mk.2
 generalize e3:jJ s mk.2=o at ho ⊢
 obtain ⟨ko,hko,hoo⟩:=ho
 have hol:=hoo.len
 unfold GD
 refine HK a6 FS ?_
 (apply aG;refine HM a6 1 HH ?_)
 refine aa ?_
 refine a8 ?_
 refine ah ?_
 refine sy [0,4] ([eF b s F (j4 s n o.2).2,(gb,.box (kW (cT n) (100+ad.1 * 50) mb o.1 (.imm 3 ((j4 s n o.2).1.map cm)) (.vec none 4 []) (.vec none 4 []) bQ) 63)]++(tok kg 63 9 gl.length++[])) rfl (fun Q' K=>?_) ?_
 ·repeat' (first|refine go ?_|refine HK a6 FS ?_)
  by_cases hn1:1 < n
  ·rw [decide_eq_true (show (1:Int) < (n:Int) by omega)]
   repeat' (first|refine HK a6 FS ?_|refine HV FS ?_)
   refine cS ?_
   generalize e4:dr s 4 o.2=z
   repeat' (first|refine go ?_|refine HK a6 FS ?_|refine HV FS ?_)
   refine ay rfl (fun h=>?_) (fun h=>?_)
   ·have h:=Iy h
    repeat' (first|fail)
    refine dz [.cell (gb,5,.vec none 3 [])] 11 [(0,.v),(1,.k),(2,.v),(6,.v),(3,.f),(4,.v),(5,.v),(7,.f),(8,.v),(9,.v),(10,.v)] none ?_ trivial rfl (by kernel_rfl) (by kernel_rfl) (by kernel_rfl) mixed (by kernel_rfl) rfl
    repeat' (first|refine aC ?_|refine b7 a6 ?_|fail)
    refine eT a6 0 rfl rfl rfl (bU 1 rfl rfl cg) (by first | trivial | rfl) ?_
    repeat' (first|refine aC ?_|refine b7 a6 ?_|fail)
    refine ff (bU 1 rfl rfl cg) ?_
    have hx:=cB s hs z.2.a (n:=9) (by omega)
    have hx:0≤(dr s 9 z.2).1∧(dr s 9 z.2).1 < 9:=hx
    generalize e5:dr s 9 z.2=x at hx ⊢
    repeat' (first|refine aC ?_|(apply fq;refine gK ?_)|fail)
    refine ff (bU 1 rfl rfl cg) ?_
    have hy:=cB s hs x.2.a (n:=5) (by omega)
    have hy:0≤(dr s 5 x.2).1∧(dr s 5 x.2).1 < 5:=hy
    generalize e6:dr s 5 x.2=y at hy ⊢
    repeat' (first|refine aC ?_|refine b7 a6 ?_|(apply fq;refine gK ?_)|refine eS a6 ?_|fail)
    refine HU [0,4,39,48] FS ?_
    repeat' (first|fail)
    refine bB a6 _ rfl rfl rfl rfl (Im _) (by simp) (by simp) rfl fun q'=>?_
    refine aO (ck (List.sublist_append_right _ _)) ?_
    repeat' (first|refine go ?_|refine HK a6 FS ?_|(apply aG;first|refine HM a6 0 HH ?_|refine HM a6 1 HH ?_|refine HM a6 2 HH ?_|refine HM a6 3 HH ?_|fail))
    have hv:j4 s n o.2=([⟨1,x.1 * 50 - 200,y.1 * 50⟩],y.2):=by simp [j4,co,cQ,hn1,e4,e5,e6,h]
    rw [hv] at K
    refine bc (bD 1 rfl fun σ vs h=>cC (k:=5) (c':= .imm 3 ([(⟨1,x.1 * 50 - 200,y.1 * 50⟩:cP)].map cm)) h rfl fun v hv=>VR.im hv) ?_
    exact K _ rfl
   ·have h:=Ix h
    repeat' (first|refine go ?_|fail)
    have hv:j4 s n o.2=([],z.2):=by simp [j4,co,cQ,hn1,e4,h]
    rw [hv] at K
    refine bc (bD 1 rfl fun σ vs h=>cC (k:=5) (c':= .imm 3 []) h rfl fun v hv=>VR.im hv) ?_
    exact K _ rfl
  ·rw [decide_eq_false (show ¬(1:Int) < (n:Int) by omega)]
   repeat' (first|refine go ?_|refine HK a6 FS ?_|refine HW HF ?_|refine bF rfl ?_)
   have hv:j4 s n o.2=([],o.2):=by simp [j4,cQ,hn1]
   rw [hv] at K
   refine bc (bD 1 rfl fun σ vs h=>cC (k:=5) (c':= .imm 3 []) h rfl fun v hv=>VR.im hv) ?_
   exact K _ rfl
 generalize e4:j4 s n o.2=ps
 repeat' (first|refine go ?_|refine HK a6 FS ?_)
 refine cS ?_
 have hcl:=cB s hs ps.2.a (n:=2) (by omega)
 have hcl:0≤(dr s 2 ps.2).1∧(dr s 2 ps.2).1 < 2:=hcl
 generalize e5:dr s 2 ps.2=cl at hcl ⊢
 repeat' (first|refine go ?_|refine ak ?_|refine HK a6 FS ?_|refine bG a6 ?_|fail)
 refine aJ [0,4,5] (α:=Nat×Option (Nat×Nat)) (fun x=>[(6,aP x.1),(5,.imm 2 (kC cl.1))]) (fun x=>x.1≤5) (fun x=>[eF b s F (fj s mb cl.1 x.1 cl.2).2,(gb,.box (kW (cT n) (100+ad.1 * 50) mb o.1 (.imm 3 (ps.1.map cm)) (.vec x.2 4 ((fj s mb cl.1 x.1 cl.2).1.map cF)) (.vec none 4 []) bQ) 63)]++(tok x.2 87 4 ((fj s mb cl.1 x.1 cl.2).1.map cF).length++(tok kg 63 9 gl.length++[]))) (fun x=>5 - x.1) (0,none) rfl ⟨rfl,rfl,trivial⟩ (Nat.zero_le _) (fun _ _ h=>h) ?_
 rintro ⟨i,q⟩ hi
 dsimp only at hi ⊢
 have hal:=xM s mb cl.1 cl.2 i
 have hstep:fj s mb cl.1 (i+1) cl.2=(co (dr s 3) fun z=>if z=0∧(((fy cl.1).getD i (0,0)).1≠2∨mb=true) then co (dr s 21) fun x=>co (dr s 21) fun y=>cQ ((fj s mb cl.1 i cl.2).1++[(⟨((fy cl.1).getD i (0,0)).1,((fy cl.1).getD i (0,0)).2,x * 50,y * 50 - 200⟩:dT)]) else cQ (fj s mb cl.1 i cl.2).1) (fj s mb cl.1 i cl.2).2:=rfl
 try dsimp only [Ir,Iq,Ip,Ij]
 repeat' (first|refine go ?_|refine HK a6 FS ?_)
 refine ay rfl (fun h=>?_) (fun h=>?_)
 ·have hil:i < 5:=by have:=Iy h;omega
  have hka:(kC cl.1)[i]?=some [aP ((fy cl.1).getD i (0,0)).1,aP ((fy cl.1).getD i (0,0)).2]:=by
   unfold kC
   rw [List.getElem?_map,tH hil]
   rfl
  generalize fj s mb cl.1 i cl.2=st at hal hstep ⊢
  have halm:(st.1.map cF).length=st.1.length:=It ..
  generalize (fy cl.1).getD i (0,0)=pr at hka hstep
  repeat' (first|refine go ?_|refine ak ?_|refine HK a6 FS ?_)
  refine cS ?_
  unfold co at hstep
  generalize dr s 3 st.2=z at hstep ⊢
  dsimp only at hstep
  repeat' (first|refine HK a6 FS ?_)
  refine du (t:=77) [0,4,5,6] (z.1=0∧(pr.1≠2∨mb=true)) rfl (fun Q' K=>?_) ?_
  ·by_cases hz:z.1=0
   ·rw [decide_eq_true hz]
    repeat' (first|refine HK a6 FS ?_|refine HV FS ?_|(apply aU;first|refine aT a6 ?_|refine aM a6 ?_)|fail)
    refine GA a6 0 ?_
    repeat' (first|refine HK a6 FS ?_|refine HV FS ?_)
    by_cases h2:pr.1≠2
    ·rw [decide_eq_true h2]
     repeat' (first|refine go ?_|refine HK a6 FS ?_|refine HV FS ?_|refine HW HF ?_)
     exact K _ _ rfl rfl (by simp [hz,h2])
    ·rw [decide_eq_false h2]
     repeat' (first|refine go ?_|refine HK a6 FS ?_|refine HV FS ?_|(apply bK;first|refine HO a6 0 HG ?_|refine HO a6 1 HG ?_|refine HO a6 2 HG ?_|refine HO a6 3 HG ?_|refine HP a6 0 HG ?_|refine HP a6 1 HG ?_|refine HP a6 2 HG ?_|refine HR a6 1 HE (by assumption) rfl ?_|refine HR a6 0 HE (by assumption) rfl ?_|fail)|fail)
     exact K _ _ rfl rfl (by simp only [ne_eq,Decidable.not_not] at h2;simp [hz,h2])
   ·rw [decide_eq_false hz]
    repeat' (first|refine go ?_|refine HK a6 FS ?_|refine HW HF ?_|refine dN rfl rfl rfl ?_)
    exact K _ _ rfl rfl (by simp [hz])
  repeat' (first|refine go ?_|fail)
  refine ay rfl (fun h=>?_) (fun h=>?_)
  ·have h:=Iy h
   rw [if_pos h] at hstep
   repeat' (first|fail)
   refine dz [.cell (gb,6,.vec q 4 (st.1.map cF))] 21 [(0,.v),(1,.k),(2,.v),(3,.v),(4,.v),(5,.v),(6,.v),(7,.v),(8,.v),(9,.v),(10,.v),(11,.v),(12,.v),(15,.v),(13,.f),(14,.v),(16,.f),(17,.v),(18,.v),(19,.v),(20,.v)] none ?_ trivial rfl (by kernel_rfl) (by kernel_rfl) (by kernel_rfl) mixed (by kernel_rfl) rfl
   repeat' (first|refine aC ?_|refine b7 a6 ?_|fail)
   refine eT a6 0 rfl rfl rfl (bU 1 rfl rfl cg) (by first | trivial | rfl) ?_
   repeat' (first|refine aC ?_|refine b7 a6 ?_|(apply bY;refine cn a6 ?_)|fail)
   refine Er a6 0 ?_
   repeat' (first|refine aC ?_|refine b7 a6 ?_|(apply bY;refine cn a6 ?_)|fail)
   refine Er a6 1 ?_
   repeat' (first|refine aC ?_|refine b7 a6 ?_|fail)
   refine ff (bU 1 rfl rfl cg) ?_
   have hx:=cB s hs z.2.a (n:=21) (by omega)
   have hx:0≤(dr s 21 z.2).1∧(dr s 21 z.2).1 < 21:=hx
   generalize dr s 21 z.2=x at hx hstep ⊢
   try dsimp only at hstep
   repeat' (first|refine aC ?_|(apply fq;refine gK ?_)|fail)
   refine ff (bU 1 rfl rfl cg) ?_
   have hy:=cB s hs x.2.a (n:=21) (by omega)
   have hy:0≤(dr s 21 x.2).1∧(dr s 21 x.2).1 < 21:=hy
   generalize dr s 21 x.2=y at hy hstep ⊢
   try dsimp only [cQ] at hstep
   repeat' (first|refine aC ?_|refine b7 a6 ?_|(apply fq;refine gK ?_)|refine eS a6 ?_|fail)
   refine HU [0,4,5,6,79,98] FS ?_
   repeat' (first|fail)
   refine bB a6 _ rfl rfl rfl rfl (fi (A:=[_,_])) (by simp;omega) (by simp;omega) rfl fun q'=>?_
   refine aO (aK (fi (A:=[_,_])).symm) ?_
   repeat' (first|refine go ?_|refine HK a6 FS ?_|(apply aW;refine aV ?_)|(apply aG;first|refine HM a6 0 HH ?_|refine HM a6 1 HH ?_|refine HM a6 2 HH ?_|refine HM a6 3 HH ?_|fail))
   exact aB (i+1,q') rfl ⟨by rw [Iv];rfl,rfl,trivial⟩ (by dsimp only;omega) (by dsimp only;omega) (fun _ _ h=>by dsimp only;rw [hstep];dsimp only;rw [List.map_append];exact h)
  ·have h:=Ix h
   rw [if_neg h] at hstep
   dsimp only [cQ] at hstep
   repeat' (first|refine go ?_|refine HK a6 FS ?_|(apply aW;refine aV ?_)|fail)
   exact aB (i+1,q) rfl ⟨by rw [Iv];rfl,rfl,trivial⟩ (by dsimp only;omega) (by dsimp only;omega) (fun _ _ h=>by dsimp only;rw [hstep];exact h)
 have hil:i=5:=by have:=Ix h;omega
 subst hil
 clear hstep hal
 generalize e6:fj s mb cl.1 5 cl.2=an
 refine bH (bD 1 rfl fun σ vs h=>cC (k:=6) (c':= .imm 4 (an.1.map cF)) h rfl fun v hv=>VR.im hv) ?_
 refine bH (ck (L':=[eF b s F an.2,(gb,.box (kW (cT n) (100+ad.1 * 50) mb o.1 (.imm 3 (ps.1.map cm)) (.imm 4 (an.1.map cF)) (.vec none 4 []) bQ) 63)]++(tok kg 63 9 gl.length++[])) (List.Sublist.cons_cons _ (List.Sublist.cons_cons _ (List.sublist_append_right _ _)))) ?_
 have hpl:(o.1.1.map cM).length=o.1.1.length:=It ..
 repeat' (first|refine go ?_|refine ak ?_|refine HK a6 FS ?_)
 refine aJ [0,4] (α:=Nat×Option (Nat×Nat)) (fun x=>[(7,aP x.1)]) (fun x=>x.1≤R) (fun x=>[eF b s F (gC s o.1.1.length x.1 an.2).2,(gb,.box (kW (cT n) (100+ad.1 * 50) mb o.1 (.imm 3 (ps.1.map cm)) (.imm 4 (an.1.map cF)) (.vec x.2 4 ((gC s o.1.1.length x.1 an.2).1.map dq)) bQ) 63)]++(tok x.2 89 4 ((gC s o.1.1.length x.1 an.2).1.map dq).length++(tok kg 63 9 gl.length++[]))) (fun x=>R - x.1) (0,none) rfl ⟨rfl,trivial⟩ (Nat.zero_le _) (fun _ _ h=>h) ?_
 rintro ⟨r,q⟩ hr
 dsimp only at hr ⊢
 have hdl:=(pZ s o.1.1.length r an.2).len
 have hdl:(gC s o.1.1.length r an.2).1.length≤11000:=Nat.le_trans hdl (Nat.le_trans (Nat.mul_le_mul (show r≤1000 by omega) (show o.1.1.length+1≤11 by omega)) (by omega))
 have hstep:gC s o.1.1.length (r+1) an.2=it s r (gC s o.1.1.length r an.2).1 (o.1.1.length+1) (gC s o.1.1.length r an.2).2:=rfl
 try dsimp only [Ir,Iq,Ip,Ij]
 repeat' (first|refine go ?_|refine HK a6 FS ?_|(apply bK;first|refine HO a6 0 HG ?_|refine HO a6 1 HG ?_|refine HO a6 2 HG ?_|refine HO a6 3 HG ?_|refine HP a6 0 HG ?_|refine HP a6 1 HG ?_|refine HP a6 2 HG ?_|refine HR a6 1 HE (by assumption) rfl ?_|refine HR a6 0 HE (by assumption) rfl ?_|fail)|fail)
 rw [hrg]
 repeat' (first|refine go ?_|refine HK a6 FS ?_)
 rw [hR]
 refine ay rfl (fun h=>?_) (fun h=>?_)
 ·have hrl:r < R:=by have:=Iy h;omega
  generalize gC s o.1.1.length r an.2=D at hdl hstep ⊢
  repeat' (first|refine go ?_|refine ak ?_|refine HK a6 FS ?_)
  refine aJ [0,4,7] (α:=Nat×Option (Nat×Nat)) (fun x=>[(8,aP ((x.1:Int) - 1))]) (fun x=>x.1≤o.1.1.length+1) (fun x=>[eF b s F (it s r D.1 x.1 D.2).2,(gb,.box (kW (cT n) (100+ad.1 * 50) mb o.1 (.imm 3 (ps.1.map cm)) (.imm 4 (an.1.map cF)) (.vec x.2 4 ((it s r D.1 x.1 D.2).1.map dq)) bQ) 63)]++(tok x.2 89 4 ((it s r D.1 x.1 D.2).1.map dq).length++(tok kg 63 9 gl.length++[]))) (fun x=>o.1.1.length+1 - x.1) (0,q) rfl ⟨rfl,trivial⟩ (Nat.zero_le _) (fun _ _ h=>h) ?_
  rintro ⟨p,q⟩ hp
  dsimp only at hp ⊢
  have hel:=vO s r D.1 D.2 p
  have hst2:it s r D.1 (p+1) D.2=(co (dr s 3) fun z=>if z=0 then co (dr s 41) fun x=>if p=0 then cQ ((it s r D.1 p D.2).1++[(⟨r,-1,x - 20,0⟩:eb)]) else co (dr s 41) fun y=>cQ ((it s r D.1 p D.2).1++[(⟨r,(p:Int) - 1,x - 20,y - 20⟩:eb)]) else cQ (it s r D.1 p D.2).1) (it s r D.1 p D.2).2:=rfl
  try dsimp only [Ir,Iq,Ip,Ij]
  repeat' (first|refine go ?_|refine HK a6 FS ?_|(apply bK;first|refine HO a6 0 HG ?_|refine HO a6 1 HG ?_|refine HO a6 2 HG ?_|refine HO a6 3 HG ?_|refine HP a6 0 HG ?_|refine HP a6 1 HG ?_|refine HP a6 2 HG ?_|refine HR a6 1 HE (by assumption) rfl ?_|refine HR a6 0 HE (by assumption) rfl ?_|fail)|fail)
  refine ay rfl (fun h=>?_) (fun h=>?_)
  ·have hpp:p < o.1.1.length+1:=by have:=Iy h;rw [hpl] at this;omega
   generalize it s r D.1 p D.2=E at hel hst2 ⊢
   have hElm:(E.1.map dq).length=E.1.length:=It ..
   repeat' (first|refine go ?_|refine ak ?_|refine HK a6 FS ?_)
   refine cS ?_
   unfold co at hst2
   generalize dr s 3 E.2=z at hst2 ⊢
   dsimp only at hst2
   repeat' (first|refine go ?_|refine HK a6 FS ?_)
   refine ay rfl (fun hz=>?_) (fun hz=>?_)
   ·rw [if_pos (Iy hz)] at hst2
    repeat' (first|refine go ?_|refine HK a6 FS ?_)
    refine cS ?_
    have hx:=cB s hs z.2.a (n:=41) (by omega)
    have hx:0≤(dr s 41 z.2).1∧(dr s 41 z.2).1 < 41:=hx
    generalize dr s 41 z.2=x at hx hst2 ⊢
    try dsimp only at hst2
    repeat' (first|refine go ?_|refine HK a6 FS ?_|(apply aW;refine aV ?_)|(apply aG;first|refine HM a6 0 HH ?_|refine HM a6 1 HH ?_|refine HM a6 2 HH ?_|refine HM a6 3 HH ?_|fail)|refine aX a6 fun _=>?_|fail)
    refine bH (aK (List.perm_middle (l₁:=[_,_])).symm) ?_
    refine ay rfl (fun h0=>?_) (fun h0=>?_)
    ·have h0:¬p=0:=by have:=Iy h0;omega
     rw [if_neg h0] at hst2
     repeat' (first|refine go ?_|refine HK a6 FS ?_)
     refine cS ?_
     have hy:=cB s hs x.2.a (n:=41) (by omega)
     have hy:0≤(dr s 41 x.2).1∧(dr s 41 x.2).1 < 41:=hy
     generalize dr s 41 x.2=y at hy hst2 ⊢
     try dsimp only [cQ] at hst2
     repeat' (first|refine go ?_|refine HK a6 FS ?_|(apply bK;first|refine HO a6 0 HG ?_|refine HO a6 1 HG ?_|refine HO a6 2 HG ?_|refine HO a6 3 HG ?_|refine HP a6 0 HG ?_|refine HP a6 1 HG ?_|refine HP a6 2 HG ?_|refine HR a6 1 HE (by assumption) rfl ?_|refine HR a6 0 HE (by assumption) rfl ?_|fail)|(apply aW;refine aV ?_)|(apply aG;first|refine HM a6 0 HH ?_|refine HM a6 1 HH ?_|refine HM a6 2 HH ?_|refine HM a6 3 HH ?_|fail)|refine bG a6 ?_|fail)
     refine bB a6 _ rfl rfl rfl rfl (fi (A:=[_,_,_])) (by simp;omega) (by simp;omega) rfl fun q'=>?_
     refine aO (aK (fi (A:=[_,_,_])).symm) ?_
     repeat' (first|refine go ?_|refine HK a6 FS ?_|(apply aW;refine aV ?_)|(apply aG;first|refine HM a6 0 HH ?_|refine HM a6 1 HH ?_|refine HM a6 2 HH ?_|refine HM a6 3 HH ?_|fail))
     exact aB (p+1,q') rfl ⟨by dsimp only;rw [show ((p+1:Nat):Int) - 1=(p:Int) - 1+1 by omega];rfl,trivial⟩ (by dsimp only;omega) (by dsimp only;omega) (fun _ _ h=>by dsimp only;rw [hst2];dsimp only;rw [List.map_append];exact h.sublist (List.Sublist.cons_cons _ (List.Sublist.cons_cons _ (List.sublist_cons_self ..))))
    ·have h0:p=0:=by have:=Ix h0;omega
     rw [if_pos h0] at hst2
     try dsimp only [cQ] at hst2
     repeat' (first|refine go ?_|refine HK a6 FS ?_|(apply bK;first|refine HO a6 0 HG ?_|refine HO a6 1 HG ?_|refine HO a6 2 HG ?_|refine HO a6 3 HG ?_|refine HP a6 0 HG ?_|refine HP a6 1 HG ?_|refine HP a6 2 HG ?_|refine HR a6 1 HE (by assumption) rfl ?_|refine HR a6 0 HE (by assumption) rfl ?_|fail)|refine bG a6 ?_|fail)
     refine bB a6 _ rfl rfl rfl rfl (fi (A:=[_,_,_])) (by simp;omega) (by simp;omega) rfl fun q'=>?_
     refine aO (aK (fi (A:=[_,_,_])).symm) ?_
     repeat' (first|refine go ?_|refine HK a6 FS ?_|(apply aW;refine aV ?_)|(apply aG;first|refine HM a6 0 HH ?_|refine HM a6 1 HH ?_|refine HM a6 2 HH ?_|refine HM a6 3 HH ?_|fail))
     subst h0
     exact aB (0+1,q') rfl ⟨rfl,trivial⟩ (by dsimp only;omega) (by dsimp only;omega) (fun _ _ h=>by dsimp only;rw [hst2];dsimp only;rw [List.map_append];exact h.sublist (List.Sublist.cons_cons _ (List.Sublist.cons_cons _ (List.sublist_cons_self ..))))
   ·rw [if_neg (Ix hz)] at hst2
    try dsimp only [cQ] at hst2
    repeat' (first|refine go ?_|refine HK a6 FS ?_|(apply aW;refine aV ?_)|fail)
    exact aB (p+1,q) rfl ⟨by dsimp only;rw [show ((p+1:Nat):Int) - 1=(p:Int) - 1+1 by omega];rfl,trivial⟩ (by dsimp only;omega) (by dsimp only;omega) (fun _ _ h=>by dsimp only;rw [hst2];exact h)
  have hpp:p=o.1.1.length+1:=by have:=Ix h;rw [hpl] at this;omega
  subst hpp
  repeat' (first|refine go ?_|refine HK a6 FS ?_|(apply aW;refine aV ?_)|fail)
  exact aB (r+1,q) rfl ⟨by rw [Iv];rfl,trivial⟩ (by dsimp only;omega) (by dsimp only;omega) (fun _ _ h=>by dsimp only;rw [hstep];exact h)
 have hrl:r=R:=by have:=Ix h;omega
 subst hrl
 clear hstep hdl
 generalize e7:gC s o.1.1.length r an.2=de
 repeat' (first|refine go ?_|refine HK a6 FS ?_|(apply aG;first|refine HM a6 0 HH ?_|refine HM a6 1 HH ?_|refine HM a6 2 HH ?_|refine HM a6 3 HH ?_|fail))
 refine bH (aK (L':=[eF b s F (ib 2 de.2).2,(gb,.box (kW (cT n) (100+ad.1 * 50) mb o.1 (.imm 3 (ps.1.map cm)) (.imm 4 (an.1.map cF)) (.vec q 4 (de.1.map dq)) bQ) 63)]++(tok q 89 4 (de.1.map dq).length++(tok kg 63 9 gl.length++[]))) (Im _)) ?_
 refine bH (bD 1 rfl fun σ vs h=>cC (k:=7) (c':= .imm 4 (de.1.map dq)) h rfl fun v hv=>VR.im hv) ?_
 refine bH (ck (L':=[eF b s F (ib 2 de.2).2,(gb,.box (kW (cT n) (100+ad.1 * 50) mb o.1 (.imm 3 (ps.1.map cm)) (.imm 4 (an.1.map cF)) (.imm 4 (de.1.map dq)) bQ) 63)]++(tok kg 63 9 gl.length++[])) (List.Sublist.cons_cons _ (List.Sublist.cons_cons _ (List.sublist_append_right _ _)))) ?_
 generalize e8:(ib 2 de.2).2=w
 refine bn 11 [(0,.v),(1,.v),(2,.v),(3,.l),(4,.v),(5,.v),(6,.v),(7,.v),(8,.v),(9,.l),(10,.v)] none ?_ trivial rfl (by kernel_rfl) (by kernel_rfl) (by kernel_rfl) mixed (by kernel_rfl) rfl
 repeat' (first|refine aC ?_|refine b7 a6 ?_|refine dt a6 0 rfl rfl rfl rfl (by first|trivial|rfl) ?_|refine dt a6 1 rfl rfl rfl rfl (by first|trivial|rfl) ?_)
 rw [hfu]
 repeat' (first|refine b7 a6 ?_|fail)
 rw [hfn,hpl]
 refine HU [0,4,143,147,153] FS ?_
 refine uC (rW s hs F (n:=o.1.1.length) (fn:=fn) (most:=6) (by omega) (by omega) (by omega)) ?_
 generalize e9:nc s o.1.1.length fn 6 w=hi
 unfold jy
 repeat' (first|refine go ?_|refine HK a6 FS ?_|(apply aG;first|refine HM a6 0 HH ?_|refine HM a6 1 HH ?_|refine HM a6 2 HH ?_|refine HM a6 3 HH ?_|fail))
 refine bH (aK (L':=[eF b s F hi.2,(gb,.box (kW (cT n) (100+ad.1 * 50) mb o.1 (.imm 3 (ps.1.map cm)) (.imm 4 (an.1.map cF)) (.imm 4 (de.1.map dq)) (.imm 2 (hi.1.map dQ))) 63)]++(tok kg 63 9 gl.length++[])) (Im _)) ?_
 refine bn 9 [(0,.v),(1,.v),(2,.v),(3,.v),(4,.v),(5,.l),(6,.l),(7,.v),(8,.e)] none ?_ trivial rfl (by kernel_rfl) (by kernel_rfl) (by kernel_rfl) mixed (by kernel_rfl) rfl
 repeat' (first|refine aC ?_|refine b7 a6 ?_|refine eS a6 ?_|refine dt a6 0 rfl rfl rfl rfl (by first|trivial|rfl) ?_|refine wY a6 1 rfl rfl rfl rfl (by first|trivial|rfl) ?_)
 rw [hF]
 refine gB a6 _ rfl rfl rfl rfl (fi (A:=[_,_])) (by simp;omega) (by simp;omega) (by first | trivial | rfl) fun q'=>?_
 refine HU [156,164] FS ?_
 refine aO (aK (fi (A:=[_,_])).symm) ?_
 repeat' (first|refine go ?_|refine HK a6 FS ?_|(apply aG;first|refine HM a6 0 HH ?_|refine HM a6 1 HH ?_|refine HM a6 2 HH ?_|refine HM a6 3 HH ?_|fail))
 have hv:km s r fn n m=(⟨cT n,100+ad.1 * 50,mb,o.1.1,o.1.2,ps.1,an.1,de.1,hi.1⟩,hi.2):=by
  unfold km co
  rw [e1]
  try dsimp only
  rw [e2]
  try dsimp only
  rw [e3]
  try dsimp only
  rw [e4]
  try dsimp only
  rw [e5,hmk]
  try dsimp only
  rw [e6]
  try dsimp only
  rw [e7]
  try dsimp only
  rw [e8,e9]
  rfl
 rw [hv]
 exact bc (ck (L':=[eF b s (Cv F (.vec q' 9 (gl++[bC ⟨cT n,100+ad.1 * 50,mb,o.1.1,o.1.2,ps.1,an.1,de.1,hi.1⟩]))) hi.2]++(tok q' 63 9 (gl++[bC ⟨cT n,100+ad.1 * 50,mb,o.1.1,o.1.2,ps.1,an.1,de.1,hi.1⟩]).length++[])) (List.Sublist.cons_cons _ (List.sublist_cons_self ..))) (dY rfl ⟨q',rfl⟩)
end Go.Proofs.YtjjpkibjffmceaaGreat
