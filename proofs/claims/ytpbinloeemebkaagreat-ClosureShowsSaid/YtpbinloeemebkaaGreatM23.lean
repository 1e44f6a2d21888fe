/-
  The maker: glyphs.
-/
import Derived.Test.YtpbinloeemebkaaGreatM22
namespace Go.Proofs.YtpbinloeemebkaaGreat
open Go.RowKit
attribute [local irreducible] AT bO AX AO Av Kt bo dU DA cT
variable (s:List Int) (hs:s.length≤1000000) (F:MF)
theorem xO (a c:UInt8):(⟨#[a]⟩:ByteArray)++(⟨#[c]⟩:ByteArray)=bytes [a,c]:=by
 apply ByteArray.ext
 simp [bytes]
theorem xP (a b c:UInt8):(⟨#[a,b]⟩:ByteArray)++(⟨#[c]⟩:ByteArray)=bytes [a,b,c]:=by
 apply ByteArray.ext
 simp [bytes]
theorem Gd {z:Int} (h:0≤z∧z < 256):IntKind.wrap .u8 z=z:=by
 unfold IntKind.wrap
 simp [IntKind.signed,IntKind.bits]
 try omega
theorem tZ (n:Nat) (h:n < 100):IntKind.wrap .u8 (97+(n:Int))=97+(n:Int):=Gd (by omega)
theorem x6 (n:Nat) (h:n < 100):UInt8.ofNat (97+(n:Int)).toNat=(97+n).toUInt8:=by
 rw [show ((97+(n:Int))).toNat=97+n by omega]
theorem G3 {a c:Nat×AB} {T:AL}:(a::(T++[])++[c]).Perm ([a,c]++(T++[])):=List.Perm.cons a (List.perm_append_comm (l₁:=T++[]))
def kO (nm:ByteArray) (ad:Int) (mk:Bool) (o:List eB×List Int) (ps an de hi:AV):List AV:=[uL nm,aH ad,c9 mk,.imm 3 (o.1.map dA),.imm 1 (aS o.2),ps,an,de,hi]
theorem xH (mark:Bool) (cl:Int) (m:MS) (k:Nat):(eJ s mark cl k m).1.length≤k:=by
 refine (bU.runs (fun i (l:List dz)=>l.length≤i) k (Nat.le_refl _) fun i l _ h=>(bU.any _).bnd fun z _=>bU.ite (fun _=>(bU.any _).bnd fun x _=>(bU.any _).bnd fun y _=>bU.ret (by simp;omega)) fun _=>bU.ret (by omega)) m
theorem vt (r:Nat) (l:List dG) (m:MS) (k:Nat):(gX s r l k m).1.length≤l.length+k:=by
 refine (bU.runs (fun i (q:List dG)=>q.length≤l.length+i) k (Nat.le_refl _) fun i q _ h=>(bU.any _).bnd fun z _=>bU.ite (fun _=>(bU.any _).bnd fun x _=>bU.ite (fun _=>bU.ret (by simp;omega)) fun _=>(bU.any _).bnd fun y _=>bU.ret (by simp;omega)) fun _=>bU.ret (by omega)) m
def kC (cl:Int):List (List AV):=(fP cl).map fun p=>[aH p.1,aH p.2]
abbrev C1 (F:MF) (v:AV):MF:={ F with gl:=v }
include hs
set_option maxHeartbeats 16000000 in
theorem Ar {kg:Option (Nat×Nat)} {gl rg fu:List (List AV)} (hF:F.gl= .vec kg 9 gl) (hrg:F.rg= .imm 1 rg) (hfu:F.fu= .imm 1 fu) (R fn n:Nat) (hR:rg.length=R) (hfn:fu.length=fn) (hg:gl.length≤1000) (hRl:R≤1000) (hfl:fn≤1000) (hn:n < 100) (b:Nat) (m:MS):AC Tryz.prog 64 [fg b,aH n] ([dS b s F m]++(tok kg 64 9 gl.length++[])) fun _ L=>∃kg',L=[dS b s (C1 F (.vec kg' 9 (gl++[bS (jO s R fn n m).1]))) (jO s R fn n m).2]++(tok kg' 64 9 (gl++[bS (jO s R fn n m).1]).length++[]):=by
 refine aT Tryz.func64 rfl Tryz.ntmps64 rfl fun B=>?_
 repeat' (first|refine go ?_|fail)
 refine bj 15 [(0,.v),(1,.v),(2,.v),(3,.v),(4,.v),(5,.v),(6,.v),(10,.v),(7,.e),(8,.v),(9,.v),(11,.e),(12,.v),(13,.v)] (some (14,.box _ 64)) ?_ ⟨_,rfl,rfl,fun _ _ _=>pg (fw a1 rfl) rfl⟩ rfl (by kernel_rfl) (by kernel_rfl) (by kernel_rfl) mixed (by kernel_rfl) rfl
 repeat' (first|refine aE ?_|refine ba a1 ?_|(apply dB;refine eK ?_)|fail)
 refine Aa a1 ?_
 rw [tZ n hn]
 repeat' (first|refine aE ?_|refine ek a1 ?_|fail)
 refine wM a1 ?_
 rw [x6 n hn]
 repeat' (first|refine aE ?_|fail)
 refine DN (hs:=Nat.le_of_ble_eq_true rfl) ?_
 rw [xO]
 repeat' (first|refine aE ?_|refine ba a1 ?_|fail)
 refine s8 ?_
 have had:=cn s hs m.a (n:=19) (by omega)
 have had:0≤(dr s 19 m).1∧(dr s 19 m).1 < 19:=had
 generalize e1:dr s 19 m=ad at had ⊢
 repeat' (first|refine aE ?_|(apply dB;refine eK ?_)|fail)
 refine s8 ?_
 generalize e2:dr s 4 ad.2=mk
 repeat' (first|refine aE ?_|refine ba a1 ?_|fail)
 refine wP [0,1,4,23] (fun _=>_) (fun _=>rfl) rfl fun _=>?_
 rename_i gb
 refine aV (aJ (L':=[dS b s F mk.2,(gb,.box [.sc (.string ⟨#[]⟩),aH 0,c9 false,bP,bP,bP,bP,bP,bP] 64)]++(tok kg 64 9 gl.length++[])) G3) ?_
 repeat' (first|refine go ?_|refine HF a1 F8 ?_|(apply aQ;first|refine HG a1 0 HD ?_|refine HG a1 1 HD ?_|refine HG a1 2 HD ?_|refine HG a1 3 HD ?_|fail))
 refine s4 [0,1,4] ([dS b s F mk.2,(gb,.box [uL (cL n),aH (100+ad.1 * 50),c9 (decide (mk.1=0) && decide (n≠0)),bP,bP,.vec none 3 [],.vec none 4 [],.vec none 4 [],bP] 64)]++(tok kg 64 9 gl.length++[])) rfl (fun Q' K=>?_) ?_
 ·refine ay rfl (fun h=>?_) (fun h=>?_)
  ·have h:n=0:=by have:=Hy h;omega
   have hm:(decide (mk.1=0) && decide (n≠0))=false:=by simp [h]
   have hgn:cL n=Bl:=if_pos h
   rw [hm,hgn] at K
   repeat' (first|refine go ?_|refine HF a1 F8 ?_|(apply aQ;first|refine HG a1 0 HD ?_|refine HG a1 1 HD ?_|refine HG a1 2 HD ?_|refine HG a1 3 HD ?_|fail))
   refine bk (bE 1 rfl fun σ vs h=>cr (k:=5) (c':= .vec none 3 []) (cr (k:=6) (c':= .vec none 4 []) (cr (k:=7) (c':= .vec none 4 []) h rfl fun v hv=>dg 4 hv) rfl fun v hv=>dg 4 hv) rfl fun v hv=>dg 3 hv) ?_
   exact K _ rfl
  ·have h:¬n=0:=by have:=Hx h;omega
   have hm:(decide (mk.1=0) && decide (n≠0))=decide (mk.1=0):=by simp [h]
   have hgn:cL n=j9 GU n:=if_neg h
   rw [hm,hgn] at K
   repeat' (first|refine go ?_|fail)
   refine bk (bE 1 rfl fun σ vs h=>cr (k:=5) (c':= .vec none 3 []) (cr (k:=6) (c':= .vec none 4 []) (cr (k:=7) (c':= .vec none 4 []) h rfl fun v hv=>dg 4 hv) rfl fun v hv=>dg 4 hv) rfl fun v hv=>dg 3 hv) ?_
   exact K _ rfl
 generalize hmk:(decide (mk.1=0) && decide (n≠0))=mb
 repeat' (first|refine go ?_|refine HF a1 F8 ?_)
 refine ua (sG s hs F) ?_
 have ho:=oF s mk.2
 generalize e3:jo s mk.2=o at ho ⊢
 obtain ⟨ko,hko,hoo⟩:=ho
 have hol:=hoo.len
 unfold G1
 refine HF a1 F8 ?_
 (apply aQ;refine HG a1 1 HD ?_)
 refine a8 ?_
 refine a7 ?_
 refine ae ?_
 refine s4 [0,4] ([dS b s F (iG s n o.2).2,(gb,.box (kO (cL n) (100+ad.1 * 50) mb o.1 (.imm 3 ((iG s n o.2).1.map dW)) (.vec none 4 []) (.vec none 4 []) bP) 64)]++(tok kg 64 9 gl.length++[])) rfl (fun Q' K=>?_) ?_
 ·repeat' (first|refine go ?_|refine HF a1 F8 ?_)
  by_cases hn1:1 < n
  ·rw [decide_eq_true (show (1:Int) < (n:Int) by omega)]
   repeat' (first|refine HF a1 F8 ?_|refine HO F8 ?_)
   refine cD ?_
   generalize e4:dr s 4 o.2=z
   repeat' (first|refine go ?_|refine HF a1 F8 ?_|refine HO F8 ?_)
   refine ay rfl (fun h=>?_) (fun h=>?_)
   ·have h:=Hy h
    repeat' (first|fail)
    refine dD [.cell (gb,5,.vec none 3 [])] 11 [(0,.v),(1,.k),(2,.v),(6,.v),(3,.f),(4,.v),(5,.v),(7,.f),(8,.v),(9,.v),(10,.v)] none ?_ trivial rfl (by kernel_rfl) (by kernel_rfl) (by kernel_rfl) mixed (by kernel_rfl) rfl
    repeat' (first|refine aE ?_|refine ba a1 ?_|fail)
    refine eb a1 0 rfl rfl rfl (bN 1 rfl rfl c5) (by first | trivial | rfl) ?_
    repeat' (first|refine aE ?_|refine ba a1 ?_|fail)
    refine eC (bN 1 rfl rfl c5) ?_
    have hx:=cn s hs z.2.a (n:=9) (by omega)
    have hx:0≤(dr s 9 z.2).1∧(dr s 9 z.2).1 < 9:=hx
    generalize e5:dr s 9 z.2=x at hx ⊢
    repeat' (first|refine aE ?_|(apply dB;refine eK ?_)|fail)
    refine eC (bN 1 rfl rfl c5) ?_
    have hy:=cn s hs x.2.a (n:=5) (by omega)
    have hy:0≤(dr s 5 x.2).1∧(dr s 5 x.2).1 < 5:=hy
    generalize e6:dr s 5 x.2=y at hy ⊢
    repeat' (first|refine aE ?_|refine ba a1 ?_|(apply dB;refine eK ?_)|refine ek a1 ?_|fail)
    refine HR [0,4,39,48] F8 ?_
    repeat' (first|fail)
    refine cj a1 _ rfl rfl rfl rfl (Ho _) (by simp) (by simp) rfl fun q'=>?_
    refine aV (cb (List.sublist_append_right _ _)) ?_
    repeat' (first|refine go ?_|refine HF a1 F8 ?_|(apply aQ;first|refine HG a1 0 HD ?_|refine HG a1 1 HD ?_|refine HG a1 2 HD ?_|refine HG a1 3 HD ?_|fail))
    have hv:iG s n o.2=([⟨1,x.1 * 50 - 200,y.1 * 50⟩],y.2):=by simp [iG,c7,cC,hn1,e4,e5,e6,h]
    rw [hv] at K
    refine bk (bE 1 rfl fun σ vs h=>cr (k:=5) (c':= .imm 3 ([(⟨1,x.1 * 50 - 200,y.1 * 50⟩:cX)].map dW)) h rfl fun v hv=>VR.im hv) ?_
    exact K _ rfl
   ·have h:=Hx h
    repeat' (first|refine go ?_|fail)
    have hv:iG s n o.2=([],z.2):=by simp [iG,c7,cC,hn1,e4,h]
    rw [hv] at K
    refine bk (bE 1 rfl fun σ vs h=>cr (k:=5) (c':= .imm 3 []) h rfl fun v hv=>VR.im hv) ?_
    exact K _ rfl
  ·rw [decide_eq_false (show ¬(1:Int) < (n:Int) by omega)]
   repeat' (first|refine go ?_|refine HF a1 F8 ?_|refine HS HB ?_|refine bL rfl ?_)
   have hv:iG s n o.2=([],o.2):=by simp [iG,cC,hn1]
   rw [hv] at K
   refine bk (bE 1 rfl fun σ vs h=>cr (k:=5) (c':= .imm 3 []) h rfl fun v hv=>VR.im hv) ?_
   exact K _ rfl
 generalize e4:iG s n o.2=ps
 repeat' (first|refine go ?_|refine HF a1 F8 ?_)
 refine cD ?_
 have hcl:=cn s hs ps.2.a (n:=2) (by omega)
 have hcl:0≤(dr s 2 ps.2).1∧(dr s 2 ps.2).1 < 2:=hcl
 generalize e5:dr s 2 ps.2=cl at hcl ⊢
 repeat' (first|refine go ?_|refine ak ?_|refine HF a1 F8 ?_|refine bI a1 ?_|fail)
 refine aR [0,4,5] (α:=Nat×Option (Nat×Nat)) (fun x=>[(6,aH x.1),(5,.imm 2 (kC cl.1))]) (fun x=>x.1≤5) (fun x=>[dS b s F (eJ s mb cl.1 x.1 cl.2).2,(gb,.box (kO (cL n) (100+ad.1 * 50) mb o.1 (.imm 3 (ps.1.map dW)) (.vec x.2 4 ((eJ s mb cl.1 x.1 cl.2).1.map d9)) (.vec none 4 []) bP) 64)]++(tok x.2 210 4 ((eJ s mb cl.1 x.1 cl.2).1.map d9).length++(tok kg 64 9 gl.length++[]))) (fun x=>5 - x.1) (0,none) rfl ⟨rfl,rfl,trivial⟩ (Nat.zero_le _) (fun _ _ h=>h) ?_
 rintro ⟨i,q⟩ hi
 dsimp only at hi ⊢
 have hal:=xH s mb cl.1 cl.2 i
 have hstep:eJ s mb cl.1 (i+1) cl.2=(c7 (dr s 3) fun z=>if z=0∧(((fP cl.1).getD i (0,0)).1≠2∨mb=true) then c7 (dr s 21) fun x=>c7 (dr s 21) fun y=>cC ((eJ s mb cl.1 i cl.2).1++[(⟨((fP cl.1).getD i (0,0)).1,((fP cl.1).getD i (0,0)).2,x * 50,y * 50 - 200⟩:dz)]) else cC (eJ s mb cl.1 i cl.2).1) (eJ s mb cl.1 i cl.2).2:=rfl
 try dsimp only [Hs,Hr,Hq,Hl]
 repeat' (first|refine go ?_|refine HF a1 F8 ?_)
 refine ay rfl (fun h=>?_) (fun h=>?_)
 ·have hil:i < 5:=by have:=Hy h;omega
  have hka:(kC cl.1)[i]?=some [aH ((fP cl.1).getD i (0,0)).1,aH ((fP cl.1).getD i (0,0)).2]:=by
   unfold kC
   rw [List.getElem?_map,t2 hil]
   rfl
  generalize eJ s mb cl.1 i cl.2=st at hal hstep ⊢
  have halm:(st.1.map d9).length=st.1.length:=Hu ..
  generalize (fP cl.1).getD i (0,0)=pr at hka hstep
  repeat' (first|refine go ?_|refine ak ?_|refine HF a1 F8 ?_)
  refine cD ?_
  unfold c7 at hstep
  generalize dr s 3 st.2=z at hstep ⊢
  dsimp only at hstep
  repeat' (first|refine HF a1 F8 ?_)
  refine d7 (t:=77) [0,4,5,6] (z.1=0∧(pr.1≠2∨mb=true)) rfl (fun Q' K=>?_) ?_
  ·by_cases hz:z.1=0
   ·rw [decide_eq_true hz]
    repeat' (first|refine HF a1 F8 ?_|refine HO F8 ?_|(apply aX;first|refine aU a1 ?_|refine aK a1 ?_)|fail)
    refine FZ a1 0 ?_
    repeat' (first|refine HF a1 F8 ?_|refine HO F8 ?_)
    by_cases h2:pr.1≠2
    ·rw [decide_eq_true h2]
     repeat' (first|refine go ?_|refine HF a1 F8 ?_|refine HO F8 ?_|refine HS HB ?_)
     exact K _ _ rfl rfl (by simp [hz,h2])
    ·rw [decide_eq_false h2]
     repeat' (first|refine go ?_|refine HF a1 F8 ?_|refine HO F8 ?_|(apply bh;first|refine HJ a1 0 HC ?_|refine HJ a1 1 HC ?_|refine HJ a1 2 HC ?_|refine HJ a1 3 HC ?_|refine HK a1 0 HC ?_|refine HK a1 1 HC ?_|refine HK a1 2 HC ?_|refine HM a1 1 HA (by assumption) rfl ?_|refine HM a1 0 HA (by assumption) rfl ?_|fail)|fail)
     exact K _ _ rfl rfl (by simp only [ne_eq,Decidable.not_not] at h2;simp [hz,h2])
   ·rw [decide_eq_false hz]
    repeat' (first|refine go ?_|refine HF a1 F8 ?_|refine HS HB ?_|refine cR rfl rfl rfl ?_)
    exact K _ _ rfl rfl (by simp [hz])
  repeat' (first|refine go ?_|fail)
  refine ay rfl (fun h=>?_) (fun h=>?_)
  ·have h:=Hy h
   rw [if_pos h] at hstep
   repeat' (first|fail)
   refine dD [.cell (gb,6,.vec q 4 (st.1.map d9))] 21 [(0,.v),(1,.k),(2,.v),(3,.v),(4,.v),(5,.v),(6,.v),(7,.v),(8,.v),(9,.v),(10,.v),(11,.v),(12,.v),(15,.v),(13,.f),(14,.v),(16,.f),(17,.v),(18,.v),(19,.v),(20,.v)] none ?_ trivial rfl (by kernel_rfl) (by kernel_rfl) (by kernel_rfl) mixed (by kernel_rfl) rfl
   repeat' (first|refine aE ?_|refine ba a1 ?_|fail)
   refine eb a1 0 rfl rfl rfl (bN 1 rfl rfl c5) (by first | trivial | rfl) ?_
   repeat' (first|refine aE ?_|refine ba a1 ?_|(apply co;refine cJ a1 ?_)|fail)
   refine DL a1 0 ?_
   repeat' (first|refine aE ?_|refine ba a1 ?_|(apply co;refine cJ a1 ?_)|fail)
   refine DL a1 1 ?_
   repeat' (first|refine aE ?_|refine ba a1 ?_|fail)
   refine eC (bN 1 rfl rfl c5) ?_
   have hx:=cn s hs z.2.a (n:=21) (by omega)
   have hx:0≤(dr s 21 z.2).1∧(dr s 21 z.2).1 < 21:=hx
   generalize dr s 21 z.2=x at hx hstep ⊢
   try dsimp only at hstep
   repeat' (first|refine aE ?_|(apply dB;refine eK ?_)|fail)
   refine eC (bN 1 rfl rfl c5) ?_
   have hy:=cn s hs x.2.a (n:=21) (by omega)
   have hy:0≤(dr s 21 x.2).1∧(dr s 21 x.2).1 < 21:=hy
   generalize dr s 21 x.2=y at hy hstep ⊢
   try dsimp only [cC] at hstep
   repeat' (first|refine aE ?_|refine ba a1 ?_|(apply dB;refine eK ?_)|refine ek a1 ?_|fail)
   refine HR [0,4,5,6,79,98] F8 ?_
   repeat' (first|fail)
   refine cj a1 _ rfl rfl rfl rfl (eF (A:=[_,_])) (by simp;omega) (by simp;omega) rfl fun q'=>?_
   refine aV (aJ (eF (A:=[_,_])).symm) ?_
   repeat' (first|refine go ?_|refine HF a1 F8 ?_|(apply aZ;refine aY ?_)|(apply aQ;first|refine HG a1 0 HD ?_|refine HG a1 1 HD ?_|refine HG a1 2 HD ?_|refine HG a1 3 HD ?_|fail))
   exact aF (i+1,q') rfl ⟨by rw [Hv];rfl,rfl,trivial⟩ (by dsimp only;omega) (by dsimp only;omega) (fun _ _ h=>by dsimp only;rw [hstep];dsimp only;rw [List.map_append];exact h)
  ·have h:=Hx h
   rw [if_neg h] at hstep
   dsimp only [cC] at hstep
   repeat' (first|refine go ?_|refine HF a1 F8 ?_|(apply aZ;refine aY ?_)|fail)
   exact aF (i+1,q) rfl ⟨by rw [Hv];rfl,rfl,trivial⟩ (by dsimp only;omega) (by dsimp only;omega) (fun _ _ h=>by dsimp only;rw [hstep];exact h)
 have hil:i=5:=by have:=Hx h;omega
 subst hil
 clear hstep hal
 generalize e6:eJ s mb cl.1 5 cl.2=an
 refine bW (bE 1 rfl fun σ vs h=>cr (k:=6) (c':= .imm 4 (an.1.map d9)) h rfl fun v hv=>VR.im hv) ?_
 refine bW (cb (L':=[dS b s F an.2,(gb,.box (kO (cL n) (100+ad.1 * 50) mb o.1 (.imm 3 (ps.1.map dW)) (.imm 4 (an.1.map d9)) (.vec none 4 []) bP) 64)]++(tok kg 64 9 gl.length++[])) (List.Sublist.cons_cons _ (List.Sublist.cons_cons _ (List.sublist_append_right _ _)))) ?_
 have hpl:(o.1.1.map dA).length=o.1.1.length:=Hu ..
 repeat' (first|refine go ?_|refine ak ?_|refine HF a1 F8 ?_)
 refine aR [0,4] (α:=Nat×Option (Nat×Nat)) (fun x=>[(7,aH x.1)]) (fun x=>x.1≤R) (fun x=>[dS b s F (g7 s o.1.1.length x.1 an.2).2,(gb,.box (kO (cL n) (100+ad.1 * 50) mb o.1 (.imm 3 (ps.1.map dW)) (.imm 4 (an.1.map d9)) (.vec x.2 4 ((g7 s o.1.1.length x.1 an.2).1.map dY)) bP) 64)]++(tok x.2 212 4 ((g7 s o.1.1.length x.1 an.2).1.map dY).length++(tok kg 64 9 gl.length++[]))) (fun x=>R - x.1) (0,none) rfl ⟨rfl,trivial⟩ (Nat.zero_le _) (fun _ _ h=>h) ?_
 rintro ⟨r,q⟩ hr
 dsimp only at hr ⊢
 have hdl:=(pB s o.1.1.length r an.2).len
 have hdl:(g7 s o.1.1.length r an.2).1.length≤11000:=Nat.le_trans hdl (Nat.le_trans (Nat.mul_le_mul (show r≤1000 by omega) (show o.1.1.length+1≤11 by omega)) (by omega))
 have hstep:g7 s o.1.1.length (r+1) an.2=gX s r (g7 s o.1.1.length r an.2).1 (o.1.1.length+1) (g7 s o.1.1.length r an.2).2:=rfl
 try dsimp only [Hs,Hr,Hq,Hl]
 repeat' (first|refine go ?_|refine HF a1 F8 ?_|(apply bh;first|refine HJ a1 0 HC ?_|refine HJ a1 1 HC ?_|refine HJ a1 2 HC ?_|refine HJ a1 3 HC ?_|refine HK a1 0 HC ?_|refine HK a1 1 HC ?_|refine HK a1 2 HC ?_|refine HM a1 1 HA (by assumption) rfl ?_|refine HM a1 0 HA (by assumption) rfl ?_|fail)|fail)
 rw [hrg]
 repeat' (first|refine go ?_|refine HF a1 F8 ?_)
 rw [hR]
 refine ay rfl (fun h=>?_) (fun h=>?_)
 ·have hrl:r < R:=by have:=Hy h;omega
  generalize g7 s o.1.1.length r an.2=D at hdl hstep ⊢
  repeat' (first|refine go ?_|refine ak ?_|refine HF a1 F8 ?_)
  refine aR [0,4,7] (α:=Nat×Option (Nat×Nat)) (fun x=>[(8,aH ((x.1:Int) - 1))]) (fun x=>x.1≤o.1.1.length+1) (fun x=>[dS b s F (gX s r D.1 x.1 D.2).2,(gb,.box (kO (cL n) (100+ad.1 * 50) mb o.1 (.imm 3 (ps.1.map dW)) (.imm 4 (an.1.map d9)) (.vec x.2 4 ((gX s r D.1 x.1 D.2).1.map dY)) bP) 64)]++(tok x.2 212 4 ((gX s r D.1 x.1 D.2).1.map dY).length++(tok kg 64 9 gl.length++[]))) (fun x=>o.1.1.length+1 - x.1) (0,q) rfl ⟨rfl,trivial⟩ (Nat.zero_le _) (fun _ _ h=>h) ?_
  rintro ⟨p,q⟩ hp
  dsimp only at hp ⊢
  have hel:=vt s r D.1 D.2 p
  have hst2:gX s r D.1 (p+1) D.2=(c7 (dr s 3) fun z=>if z=0 then c7 (dr s 41) fun x=>if p=0 then cC ((gX s r D.1 p D.2).1++[(⟨r,-1,x - 20,0⟩:dG)]) else c7 (dr s 41) fun y=>cC ((gX s r D.1 p D.2).1++[(⟨r,(p:Int) - 1,x - 20,y - 20⟩:dG)]) else cC (gX s r D.1 p D.2).1) (gX s r D.1 p D.2).2:=rfl
  try dsimp only [Hs,Hr,Hq,Hl]
  repeat' (first|refine go ?_|refine HF a1 F8 ?_|(apply bh;first|refine HJ a1 0 HC ?_|refine HJ a1 1 HC ?_|refine HJ a1 2 HC ?_|refine HJ a1 3 HC ?_|refine HK a1 0 HC ?_|refine HK a1 1 HC ?_|refine HK a1 2 HC ?_|refine HM a1 1 HA (by assumption) rfl ?_|refine HM a1 0 HA (by assumption) rfl ?_|fail)|fail)
  refine ay rfl (fun h=>?_) (fun h=>?_)
  ·have hpp:p < o.1.1.length+1:=by have:=Hy h;rw [hpl] at this;omega
   generalize gX s r D.1 p D.2=E at hel hst2 ⊢
   have hElm:(E.1.map dY).length=E.1.length:=Hu ..
   repeat' (first|refine go ?_|refine ak ?_|refine HF a1 F8 ?_)
   refine cD ?_
   unfold c7 at hst2
   generalize dr s 3 E.2=z at hst2 ⊢
   dsimp only at hst2
   repeat' (first|refine go ?_|refine HF a1 F8 ?_)
   refine ay rfl (fun hz=>?_) (fun hz=>?_)
   ·rw [if_pos (Hy hz)] at hst2
    repeat' (first|refine go ?_|refine HF a1 F8 ?_)
    refine cD ?_
    have hx:=cn s hs z.2.a (n:=41) (by omega)
    have hx:0≤(dr s 41 z.2).1∧(dr s 41 z.2).1 < 41:=hx
    generalize dr s 41 z.2=x at hx hst2 ⊢
    try dsimp only at hst2
    repeat' (first|refine go ?_|refine HF a1 F8 ?_|(apply aZ;refine aY ?_)|(apply aQ;first|refine HG a1 0 HD ?_|refine HG a1 1 HD ?_|refine HG a1 2 HD ?_|refine HG a1 3 HD ?_|fail)|refine bl a1 fun _=>?_|fail)
    refine bW (aJ (List.perm_middle (l₁:=[_,_])).symm) ?_
    refine ay rfl (fun h0=>?_) (fun h0=>?_)
    ·have h0:¬p=0:=by have:=Hy h0;omega
     rw [if_neg h0] at hst2
     repeat' (first|refine go ?_|refine HF a1 F8 ?_)
     refine cD ?_
     have hy:=cn s hs x.2.a (n:=41) (by omega)
     have hy:0≤(dr s 41 x.2).1∧(dr s 41 x.2).1 < 41:=hy
     generalize dr s 41 x.2=y at hy hst2 ⊢
     try dsimp only [cC] at hst2
     repeat' (first|refine go ?_|refine HF a1 F8 ?_|(apply bh;first|refine HJ a1 0 HC ?_|refine HJ a1 1 HC ?_|refine HJ a1 2 HC ?_|refine HJ a1 3 HC ?_|refine HK a1 0 HC ?_|refine HK a1 1 HC ?_|refine HK a1 2 HC ?_|refine HM a1 1 HA (by assumption) rfl ?_|refine HM a1 0 HA (by assumption) rfl ?_|fail)|(apply aZ;refine aY ?_)|(apply aQ;first|refine HG a1 0 HD ?_|refine HG a1 1 HD ?_|refine HG a1 2 HD ?_|refine HG a1 3 HD ?_|fail)|refine bI a1 ?_|fail)
     refine cj a1 _ rfl rfl rfl rfl (eF (A:=[_,_,_])) (by simp;omega) (by simp;omega) rfl fun q'=>?_
     refine aV (aJ (eF (A:=[_,_,_])).symm) ?_
     repeat' (first|refine go ?_|refine HF a1 F8 ?_|(apply aZ;refine aY ?_)|(apply aQ;first|refine HG a1 0 HD ?_|refine HG a1 1 HD ?_|refine HG a1 2 HD ?_|refine HG a1 3 HD ?_|fail))
     exact aF (p+1,q') rfl ⟨by dsimp only;rw [show ((p+1:Nat):Int) - 1=(p:Int) - 1+1 by omega];rfl,trivial⟩ (by dsimp only;omega) (by dsimp only;omega) (fun _ _ h=>by dsimp only;rw [hst2];dsimp only;rw [List.map_append];exact h.sublist (List.Sublist.cons_cons _ (List.Sublist.cons_cons _ (List.sublist_cons_self ..))))
    ·have h0:p=0:=by have:=Hx h0;omega
     rw [if_pos h0] at hst2
     try dsimp only [cC] at hst2
     repeat' (first|refine go ?_|refine HF a1 F8 ?_|(apply bh;first|refine HJ a1 0 HC ?_|refine HJ a1 1 HC ?_|refine HJ a1 2 HC ?_|refine HJ a1 3 HC ?_|refine HK a1 0 HC ?_|refine HK a1 1 HC ?_|refine HK a1 2 HC ?_|refine HM a1 1 HA (by assumption) rfl ?_|refine HM a1 0 HA (by assumption) rfl ?_|fail)|refine bI a1 ?_|fail)
     refine cj a1 _ rfl rfl rfl rfl (eF (A:=[_,_,_])) (by simp;omega) (by simp;omega) rfl fun q'=>?_
     refine aV (aJ (eF (A:=[_,_,_])).symm) ?_
     repeat' (first|refine go ?_|refine HF a1 F8 ?_|(apply aZ;refine aY ?_)|(apply aQ;first|refine HG a1 0 HD ?_|refine HG a1 1 HD ?_|refine HG a1 2 HD ?_|refine HG a1 3 HD ?_|fail))
     subst h0
     exact aF (0+1,q') rfl ⟨rfl,trivial⟩ (by dsimp only;omega) (by dsimp only;omega) (fun _ _ h=>by dsimp only;rw [hst2];dsimp only;rw [List.map_append];exact h.sublist (List.Sublist.cons_cons _ (List.Sublist.cons_cons _ (List.sublist_cons_self ..))))
   ·rw [if_neg (Hx hz)] at hst2
    try dsimp only [cC] at hst2
    repeat' (first|refine go ?_|refine HF a1 F8 ?_|(apply aZ;refine aY ?_)|fail)
    exact aF (p+1,q) rfl ⟨by dsimp only;rw [show ((p+1:Nat):Int) - 1=(p:Int) - 1+1 by omega];rfl,trivial⟩ (by dsimp only;omega) (by dsimp only;omega) (fun _ _ h=>by dsimp only;rw [hst2];exact h)
  have hpp:p=o.1.1.length+1:=by have:=Hx h;rw [hpl] at this;omega
  subst hpp
  repeat' (first|refine go ?_|refine HF a1 F8 ?_|(apply aZ;refine aY ?_)|fail)
  exact aF (r+1,q) rfl ⟨by rw [Hv];rfl,trivial⟩ (by dsimp only;omega) (by dsimp only;omega) (fun _ _ h=>by dsimp only;rw [hstep];exact h)
 have hrl:r=R:=by have:=Hx h;omega
 subst hrl
 clear hstep hdl
 generalize e7:g7 s o.1.1.length r an.2=de
 repeat' (first|refine go ?_|refine HF a1 F8 ?_|(apply aQ;first|refine HG a1 0 HD ?_|refine HG a1 1 HD ?_|refine HG a1 2 HD ?_|refine HG a1 3 HD ?_|fail))
 refine bW (aJ (L':=[dS b s F (gO 2 de.2).2,(gb,.box (kO (cL n) (100+ad.1 * 50) mb o.1 (.imm 3 (ps.1.map dW)) (.imm 4 (an.1.map d9)) (.vec q 4 (de.1.map dY)) bP) 64)]++(tok q 212 4 (de.1.map dY).length++(tok kg 64 9 gl.length++[]))) (Ho _)) ?_
 refine bW (bE 1 rfl fun σ vs h=>cr (k:=7) (c':= .imm 4 (de.1.map dY)) h rfl fun v hv=>VR.im hv) ?_
 refine bW (cb (L':=[dS b s F (gO 2 de.2).2,(gb,.box (kO (cL n) (100+ad.1 * 50) mb o.1 (.imm 3 (ps.1.map dW)) (.imm 4 (an.1.map d9)) (.imm 4 (de.1.map dY)) bP) 64)]++(tok kg 64 9 gl.length++[])) (List.Sublist.cons_cons _ (List.Sublist.cons_cons _ (List.sublist_append_right _ _)))) ?_
 generalize e8:(gO 2 de.2).2=w
 refine bj 11 [(0,.v),(1,.v),(2,.v),(3,.l),(4,.v),(5,.v),(6,.v),(7,.v),(8,.v),(9,.l),(10,.v)] none ?_ trivial rfl (by kernel_rfl) (by kernel_rfl) (by kernel_rfl) mixed (by kernel_rfl) rfl
 repeat' (first|refine aE ?_|refine ba a1 ?_|refine bX a1 0 rfl rfl rfl rfl (by first|trivial|rfl) ?_|refine bX a1 1 rfl rfl rfl rfl (by first|trivial|rfl) ?_)
 rw [hfu]
 repeat' (first|refine ba a1 ?_|fail)
 rw [hfn,hpl]
 refine HR [0,4,143,147,153] F8 ?_
 refine ua (ru s hs F (n:=o.1.1.length) (fn:=fn) (most:=6) (by omega) (by omega) (by omega)) ?_
 generalize e9:mL s o.1.1.length fn 6 w=hi
 unfold ji
 repeat' (first|refine go ?_|refine HF a1 F8 ?_|(apply aQ;first|refine HG a1 0 HD ?_|refine HG a1 1 HD ?_|refine HG a1 2 HD ?_|refine HG a1 3 HD ?_|fail))
 refine bW (aJ (L':=[dS b s F hi.2,(gb,.box (kO (cL n) (100+ad.1 * 50) mb o.1 (.imm 3 (ps.1.map dW)) (.imm 4 (an.1.map d9)) (.imm 4 (de.1.map dY)) (.imm 2 (hi.1.map eU))) 64)]++(tok kg 64 9 gl.length++[])) (Ho _)) ?_
 refine bj 9 [(0,.v),(1,.v),(2,.v),(3,.v),(4,.v),(5,.l),(6,.l),(7,.v),(8,.e)] none ?_ trivial rfl (by kernel_rfl) (by kernel_rfl) (by kernel_rfl) mixed (by kernel_rfl) rfl
 repeat' (first|refine aE ?_|refine ba a1 ?_|refine ek a1 ?_|refine bX a1 0 rfl rfl rfl rfl (by first|trivial|rfl) ?_|refine wO a1 1 rfl rfl rfl rfl (by first|trivial|rfl) ?_)
 rw [hF]
 refine fZ a1 _ rfl rfl rfl rfl (eF (A:=[_,_])) (by simp;omega) (by simp;omega) (by first | trivial | rfl) fun q'=>?_
 refine HR [156,164] F8 ?_
 refine aV (aJ (eF (A:=[_,_])).symm) ?_
 repeat' (first|refine go ?_|refine HF a1 F8 ?_|(apply aQ;first|refine HG a1 0 HD ?_|refine HG a1 1 HD ?_|refine HG a1 2 HD ?_|refine HG a1 3 HD ?_|fail))
 have hv:jO s r fn n m=(⟨cL n,100+ad.1 * 50,mb,o.1.1,o.1.2,ps.1,an.1,de.1,hi.1⟩,hi.2):=by
  unfold jO c7
  rw [e1]
  try dsimp only
  rw [e2]
  try dsimp only
  rw [e3]
  try dsimp only
  rw [e4]
  try dsimp only
  rw [e5,hmk]
  try dsimp only
  rw [e6]
  try dsimp only
  rw [e7]
  try dsimp only
  rw [e8,e9]
  rfl
 rw [hv]
 exact bk (cb (L':=[dS b s (C1 F (.vec q' 9 (gl++[bS ⟨cL n,100+ad.1 * 50,mb,o.1.1,o.1.2,ps.1,an.1,de.1,hi.1⟩]))) hi.2]++(tok q' 64 9 (gl++[bS ⟨cL n,100+ad.1 * 50,mb,o.1.1,o.1.2,ps.1,an.1,de.1,hi.1⟩]).length++[])) (List.Sublist.cons_cons _ (List.sublist_cons_self ..))) (ce rfl ⟨q',rfl⟩)
end Go.Proofs.YtpbinloeemebkaaGreat
