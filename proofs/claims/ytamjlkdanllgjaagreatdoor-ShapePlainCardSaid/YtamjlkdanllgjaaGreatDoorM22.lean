/-
  The maker: glyphs.
-/
import Derived.Test.YtamjlkdanllgjaaGreatDoorM21
namespace Go.Proofs.YtamjlkdanllgjaaGreatDoor
open Go.RowKit
attribute [local irreducible] AT bB AX AO Av Kt ba dt DA cz
set_option maxRecDepth 8000
variable (s:List Int) (hs:s.length≤1000000) (F:MF)
theorem zi (a c:UInt8):(⟨#[a]⟩:ByteArray)++(⟨#[c]⟩:ByteArray)=bytes [a,c]:=by
 apply ByteArray.ext
 simp [bytes]
theorem zj (a b c:UInt8):(⟨#[a,b]⟩:ByteArray)++(⟨#[c]⟩:ByteArray)=bytes [a,b,c]:=by
 apply ByteArray.ext
 simp [bytes]
theorem Ju {z:Int} (h:0≤z∧z < 256):IntKind.wrap .u8 z=z:=by
 unfold IntKind.wrap
 simp [IntKind.signed,IntKind.bits]
 try omega
theorem v8 (n:Nat) (h:n < 100):IntKind.wrap .u8 (97+(n:Int))=97+(n:Int):=Ju (by omega)
theorem yj (n:Nat) (h:n < 100):UInt8.ofNat (97+(n:Int)).toNat=(97+n).toUInt8:=by
 rw [show ((97+(n:Int))).toNat=97+n by omega]
theorem Jb {a c:Nat×AB} {T:AL}:(a::(T++[])++[c]).Perm ([a,c]++(T++[])):=List.Perm.cons a (List.perm_append_comm (l₁:=T++[]))
def kO (nm:ByteArray) (ad:Int) (mk:Bool) (o:List eH×List Int) (ps an de hi:AV):List AV:=[rE nm,aH ad,cQ mk,.imm 3 (o.1.map dw),.imm 1 (aO o.2),ps,an,de,hi]
theorem z2 (mark:Bool) (cl:Int) (m:MS) (k:Nat):(eS s mark cl k m).1.length≤k:=by
 refine (bU.runs (fun i (l:List dA)=>l.length≤i) k (Nat.le_refl _) fun i l _ h=>(bU.any _).bnd fun z _=>bU.ite (fun _=>(bU.any _).bnd fun x _=>(bU.any _).bnd fun y _=>bU.ret (by simp;omega)) fun _=>bU.ret (by omega)) m
theorem wE (r:Nat) (l:List dG) (m:MS) (k:Nat):(hQ s r l k m).1.length≤l.length+k:=by
 refine (bU.runs (fun i (q:List dG)=>q.length≤l.length+i) k (Nat.le_refl _) fun i q _ h=>(bU.any _).bnd fun z _=>bU.ite (fun _=>(bU.any _).bnd fun x _=>bU.ite (fun _=>bU.ret (by simp;omega)) fun _=>(bU.any _).bnd fun y _=>bU.ret (by simp;omega)) fun _=>bU.ret (by omega)) m
def kC (cl:Int):List (List AV):=(fV cl).map fun p=>[aH p.1,aH p.2]
abbrev E7 (F:MF) (v:AV):MF:={ F with gl:=v }
include hs
set_option maxHeartbeats 16000000 in
theorem Cm {kg:Option (Nat×Nat)} {gl rg fu:List (List AV)} (hF:F.gl= .vec kg 9 gl) (hrg:F.rg= .imm 1 rg) (hfu:F.fu= .imm 1 fu) (R fn n:Nat) (hR:rg.length=R) (hfn:fu.length=fn) (hg:gl.length≤1000) (hRl:R≤1000) (hfl:fn≤1000) (hn:n < 100) (b:Nat) (m:MS):AC Tryz.prog 53 [Ef b,aH n] ([dU b s F m]++(tok kg 67 9 gl.length++[])) fun _ L=>∃kg',L=[dU b s (E7 F (.vec kg' 9 (gl++[bj (jV s R fn n m).1]))) (jV s R fn n m).2]++(tok kg' 67 9 (gl++[bj (jV s R fn n m).1]).length++[]):=by
 refine aP Tryz.func53 rfl Tryz.ntmps53 rfl fun B=>?_
 repeat' (first|refine ae ?_)
 refine bI 15 [(0,.v),(1,.v),(2,.v),(3,.v),(4,.v),(5,.v),(6,.v),(10,.v),(7,.e),(8,.v),(9,.v),(11,.e),(12,.v),(13,.v)] (some (14,.box _ 67)) ?_ ⟨_,rfl,rfl,fun _ _ _=>pK (ew a7 rfl) rfl⟩ rfl (by kernel_rfl) (by kernel_rfl) (by kernel_rfl) mixed (by kernel_rfl) rfl
 repeat' (first|refine aF ?_|refine b9 a7 ?_|(apply eA;refine fX ?_)|fail)
 refine C4 a7 ?_
 rw [v8 n hn]
 repeat' (first|refine aF ?_|refine dX a7 ?_|fail)
 refine xX a7 ?_
 rw [yj n hn]
 repeat' (first|refine aF ?_|fail)
 refine Gk (hs:=Nat.le_of_ble_eq_true rfl) ?_
 rw [zi]
 repeat' (first|refine aF ?_|refine b9 a7 ?_|fail)
 refine tl ?_
 have had:=ck s hs m.a (n:=19) (by omega)
 have had:0≤(dr s 19 m).1∧(dr s 19 m).1 < 19:=had
 generalize e1:dr s 19 m=ad at had ⊢
 repeat' (first|refine aF ?_|(apply eA;refine fX ?_)|fail)
 refine tl ?_
 generalize e2:dr s 4 ad.2=mk
 repeat' (first|refine aF ?_|refine b9 a7 ?_|fail)
 refine xY [0,1,4,23] (fun _=>_) (fun _=>rfl) rfl fun _=>?_
 rename_i gb
 refine aS (aR (L':=[dU b s F mk.2,(gb,.box [.sc (.string ⟨#[]⟩),aH 0,cQ false,bQ,bQ,bQ,bQ,bQ,bQ] 67)]++(tok kg 67 9 gl.length++[])) Jb) ?_
 repeat' (first|refine ae ?_|refine a6 ?_|refine a8 ?_|refine aa ?_|refine LF a7 I9 ?_|(apply aK;first|refine LG a7 0 LD ?_|refine LG a7 1 LD ?_|refine LG a7 2 LD ?_|refine LG a7 3 LD ?_|fail))
 refine td [0,1,4] ([dU b s F mk.2,(gb,.box [rE (cH n),aH (100+ad.1 * 50),cQ (decide (mk.1=0) && decide (n≠0)),bQ,bQ,.vec none 3 [],.vec none 4 [],.vec none 4 [],bQ] 67)]++(tok kg 67 9 gl.length++[])) rfl (fun Q' K=>?_) ?_
 ·refine ay rfl (fun h=>?_) (fun h=>?_)
  ·have h:n=0:=by have:=Ly h;omega
   have hm:(decide (mk.1=0) && decide (n≠0))=false:=by simp [h]
   have hgn:cH n=D8:=if_pos h
   rw [hm,hgn] at K
   repeat' (first|refine ae ?_|refine a6 ?_|refine a8 ?_|refine aa ?_|refine LF a7 I9 ?_|(apply aK;first|refine LG a7 0 LD ?_|refine LG a7 1 LD ?_|refine LG a7 2 LD ?_|refine LG a7 3 LD ?_|fail))
   refine b6 (bq 1 rfl fun σ vs h=>cr (k:=5) (c':= .vec none 3 []) (cr (k:=6) (c':= .vec none 4 []) (cr (k:=7) (c':= .vec none 4 []) h rfl fun v hv=>cC 4 hv) rfl fun v hv=>cC 4 hv) rfl fun v hv=>cC 3 hv) ?_
   exact K _ rfl
  ·have h:¬n=0:=by have:=Lw h;omega
   have hm:(decide (mk.1=0) && decide (n≠0))=decide (mk.1=0):=by simp [h]
   have hgn:cH n=j4 Km n:=if_neg h
   rw [hm,hgn] at K
   repeat' (first|refine au ?_)
   refine b6 (bq 1 rfl fun σ vs h=>cr (k:=5) (c':= .vec none 3 []) (cr (k:=6) (c':= .vec none 4 []) (cr (k:=7) (c':= .vec none 4 []) h rfl fun v hv=>cC 4 hv) rfl fun v hv=>cC 4 hv) rfl fun v hv=>cC 3 hv) ?_
   exact K _ rfl
 generalize hmk:(decide (mk.1=0) && decide (n≠0))=mb
 repeat' (first|refine ae ?_|refine a6 ?_|refine LF a7 I9 ?_)
 refine vm (tU s hs F) ?_
 have ho:=oM s mk.2
 generalize e3:jx s mk.2=o at ho ⊢
 obtain ⟨ko,hko,hoo⟩:=ho
 have hol:=hoo.len
 unfold J8
 refine LF a7 I9 ?_
 (apply aK;refine LG a7 1 LD ?_)
 refine aa ?_
 refine a8 ?_
 refine ae ?_
 refine td [0,4] ([dU b s F (iJ s n o.2).2,(gb,.box (kO (cH n) (100+ad.1 * 50) mb o.1 (.imm 3 ((iJ s n o.2).1.map er)) (.vec none 4 []) (.vec none 4 []) bQ) 67)]++(tok kg 67 9 gl.length++[])) rfl (fun Q' K=>?_) ?_
 ·repeat' (first|refine ae ?_|refine a6 ?_|refine LF a7 I9 ?_)
  by_cases hn1:1 < n
  ·rw [decide_eq_true (show (1:Int) < (n:Int) by omega)]
   repeat' (first|refine LF a7 I9 ?_|refine LN I9 ?_)
   refine cy ?_
   generalize e4:dr s 4 o.2=z
   repeat' (first|refine a8 ?_|refine aa ?_|refine LF a7 I9 ?_|refine LN I9 ?_)
   refine ay rfl (fun h=>?_) (fun h=>?_)
   ·have h:=Ly h
    repeat' (first|fail)
    refine dv [.cell (gb,5,.vec none 3 [])] 11 [(0,.v),(1,.k),(2,.v),(6,.v),(3,.f),(4,.v),(5,.v),(7,.f),(8,.v),(9,.v),(10,.v)] none ?_ trivial rfl (by kernel_rfl) (by kernel_rfl) (by kernel_rfl) mixed (by kernel_rfl) rfl
    repeat' (first|refine aF ?_|refine b9 a7 ?_|fail)
    refine dH a7 0 rfl rfl rfl (bJ 1 rfl rfl bW) (by first | trivial | rfl) ?_
    repeat' (first|refine aF ?_|refine b9 a7 ?_|fail)
    refine eJ (bJ 1 rfl rfl bW) ?_
    have hx:=ck s hs z.2.a (n:=9) (by omega)
    have hx:0≤(dr s 9 z.2).1∧(dr s 9 z.2).1 < 9:=hx
    generalize e5:dr s 9 z.2=x at hx ⊢
    repeat' (first|refine aF ?_|(apply eA;refine fX ?_)|fail)
    refine eJ (bJ 1 rfl rfl bW) ?_
    have hy:=ck s hs x.2.a (n:=5) (by omega)
    have hy:0≤(dr s 5 x.2).1∧(dr s 5 x.2).1 < 5:=hy
    generalize e6:dr s 5 x.2=y at hy ⊢
    repeat' (first|refine aF ?_|refine b9 a7 ?_|(apply eA;refine fX ?_)|refine dX a7 ?_|fail)
    refine LP [0,4,39,48] I9 ?_
    repeat' (first|fail)
    refine bP a7 _ rfl rfl rfl rfl (Ll _) (by simp) (by simp) rfl fun q'=>?_
    refine aS (bX (List.sublist_append_right _ _)) ?_
    repeat' (first|refine aa ?_|refine LF a7 I9 ?_|(apply aK;first|refine LG a7 0 LD ?_|refine LG a7 1 LD ?_|refine LG a7 2 LD ?_|refine LG a7 3 LD ?_|fail))
    have hv:iJ s n o.2=([⟨1,x.1 * 50 - 200,y.1 * 50⟩],y.2):=by simp [iJ,bZ,cx,hn1,e4,e5,e6,h]
    rw [hv] at K
    refine b6 (bq 1 rfl fun σ vs h=>cr (k:=5) (c':= .imm 3 ([(⟨1,x.1 * 50 - 200,y.1 * 50⟩:dL)].map er)) h rfl fun v hv=>VR.im hv) ?_
    exact K _ rfl
   ·have h:=Lw h
    repeat' (first|refine au ?_)
    have hv:iJ s n o.2=([],z.2):=by simp [iJ,bZ,cx,hn1,e4,h]
    rw [hv] at K
    refine b6 (bq 1 rfl fun σ vs h=>cr (k:=5) (c':= .imm 3 []) h rfl fun v hv=>VR.im hv) ?_
    exact K _ rfl
  ·rw [decide_eq_false (show ¬(1:Int) < (n:Int) by omega)]
   repeat' (first|refine au ?_|refine a8 ?_|refine aa ?_|refine LF a7 I9 ?_|refine LO LB ?_|refine bk rfl ?_)
   have hv:iJ s n o.2=([],o.2):=by simp [iJ,cx,hn1]
   rw [hv] at K
   refine b6 (bq 1 rfl fun σ vs h=>cr (k:=5) (c':= .imm 3 []) h rfl fun v hv=>VR.im hv) ?_
   exact K _ rfl
 generalize e4:iJ s n o.2=ps
 repeat' (first|refine ae ?_|refine a6 ?_|refine LF a7 I9 ?_)
 refine cy ?_
 have hcl:=ck s hs ps.2.a (n:=2) (by omega)
 have hcl:0≤(dr s 2 ps.2).1∧(dr s 2 ps.2).1 < 2:=hcl
 generalize e5:dr s 2 ps.2=cl at hcl ⊢
 repeat' (first|refine ae ?_|refine a6 ?_|refine am ?_|refine a8 ?_|refine aa ?_|refine LF a7 I9 ?_|refine bS a7 ?_|fail)
 refine aJ [0,4,5] (α:=Nat×Option (Nat×Nat)) (fun x=>[(6,aH x.1),(5,.imm 2 (kC cl.1))]) (fun x=>x.1≤5) (fun x=>[dU b s F (eS s mb cl.1 x.1 cl.2).2,(gb,.box (kO (cH n) (100+ad.1 * 50) mb o.1 (.imm 3 (ps.1.map er)) (.vec x.2 4 ((eS s mb cl.1 x.1 cl.2).1.map cY)) (.vec none 4 []) bQ) 67)]++(tok x.2 180 4 ((eS s mb cl.1 x.1 cl.2).1.map cY).length++(tok kg 67 9 gl.length++[]))) (fun x=>5 - x.1) (0,none) rfl ⟨rfl,rfl,trivial⟩ (Nat.zero_le _) (fun _ _ h=>h) ?_
 rintro ⟨i,q⟩ hi
 dsimp only at hi ⊢
 have hal:=z2 s mb cl.1 cl.2 i
 have hstep:eS s mb cl.1 (i+1) cl.2=(bZ (dr s 3) fun z=>if z=0∧(((fV cl.1).getD i (0,0)).1≠2∨mb=true) then bZ (dr s 21) fun x=>bZ (dr s 21) fun y=>cx ((eS s mb cl.1 i cl.2).1++[(⟨((fV cl.1).getD i (0,0)).1,((fV cl.1).getD i (0,0)).2,x * 50,y * 50 - 200⟩:dA)]) else cx (eS s mb cl.1 i cl.2).1) (eS s mb cl.1 i cl.2).2:=rfl
 try dsimp only [Lp,Lo,Ln,Lh]
 repeat' (first|refine ae ?_|refine a6 ?_|refine a8 ?_|refine aa ?_|refine LF a7 I9 ?_)
 refine ay rfl (fun h=>?_) (fun h=>?_)
 ·have hil:i < 5:=by have:=Ly h;omega
  have hka:(kC cl.1)[i]?=some [aH ((fV cl.1).getD i (0,0)).1,aH ((fV cl.1).getD i (0,0)).2]:=by
   unfold kC
   rw [List.getElem?_map,uq hil]
   rfl
  generalize eS s mb cl.1 i cl.2=st at hal hstep ⊢
  have halm:(st.1.map cY).length=st.1.length:=Lr ..
  generalize (fV cl.1).getD i (0,0)=pr at hka hstep
  repeat' (first|refine ae ?_|refine a6 ?_|refine am ?_|refine au ?_|refine a8 ?_|refine LF a7 I9 ?_)
  refine cy ?_
  unfold bZ at hstep
  generalize dr s 3 st.2=z at hstep ⊢
  dsimp only at hstep
  repeat' (first|refine LF a7 I9 ?_)
  refine dx (t:=77) [0,4,5,6] (z.1=0∧(pr.1≠2∨mb=true)) rfl (fun Q' K=>?_) ?_
  ·by_cases hz:z.1=0
   ·rw [decide_eq_true hz]
    repeat' (first|refine LF a7 I9 ?_|refine LN I9 ?_|(apply aU;first|refine aT a7 ?_|refine aN a7 ?_)|fail)
    refine Gu a7 0 ?_
    repeat' (first|refine LF a7 I9 ?_|refine LN I9 ?_)
    by_cases h2:pr.1≠2
    ·rw [decide_eq_true h2]
     repeat' (first|refine aa ?_|refine LF a7 I9 ?_|refine LN I9 ?_|refine LO LB ?_)
     exact K _ _ rfl rfl (by simp [hz,h2])
    ·rw [decide_eq_false h2]
     repeat' (first|refine aa ?_|refine LF a7 I9 ?_|refine LN I9 ?_|(apply bL;first|refine LI a7 0 LC ?_|refine LI a7 1 LC ?_|refine LI a7 2 LC ?_|refine LI a7 3 LC ?_|refine LJ a7 0 LC ?_|refine LJ a7 1 LC ?_|refine LJ a7 2 LC ?_|refine LL a7 1 LA (by assumption) rfl ?_|refine LL a7 0 LA (by assumption) rfl ?_|fail)|fail)
     exact K _ _ rfl rfl (by simp only [ne_eq,Decidable.not_not] at h2;simp [hz,h2])
   ·rw [decide_eq_false hz]
    repeat' (first|refine aa ?_|refine LF a7 I9 ?_|refine LO LB ?_|refine dk rfl rfl rfl ?_)
    exact K _ _ rfl rfl (by simp [hz])
  repeat' (first|refine a8 ?_)
  refine ay rfl (fun h=>?_) (fun h=>?_)
  ·have h:=Ly h
   rw [if_pos h] at hstep
   repeat' (first|fail)
   refine dv [.cell (gb,6,.vec q 4 (st.1.map cY))] 21 [(0,.v),(1,.k),(2,.v),(3,.v),(4,.v),(5,.v),(6,.v),(7,.v),(8,.v),(9,.v),(10,.v),(11,.v),(12,.v),(15,.v),(13,.f),(14,.v),(16,.f),(17,.v),(18,.v),(19,.v),(20,.v)] none ?_ trivial rfl (by kernel_rfl) (by kernel_rfl) (by kernel_rfl) mixed (by kernel_rfl) rfl
   repeat' (first|refine aF ?_|refine b9 a7 ?_|fail)
   refine dH a7 0 rfl rfl rfl (bJ 1 rfl rfl bW) (by first | trivial | rfl) ?_
   repeat' (first|refine aF ?_|refine b9 a7 ?_|(apply cE;refine d5 a7 ?_)|fail)
   refine Gj a7 0 ?_
   repeat' (first|refine aF ?_|refine b9 a7 ?_|(apply cE;refine d5 a7 ?_)|fail)
   refine Gj a7 1 ?_
   repeat' (first|refine aF ?_|refine b9 a7 ?_|fail)
   refine eJ (bJ 1 rfl rfl bW) ?_
   have hx:=ck s hs z.2.a (n:=21) (by omega)
   have hx:0≤(dr s 21 z.2).1∧(dr s 21 z.2).1 < 21:=hx
   generalize dr s 21 z.2=x at hx hstep ⊢
   try dsimp only at hstep
   repeat' (first|refine aF ?_|(apply eA;refine fX ?_)|fail)
   refine eJ (bJ 1 rfl rfl bW) ?_
   have hy:=ck s hs x.2.a (n:=21) (by omega)
   have hy:0≤(dr s 21 x.2).1∧(dr s 21 x.2).1 < 21:=hy
   generalize dr s 21 x.2=y at hy hstep ⊢
   try dsimp only [cx] at hstep
   repeat' (first|refine aF ?_|refine b9 a7 ?_|(apply eA;refine fX ?_)|refine dX a7 ?_|fail)
   refine LP [0,4,5,6,79,98] I9 ?_
   repeat' (first|fail)
   refine bP a7 _ rfl rfl rfl rfl (eL (A:=[_,_])) (by simp;omega) (by simp;omega) rfl fun q'=>?_
   refine aS (aR (eL (A:=[_,_])).symm) ?_
   repeat' (first|refine a6 ?_|refine a8 ?_|refine aM ?_|refine aa ?_|refine LF a7 I9 ?_|(apply aY;refine aX ?_)|(apply aK;first|refine LG a7 0 LD ?_|refine LG a7 1 LD ?_|refine LG a7 2 LD ?_|refine LG a7 3 LD ?_|fail))
   exact aE (i+1,q') rfl ⟨by rw [Ls];rfl,rfl,trivial⟩ (by dsimp only;omega) (by dsimp only;omega) (fun _ _ h=>by dsimp only;rw [hstep];dsimp only;rw [List.map_append];exact h)
  ·have h:=Lw h
   rw [if_neg h] at hstep
   dsimp only [cx] at hstep
   repeat' (first|refine a6 ?_|refine au ?_|refine a8 ?_|refine aM ?_|refine aa ?_|refine LF a7 I9 ?_|(apply aY;refine aX ?_)|fail)
   exact aE (i+1,q) rfl ⟨by rw [Ls];rfl,rfl,trivial⟩ (by dsimp only;omega) (by dsimp only;omega) (fun _ _ h=>by dsimp only;rw [hstep];exact h)
 have hil:i=5:=by have:=Lw h;omega
 subst hil
 clear hstep hal
 generalize e6:eS s mb cl.1 5 cl.2=an
 refine bK (bq 1 rfl fun σ vs h=>cr (k:=6) (c':= .imm 4 (an.1.map cY)) h rfl fun v hv=>VR.im hv) ?_
 refine bK (bX (L':=[dU b s F an.2,(gb,.box (kO (cH n) (100+ad.1 * 50) mb o.1 (.imm 3 (ps.1.map er)) (.imm 4 (an.1.map cY)) (.vec none 4 []) bQ) 67)]++(tok kg 67 9 gl.length++[])) (List.Sublist.cons_cons _ (List.Sublist.cons_cons _ (List.sublist_append_right _ _)))) ?_
 have hpl:(o.1.1.map dw).length=o.1.1.length:=Lr ..
 repeat' (first|refine ae ?_|refine a6 ?_|refine am ?_|refine aL ?_|refine a8 ?_|refine av ?_|refine aA ?_|refine aw ?_|refine aa ?_|refine LF a7 I9 ?_)
 refine aJ [0,4] (α:=Nat×Option (Nat×Nat)) (fun x=>[(7,aH x.1)]) (fun x=>x.1≤R) (fun x=>[dU b s F (gc s o.1.1.length x.1 an.2).2,(gb,.box (kO (cH n) (100+ad.1 * 50) mb o.1 (.imm 3 (ps.1.map er)) (.imm 4 (an.1.map cY)) (.vec x.2 4 ((gc s o.1.1.length x.1 an.2).1.map dZ)) bQ) 67)]++(tok x.2 182 4 ((gc s o.1.1.length x.1 an.2).1.map dZ).length++(tok kg 67 9 gl.length++[]))) (fun x=>R - x.1) (0,none) rfl ⟨rfl,trivial⟩ (Nat.zero_le _) (fun _ _ h=>h) ?_
 rintro ⟨r,q⟩ hr
 dsimp only at hr ⊢
 have hdl:=(ql s o.1.1.length r an.2).len
 have hdl:(gc s o.1.1.length r an.2).1.length≤11000:=Nat.le_trans hdl (Nat.le_trans (Nat.mul_le_mul (show r≤1000 by omega) (show o.1.1.length+1≤11 by omega)) (by omega))
 have hstep:gc s o.1.1.length (r+1) an.2=hQ s r (gc s o.1.1.length r an.2).1 (o.1.1.length+1) (gc s o.1.1.length r an.2).2:=rfl
 try dsimp only [Lp,Lo,Ln,Lh]
 repeat' (first|refine ae ?_|refine a6 ?_|refine LF a7 I9 ?_|(apply bL;first|refine LI a7 0 LC ?_|refine LI a7 1 LC ?_|refine LI a7 2 LC ?_|refine LI a7 3 LC ?_|refine LJ a7 0 LC ?_|refine LJ a7 1 LC ?_|refine LJ a7 2 LC ?_|refine LL a7 1 LA (by assumption) rfl ?_|refine LL a7 0 LA (by assumption) rfl ?_|fail)|fail)
 rw [hrg]
 repeat' (first|refine a8 ?_|refine aa ?_|refine LF a7 I9 ?_)
 rw [hR]
 refine ay rfl (fun h=>?_) (fun h=>?_)
 ·have hrl:r < R:=by have:=Ly h;omega
  generalize gc s o.1.1.length r an.2=D at hdl hstep ⊢
  repeat' (first|refine ae ?_|refine a6 ?_|refine am ?_|refine au ?_|refine a8 ?_|refine aa ?_|refine LF a7 I9 ?_)
  refine aJ [0,4,7] (α:=Nat×Option (Nat×Nat)) (fun x=>[(8,aH ((x.1:Int) - 1))]) (fun x=>x.1≤o.1.1.length+1) (fun x=>[dU b s F (hQ s r D.1 x.1 D.2).2,(gb,.box (kO (cH n) (100+ad.1 * 50) mb o.1 (.imm 3 (ps.1.map er)) (.imm 4 (an.1.map cY)) (.vec x.2 4 ((hQ s r D.1 x.1 D.2).1.map dZ)) bQ) 67)]++(tok x.2 182 4 ((hQ s r D.1 x.1 D.2).1.map dZ).length++(tok kg 67 9 gl.length++[]))) (fun x=>o.1.1.length+1 - x.1) (0,q) rfl ⟨rfl,trivial⟩ (Nat.zero_le _) (fun _ _ h=>h) ?_
  rintro ⟨p,q⟩ hp
  dsimp only at hp ⊢
  have hel:=wE s r D.1 D.2 p
  have hst2:hQ s r D.1 (p+1) D.2=(bZ (dr s 3) fun z=>if z=0 then bZ (dr s 41) fun x=>if p=0 then cx ((hQ s r D.1 p D.2).1++[(⟨r,-1,x - 20,0⟩:dG)]) else bZ (dr s 41) fun y=>cx ((hQ s r D.1 p D.2).1++[(⟨r,(p:Int) - 1,x - 20,y - 20⟩:dG)]) else cx (hQ s r D.1 p D.2).1) (hQ s r D.1 p D.2).2:=rfl
  try dsimp only [Lp,Lo,Ln,Lh]
  repeat' (first|refine ae ?_|refine a6 ?_|refine a8 ?_|refine aa ?_|refine LF a7 I9 ?_|(apply bL;first|refine LI a7 0 LC ?_|refine LI a7 1 LC ?_|refine LI a7 2 LC ?_|refine LI a7 3 LC ?_|refine LJ a7 0 LC ?_|refine LJ a7 1 LC ?_|refine LJ a7 2 LC ?_|refine LL a7 1 LA (by assumption) rfl ?_|refine LL a7 0 LA (by assumption) rfl ?_|fail)|fail)
  refine ay rfl (fun h=>?_) (fun h=>?_)
  ·have hpp:p < o.1.1.length+1:=by have:=Ly h;rw [hpl] at this;omega
   generalize hQ s r D.1 p D.2=E at hel hst2 ⊢
   have hElm:(E.1.map dZ).length=E.1.length:=Lr ..
   repeat' (first|refine ae ?_|refine a6 ?_|refine am ?_|refine au ?_|refine a8 ?_|refine LF a7 I9 ?_)
   refine cy ?_
   unfold bZ at hst2
   generalize dr s 3 E.2=z at hst2 ⊢
   dsimp only at hst2
   repeat' (first|refine a8 ?_|refine aa ?_|refine LF a7 I9 ?_)
   refine ay rfl (fun hz=>?_) (fun hz=>?_)
   ·rw [if_pos (Ly hz)] at hst2
    repeat' (first|refine ae ?_|refine a6 ?_|refine LF a7 I9 ?_)
    refine cy ?_
    have hx:=ck s hs z.2.a (n:=41) (by omega)
    have hx:0≤(dr s 41 z.2).1∧(dr s 41 z.2).1 < 41:=hx
    generalize dr s 41 z.2=x at hx hst2 ⊢
    try dsimp only at hst2
    repeat' (first|refine ae ?_|refine a6 ?_|refine a8 ?_|refine aa ?_|refine LF a7 I9 ?_|(apply aY;refine aX ?_)|(apply aK;first|refine LG a7 0 LD ?_|refine LG a7 1 LD ?_|refine LG a7 2 LD ?_|refine LG a7 3 LD ?_|fail)|refine bg a7 fun _=>?_|fail)
    refine bK (aR (List.perm_middle (l₁:=[_,_])).symm) ?_
    refine ay rfl (fun h0=>?_) (fun h0=>?_)
    ·have h0:¬p=0:=by have:=Ly h0;omega
     rw [if_neg h0] at hst2
     repeat' (first|refine a6 ?_|refine LF a7 I9 ?_)
     refine cy ?_
     have hy:=ck s hs x.2.a (n:=41) (by omega)
     have hy:0≤(dr s 41 x.2).1∧(dr s 41 x.2).1 < 41:=hy
     generalize dr s 41 x.2=y at hy hst2 ⊢
     try dsimp only [cx] at hst2
     repeat' (first|refine a6 ?_|refine a8 ?_|refine aa ?_|refine LF a7 I9 ?_|(apply bL;first|refine LI a7 0 LC ?_|refine LI a7 1 LC ?_|refine LI a7 2 LC ?_|refine LI a7 3 LC ?_|refine LJ a7 0 LC ?_|refine LJ a7 1 LC ?_|refine LJ a7 2 LC ?_|refine LL a7 1 LA (by assumption) rfl ?_|refine LL a7 0 LA (by assumption) rfl ?_|fail)|(apply aY;refine aX ?_)|(apply aK;first|refine LG a7 0 LD ?_|refine LG a7 1 LD ?_|refine LG a7 2 LD ?_|refine LG a7 3 LD ?_|fail)|refine bS a7 ?_|fail)
     refine bP a7 _ rfl rfl rfl rfl (eL (A:=[_,_,_])) (by simp;omega) (by simp;omega) rfl fun q'=>?_
     refine aS (aR (eL (A:=[_,_,_])).symm) ?_
     repeat' (first|refine a6 ?_|refine a8 ?_|refine aM ?_|refine aa ?_|refine LF a7 I9 ?_|(apply aY;refine aX ?_)|(apply aK;first|refine LG a7 0 LD ?_|refine LG a7 1 LD ?_|refine LG a7 2 LD ?_|refine LG a7 3 LD ?_|fail))
     exact aE (p+1,q') rfl ⟨by dsimp only;rw [show ((p+1:Nat):Int) - 1=(p:Int) - 1+1 by omega];rfl,trivial⟩ (by dsimp only;omega) (by dsimp only;omega) (fun _ _ h=>by dsimp only;rw [hst2];dsimp only;rw [List.map_append];exact h.sublist (List.Sublist.cons_cons _ (List.Sublist.cons_cons _ (List.sublist_cons_self ..))))
    ·have h0:p=0:=by have:=Lw h0;omega
     rw [if_pos h0] at hst2
     try dsimp only [cx] at hst2
     repeat' (first|refine a6 ?_|refine au ?_|refine a8 ?_|refine LF a7 I9 ?_|(apply bL;first|refine LI a7 0 LC ?_|refine LI a7 1 LC ?_|refine LI a7 2 LC ?_|refine LI a7 3 LC ?_|refine LJ a7 0 LC ?_|refine LJ a7 1 LC ?_|refine LJ a7 2 LC ?_|refine LL a7 1 LA (by assumption) rfl ?_|refine LL a7 0 LA (by assumption) rfl ?_|fail)|refine bS a7 ?_|fail)
     refine bP a7 _ rfl rfl rfl rfl (eL (A:=[_,_,_])) (by simp;omega) (by simp;omega) rfl fun q'=>?_
     refine aS (aR (eL (A:=[_,_,_])).symm) ?_
     repeat' (first|refine a6 ?_|refine a8 ?_|refine aM ?_|refine aa ?_|refine LF a7 I9 ?_|(apply aY;refine aX ?_)|(apply aK;first|refine LG a7 0 LD ?_|refine LG a7 1 LD ?_|refine LG a7 2 LD ?_|refine LG a7 3 LD ?_|fail))
     subst h0
     exact aE (0+1,q') rfl ⟨rfl,trivial⟩ (by dsimp only;omega) (by dsimp only;omega) (fun _ _ h=>by dsimp only;rw [hst2];dsimp only;rw [List.map_append];exact h.sublist (List.Sublist.cons_cons _ (List.Sublist.cons_cons _ (List.sublist_cons_self ..))))
   ·rw [if_neg (Lw hz)] at hst2
    try dsimp only [cx] at hst2
    repeat' (first|refine a6 ?_|refine au ?_|refine a8 ?_|refine aM ?_|refine aa ?_|refine LF a7 I9 ?_|(apply aY;refine aX ?_)|fail)
    exact aE (p+1,q) rfl ⟨by dsimp only;rw [show ((p+1:Nat):Int) - 1=(p:Int) - 1+1 by omega];rfl,trivial⟩ (by dsimp only;omega) (by dsimp only;omega) (fun _ _ h=>by dsimp only;rw [hst2];exact h)
  have hpp:p=o.1.1.length+1:=by have:=Lw h;rw [hpl] at this;omega
  subst hpp
  repeat' (first|refine a6 ?_|refine aL ?_|refine a8 ?_|refine av ?_|refine aM ?_|refine aA ?_|refine aw ?_|refine aa ?_|refine LF a7 I9 ?_|(apply aY;refine aX ?_)|fail)
  exact aE (r+1,q) rfl ⟨by rw [Ls];rfl,trivial⟩ (by dsimp only;omega) (by dsimp only;omega) (fun _ _ h=>by dsimp only;rw [hstep];exact h)
 have hrl:r=R:=by have:=Lw h;omega
 subst hrl
 clear hstep hdl
 generalize e7:gc s o.1.1.length r an.2=de
 repeat' (first|refine ae ?_|refine a6 ?_|refine aL ?_|refine a8 ?_|refine av ?_|refine aA ?_|refine aw ?_|refine aa ?_|refine LF a7 I9 ?_|(apply aK;first|refine LG a7 0 LD ?_|refine LG a7 1 LD ?_|refine LG a7 2 LD ?_|refine LG a7 3 LD ?_|fail))
 refine bK (aR (L':=[dU b s F (gS 2 de.2).2,(gb,.box (kO (cH n) (100+ad.1 * 50) mb o.1 (.imm 3 (ps.1.map er)) (.imm 4 (an.1.map cY)) (.vec q 4 (de.1.map dZ)) bQ) 67)]++(tok q 182 4 (de.1.map dZ).length++(tok kg 67 9 gl.length++[]))) (Ll _)) ?_
 refine bK (bq 1 rfl fun σ vs h=>cr (k:=7) (c':= .imm 4 (de.1.map dZ)) h rfl fun v hv=>VR.im hv) ?_
 refine bK (bX (L':=[dU b s F (gS 2 de.2).2,(gb,.box (kO (cH n) (100+ad.1 * 50) mb o.1 (.imm 3 (ps.1.map er)) (.imm 4 (an.1.map cY)) (.imm 4 (de.1.map dZ)) bQ) 67)]++(tok kg 67 9 gl.length++[])) (List.Sublist.cons_cons _ (List.Sublist.cons_cons _ (List.sublist_append_right _ _)))) ?_
 generalize e8:(gS 2 de.2).2=w
 refine bI 11 [(0,.v),(1,.v),(2,.v),(3,.l),(4,.v),(5,.v),(6,.v),(7,.v),(8,.v),(9,.l),(10,.v)] none ?_ trivial rfl (by kernel_rfl) (by kernel_rfl) (by kernel_rfl) mixed (by kernel_rfl) rfl
 repeat' (first|refine aF ?_|refine b9 a7 ?_|refine cS a7 0 rfl rfl rfl rfl (by first|trivial|rfl) ?_|refine cS a7 1 rfl rfl rfl rfl (by first|trivial|rfl) ?_)
 rw [hfu]
 repeat' (first|refine b9 a7 ?_|fail)
 rw [hfn,hpl]
 refine LP [0,4,143,147,153] I9 ?_
 refine vm (sC s hs F (n:=o.1.1.length) (fn:=fn) (most:=6) (by omega) (by omega) (by omega)) ?_
 generalize e9:mL s o.1.1.length fn 6 w=hi
 unfold jm
 repeat' (first|refine a8 ?_|refine aa ?_|refine LF a7 I9 ?_|(apply aK;first|refine LG a7 0 LD ?_|refine LG a7 1 LD ?_|refine LG a7 2 LD ?_|refine LG a7 3 LD ?_|fail))
 refine bK (aR (L':=[dU b s F hi.2,(gb,.box (kO (cH n) (100+ad.1 * 50) mb o.1 (.imm 3 (ps.1.map er)) (.imm 4 (an.1.map cY)) (.imm 4 (de.1.map dZ)) (.imm 2 (hi.1.map dO))) 67)]++(tok kg 67 9 gl.length++[])) (Ll _)) ?_
 refine bI 9 [(0,.v),(1,.v),(2,.v),(3,.v),(4,.v),(5,.l),(6,.l),(7,.v),(8,.e)] none ?_ trivial rfl (by kernel_rfl) (by kernel_rfl) (by kernel_rfl) mixed (by kernel_rfl) rfl
 repeat' (first|refine aF ?_|refine b9 a7 ?_|refine dX a7 ?_|refine cS a7 0 rfl rfl rfl rfl (by first|trivial|rfl) ?_|refine pk a7 1 rfl rfl rfl rfl (by first|trivial|rfl) ?_)
 rw [hF]
 refine fg a7 _ rfl rfl rfl rfl (eL (A:=[_,_])) (by simp;omega) (by simp;omega) (by first | trivial | rfl) fun q'=>?_
 refine LP [156,164] I9 ?_
 refine aS (aR (eL (A:=[_,_])).symm) ?_
 repeat' (first|refine aa ?_|refine LF a7 I9 ?_|(apply aK;first|refine LG a7 0 LD ?_|refine LG a7 1 LD ?_|refine LG a7 2 LD ?_|refine LG a7 3 LD ?_|fail))
 have hv:jV s r fn n m=(⟨cH n,100+ad.1 * 50,mb,o.1.1,o.1.2,ps.1,an.1,de.1,hi.1⟩,hi.2):=by
  unfold jV bZ
  rw [e1]
  try dsimp only
  rw [e2]
  try dsimp only
  rw [e3]
  try dsimp only
  rw [e4]
  try dsimp only
  rw [e5,hmk]
  try dsimp only
  rw [e6]
  try dsimp only
  rw [e7]
  try dsimp only
  rw [e8,e9]
  rfl
 rw [hv]
 exact b6 (bX (L':=[dU b s (E7 F (.vec q' 9 (gl++[bj ⟨cH n,100+ad.1 * 50,mb,o.1.1,o.1.2,ps.1,an.1,de.1,hi.1⟩]))) hi.2]++(tok q' 67 9 (gl++[bj ⟨cH n,100+ad.1 * 50,mb,o.1.1,o.1.2,ps.1,an.1,de.1,hi.1⟩]).length++[])) (List.Sublist.cons_cons _ (List.sublist_cons_self ..))) (cX rfl ⟨q',rfl⟩)
end Go.Proofs.YtamjlkdanllgjaaGreatDoor
