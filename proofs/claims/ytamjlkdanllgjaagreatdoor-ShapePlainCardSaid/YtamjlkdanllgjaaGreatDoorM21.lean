/-
  The maker: lookups.
-/
import Derived.Test.YtamjlkdanllgjaaGreatDoorM20
import Derived.Test.YtamjlkdanllgjaaGreatDoorM19
namespace Go.Proofs.YtamjlkdanllgjaaGreatDoor
open Go.RowKit
attribute [local irreducible] AT bB AX AO Av Kt ba dt DA cz
set_option maxRecDepth 8000
variable (s:List Int) (hs:s.length≤1000000) (F:MF)
include hs
theorem wQ (k:Nat) (m:MS):(eo s k m).1.1.length=k∧(eo s k m).1.2.length≤k:=by
 have _:=hs
 clear hs
 induction k with
 | zero=>exact ⟨rfl,Nat.le_refl _⟩
 | succ k ih=>
  have:eo s (k+1) m=(bZ (dr s 10) fun z=>bZ (dr s 3) fun y=>cx ((eo s k m).1.1++[(⟨fF.getD z.toNat 0,decide (y=0),[]⟩:b7)],if fF.getD z.toNat 0≤4 then (eo s k m).1.2++[(k:Int)] else (eo s k m).1.2)) (eo s k m).2:=rfl
  rw [this]
  simp only [bZ,cx]
  refine ⟨by simp [ih.1],?_⟩
  split
  ·simp;omega
  ·omega
theorem C9 (n:Int) (calls:List Int) (l:List b7) (k:Nat) (m:MS):(fh s n calls l k m).1.length=l.length∧∀j,k≤j→(fh s n calls l k m).1[j]?=l[j]?:=by
 have _:=hs
 clear hs
 induction k with
 | zero=>exact ⟨rfl,fun j _=>rfl⟩
 | succ k ih=>
  have:fh s n calls l (k+1) m=(match (fh s n calls l k m).1[k]? with
   | none=>cx (fh s n calls l k m).1
   | some q=>if q.Kind≥7 then cx (fh s n calls l k m).1 else bZ (dr s 3) fun c=>bZ (eY s n q.Kind calls (1+c).toNat) fun rs=>cx ((fh s n calls l k m).1.set k { q with Rules:=rs })) (fh s n calls l k m).2:=rfl
  rw [this]
  cases hq:(fh s n calls l k m).1[k]? with
  | none=>exact ⟨ih.1,fun j hj=>ih.2 j (by omega)⟩
  | some q=>
   dsimp only
   by_cases h7:q.Kind≥7
   ·rw [if_pos h7]
    exact ⟨ih.1,fun j hj=>ih.2 j (by omega)⟩
   ·rw [if_neg h7]
    simp only [bZ,cx]
    refine ⟨by rw [List.length_set];exact ih.1,fun j hj=>?_⟩
    rw [List.getElem?_set_ne (by omega)]
    exact ih.2 j (by omega)
theorem xq (n kind:Int) (calls:List Int) (k:Nat) (m:MS):(eY s n kind calls k m).1.length=k:=by
 have _:=hs
 clear hs
 induction k with
 | zero=>rfl
 | succ k ih=>
  have:eY s n kind calls (k+1) m=((eY s n kind calls k m).1++[(gx s n kind calls (eY s n kind calls k m).2).1],(gx s n kind calls (eY s n kind calls k m).2).2):=rfl
  rw [this]
  simp [ih]
abbrev gO (F:MF) (v:AV):MF:={ F with lk:=v }
set_option maxHeartbeats 16000000 in
theorem wY {kg:Option (Nat×Nat)} {gl:List (List AV)} (hF:F.gl= .vec kg 9 gl) (hl:F.lk=bQ) (n:Nat) (hn:gl.length=n) (h0:0 < n∧n≤1000) (b:Nat) (m:MS):AC Tryz.prog 54 [Ef b] [dU b s F m] fun _ L=>L=[dU b s (gO F (.imm 3 ((iF s n m).1.map bv))) (iF s n m).2]:=by
 refine aP Tryz.func54 rfl Tryz.ntmps54 rfl fun B=>?_
 repeat' (first|refine ae ?_|refine a6 ?_|refine LF a7 I9 ?_)
 refine cy ?_
 have hk:=ck s hs m.a (n:=7) (by omega)
 have hk:0≤(dr s 7 m).1∧(dr s 7 m).1 < 7:=hk
 generalize e1:dr s 7 m=p1 at hk ⊢
 obtain ⟨k,hkk⟩:∃k:Nat,p1.1=k:=⟨p1.1.toNat,by omega⟩
 rw [hkk]
 have hFF:F=gO F bQ:=by
  cases F
  simp only at hl
  rw [hl]
 rw [hFF]
 repeat' (first|refine ae ?_|refine a6 ?_|refine am ?_|refine a8 ?_|refine aa ?_|refine LF a7 I9 ?_)
 refine bK (bA (t:=3) (c':= .vec none 1 []) rfl fun σ v h=>cC 1 h) ?_
 refine aJ [0,2] (α:=Nat×Option (Nat×Nat)×Option (Nat×List AV×Nat)) (fun x=>[(4,aH x.1),(3,.vec x.2.1 1 (aO (eo s x.1 p1.2).1.2))]) (fun x=>x.1≤k∧yk x.1 0 (eo s x.1 p1.2).1.1 x.2.2) (fun x=>dU b s (gO F (zX x.1 x.2.2)) (eo s x.1 p1.2).2::(CA x.2.2++(tok x.2.1 3 1 (aO (eo s x.1 p1.2).1.2).length++[]))) (fun x=>k - x.1) (0,none,none) rfl ⟨rfl,rfl,trivial⟩ ⟨Nat.zero_le _,rfl⟩ (fun _ _ h=>by simpa [eo,gW,cx,tok,aO,CA,zX] using h) ?_
 rintro ⟨i,q,o⟩ ⟨hi,ho⟩
 dsimp only at hi ho ⊢
 have hln:=wQ s hs i p1.2
 try dsimp only [Lp,Lo,Ln,Lh]
 repeat' (first|refine ae ?_|refine a6 ?_|refine a8 ?_|refine aa ?_|refine LF a7 I9 ?_)
 refine ay rfl (fun h=>?_) (fun h=>?_)
 ·have hil:i < k:=by have:=Ly h;omega
  have hstep:eo s (i+1) p1.2=(bZ (dr s 10) fun z=>bZ (dr s 3) fun y=>cx ((eo s i p1.2).1.1++[(⟨fF.getD z.toNat 0,decide (y=0),[]⟩:b7)],if fF.getD z.toNat 0≤4 then (eo s i p1.2).1.2++[(i:Int)] else (eo s i p1.2).1.2)) (eo s i p1.2).2:=rfl
  generalize eo s i p1.2=st at hln ho hstep ⊢
  have hil2:(aO st.1.2).length=st.1.2.length:=aW _
  repeat' (first|refine ae ?_|refine a6 ?_|refine am ?_|refine au ?_|refine a8 ?_|refine LF a7 I9 ?_|refine bS a7 ?_|fail)
  refine cy ?_
  have hz:=ck s hs st.2.a (n:=10) (by omega)
  have hz:0≤(dr s 10 st.2).1∧(dr s 10 st.2).1 < 10:=hz
  unfold bZ at hstep
  generalize dr s 10 st.2=z at hz hstep ⊢
  dsimp only at hstep
  have hzk:(aO fF)[z.1.toNat]?=some [aH (fF.getD z.1.toNat 0)]:=bO (by rw [List.getD_eq_getElem?_getD,Lz (show z.1.toNat < fF.length by simp [fF];omega)];rfl)
  generalize hkd:fF.getD z.1.toNat 0=kd at hzk hstep
  repeat' (first|refine ae ?_|refine a8 ?_|refine aa ?_|refine LF a7 I9 ?_|(apply aU;first|refine aT a7 ?_|refine aN a7 ?_)|fail)
  refine dv [.cell (b,5,zX i o)] 13 [(0,.v),(1,.v),(2,.v),(3,.v),(4,.v),(5,.k),(6,.v),(7,.v),(8,.f),(9,.v),(10,.v),(11,.v),(12,.e)] none ?_ trivial rfl (by kernel_rfl) (by kernel_rfl) (by kernel_rfl) mixed (by kernel_rfl) rfl
  repeat' (first|refine aF ?_|refine b9 a7 ?_|fail)
  refine dH a7 0 rfl rfl rfl (bJ 0 rfl rfl bW) (by first | trivial | rfl) ?_
  repeat' (first|refine aF ?_|refine b9 a7 ?_|fail)
  refine eJ (bJ 0 rfl rfl bW) ?_
  generalize dr s 3 z.2=y at hstep ⊢
  repeat' (first|refine aF ?_|refine b9 a7 ?_|refine dX a7 ?_|fail)
  have hst1:st.1.1.length=i:=hln.1
  rcases o with _ | ⟨ob,ocs,ocap⟩
  ·have hi0:i=0:=ho
   subst hi0
   refine wB a7 rfl rfl rfl rfl rfl rfl rfl (by first | trivial | rfl) fun b' cs' cap' h1 h2 h3 h4=>?_
   have hrow:yk (0+1) 0 (st.1.1++[⟨kd,decide (y.1=0),[]⟩]) (some (b',cs',cap')):=by
    refine ⟨h1,by omega,h4,?_⟩
    rw [List.eq_nil_of_length_eq_zero (by omega:st.1.1.length=0)]
    exact h2
   refine LP [0,2,3,4,5,21,33] I9 ?_
   refine aS (aR (L':=dU b s (gO F (zX 0 none)) y.2::(CA (some (b',cs',cap'))++(tok q 3 1 (aO st.1.2).length++[]))) (List.Perm.swap _ _ _)) ?_
   repeat' (first|refine ae ?_|refine a6 ?_|refine a8 ?_|refine aa ?_|refine LF a7 I9 ?_|(apply aK;first|refine LG a7 0 LD ?_|refine LG a7 1 LD ?_|refine LG a7 2 LD ?_|refine LG a7 3 LD ?_|fail))
   refine ay rfl (fun hk4=>?_) (fun hk4=>?_)
   ·rw [if_pos (Ly hk4)] at hstep
    dsimp only [cx] at hstep
    repeat' (first|refine a6 ?_|refine LF a7 I9 ?_|refine bS a7 ?_|fail)
    refine bP a7 _ rfl rfl rfl rfl (eL (A:=[_,_])) (by simp [aW];omega) (by simp [aW];omega) rfl fun q'=>?_
    refine aS (aR (eL (A:=[_,_])).symm) ?_
    repeat' (first|refine a6 ?_|refine a8 ?_|refine aM ?_|refine aa ?_|refine LF a7 I9 ?_|(apply aY;refine aX ?_)|fail)
    exact aE (0+1,q',some (b',cs',cap')) rfl ⟨rfl,by rw [hstep];dsimp only;rw [show aO (st.1.2++[((0:Nat):Int)])=aO st.1.2++[[aH ((0:Nat):Int)]] from List.map_append ..];rfl,trivial⟩ ⟨by dsimp only;omega,by rw [hstep];exact hrow⟩ (by dsimp only;omega) (fun _ _ h=>by dsimp only;rw [hstep];dsimp only;rw [show aO (st.1.2++[((0:Nat):Int)])=aO st.1.2++[[aH ((0:Nat):Int)]] from List.map_append ..];exact h)
   ·rw [if_neg (Lw hk4)] at hstep
    dsimp only [cx] at hstep
    repeat' (first|refine a6 ?_|refine au ?_|refine a8 ?_|refine aM ?_|refine aa ?_|refine LF a7 I9 ?_|(apply aY;refine aX ?_)|fail)
    exact aE (0+1,q,some (b',cs',cap')) rfl ⟨rfl,by rw [hstep];rfl,trivial⟩ ⟨by dsimp only;omega,by rw [hstep];exact hrow⟩ (by dsimp only;omega) (fun _ _ h=>by dsimp only;rw [hstep];exact h)
  ·obtain ⟨ho1,ho2,ho3,ho4⟩:=ho
   refine zx a7 1 rfl rfl rfl rfl rfl rfl rfl ho1 ho2 ho3 (by unfold maxLen;omega) (by omega) (by first | trivial | rfl) fun b' cs' cap' h1 h2 h3 h4=>?_
   have hrow:yk (i+1) 0 (st.1.1++[⟨kd,decide (y.1=0),[]⟩]) (some (b',cs',cap')):=by
    refine ⟨h1,h3,h4,?_⟩
    rw [h2,ho4,yl]
    rfl
   refine LP [0,2,3,4,5,21,33] I9 ?_
   refine aS (aR (L':=dU b s (gO F (zX i (some (ob,ocs,ocap)))) y.2::(CA (some (b',cs',cap'))++(tok q 3 1 (aO st.1.2).length++[]))) (List.Perm.swap _ _ _)) ?_
   repeat' (first|refine ae ?_|refine a6 ?_|refine a8 ?_|refine aa ?_|refine LF a7 I9 ?_|(apply aK;first|refine LG a7 0 LD ?_|refine LG a7 1 LD ?_|refine LG a7 2 LD ?_|refine LG a7 3 LD ?_|fail))
   refine ay rfl (fun hk4=>?_) (fun hk4=>?_)
   ·rw [if_pos (Ly hk4)] at hstep
    dsimp only [cx] at hstep
    repeat' (first|refine a6 ?_|refine LF a7 I9 ?_|refine bS a7 ?_|fail)
    refine bP a7 _ rfl rfl rfl rfl (eL (A:=[_,_])) (by simp [aW];omega) (by simp [aW];omega) rfl fun q'=>?_
    refine aS (aR (eL (A:=[_,_])).symm) ?_
    repeat' (first|refine a6 ?_|refine a8 ?_|refine aM ?_|refine aa ?_|refine LF a7 I9 ?_|(apply aY;refine aX ?_)|fail)
    exact aE (i+1,q',some (b',cs',cap')) rfl ⟨by rw [Ls];rfl,by rw [hstep];dsimp only;rw [show aO (st.1.2++[(i:Int)])=aO st.1.2++[[aH (i:Int)]] from List.map_append ..];rfl,trivial⟩ ⟨by dsimp only;omega,by rw [hstep];exact hrow⟩ (by dsimp only;omega) (fun _ _ h=>by dsimp only;rw [hstep];dsimp only;rw [show aO (st.1.2++[(i:Int)])=aO st.1.2++[[aH (i:Int)]] from List.map_append ..];exact h)
   ·rw [if_neg (Lw hk4)] at hstep
    dsimp only [cx] at hstep
    repeat' (first|refine a6 ?_|refine au ?_|refine a8 ?_|refine aM ?_|refine aa ?_|refine LF a7 I9 ?_|(apply aY;refine aX ?_)|fail)
    exact aE (i+1,q,some (b',cs',cap')) rfl ⟨by rw [Ls];rfl,by rw [hstep];rfl,trivial⟩ ⟨by dsimp only;omega,by rw [hstep];exact hrow⟩ (by dsimp only;omega) (fun _ _ h=>by dsimp only;rw [hstep];exact h)
 have hil:i=k:=by have:=Lw h;omega
 subst hil
 have hhd:=sB s i p1.2
 generalize e2:eo s i p1.2=st at hln ho hhd ⊢
 have hv:iF s n m=fh s n st.1.2 st.1.1 i st.2:=by
  unfold iF bZ
  rw [e1]
  dsimp only
  rw [hkk,Int.toNat_natCast,e2]
 rw [hv]
 have hfi:=fun j=>C9 s hs n st.1.2 st.1.1 j st.2
 repeat' (first|refine ae ?_|refine a6 ?_|refine am ?_|refine aL ?_|refine a8 ?_|refine av ?_|refine aA ?_|refine aw ?_|refine aa ?_|refine LF a7 I9 ?_)
 refine bK (bX (L':=dU b s (gO F (zX i o)) st.2::(CA o++[])) (List.Sublist.cons_cons _ ((List.nil_sublist _).append_left _))) ?_
 rcases o with _ | ⟨ob,ocs,ocap⟩
 ·have hi0:i=0:=ho
  subst hi0
  refine aJ [0,2,3] (α:=Unit) (fun _=>[(6,aH 0)]) (fun _=>True) (fun _=>[dU b s (gO F bQ) st.2]) (fun _=>0) () rfl ⟨rfl,trivial⟩ trivial (fun _ _ h=>h) ?_
  intro _ _
  try dsimp only [Lp,Lo,Ln,Lh]
  repeat' (first|refine ae ?_|refine a6 ?_|refine aL ?_|refine a8 ?_|refine av ?_|refine aA ?_|refine aw ?_|refine aa ?_|refine LF a7 I9 ?_|refine bk rfl ?_)
  have hnil:(fh s n st.1.2 st.1.1 0 st.2).1=[]:=List.eq_nil_of_length_eq_zero (by rw [(hfi 0).1];exact hln.1)
  refine b6 (bq 0 (cs':=J3 s (gO F (.imm 3 [])) st.2) rfl fun σ vs h=>cr (k:=5) (c:=bQ) h rfl fun v hv=>dJ 3 hv) (cX rfl ?_)
  rw [hnil]
  rfl
 refine aJ [0,2,3] (α:=Nat×List AV) (fun x=>[(6,aH x.1)]) (fun x=>x.1≤i∧yk i x.1 (fh s n st.1.2 st.1.1 x.1 st.2).1 (some (ob,x.2,ocap))) (fun x=>[dU b s (gO F (zX i (some (ob,ocs,ocap)))) (fh s n st.1.2 st.1.1 x.1 st.2).2,(ob,.box x.2 76)]) (fun x=>i - x.1) (0,ocs) rfl ⟨rfl,trivial⟩ ⟨Nat.zero_le _,ho⟩ (fun _ _ h=>h) ?_
 rintro ⟨j,cs⟩ ⟨hj,h1,h2,h3,h4⟩
 dsimp only at hj h1 h2 h3 h4 ⊢
 try dsimp only [Lp,Lo,Ln,Lh]
 repeat' (first|refine ae ?_|refine a6 ?_|refine a8 ?_|refine aa ?_|refine LF a7 I9 ?_)
 refine ay rfl (fun h=>?_) (fun h=>?_)
 ·have hji:j < i:=by have:=Ly h;omega
  have hfj:=hfi j
  have hstep:fh s n st.1.2 st.1.1 (j+1) st.2=(match (fh s n st.1.2 st.1.1 j st.2).1[j]? with
   | none=>cx (fh s n st.1.2 st.1.1 j st.2).1
   | some q=>if q.Kind≥7 then cx (fh s n st.1.2 st.1.1 j st.2).1 else bZ (dr s 3) fun c=>bZ (eY s n q.Kind st.1.2 (1+c).toNat) fun rs=>cx ((fh s n st.1.2 st.1.1 j st.2).1.set j { q with Rules:=rs })) (fh s n st.1.2 st.1.1 j st.2).2:=rfl
  generalize fh s n st.1.2 st.1.1 j st.2=T at hfj h4 hstep ⊢
  have hTl:T.1.length=i:=by rw [hfj.1];exact hln.1
  obtain ⟨q,hq⟩:∃q,T.1[j]?=some q:=⟨_,Lz (by omega)⟩
  have hq2:st.1.1[j]?=some q:=by rw [←hfj.2 j (Nat.le_refl _)];exact hq
  have hqm:=Lv hq2
  have hqk:=hhd.kinds q hqm
  have hqn:=hhd.none q hqm
  rw [hq] at hstep
  dsimp only at hstep
  have hcell:∀c,c < 3→cs[j * 3+c]?=(fB j j q)[c]?:=fun c hc=>by
   have e:=tC j T.1 0 j c hc
   rw [hq,Option.bind_some,Nat.zero_add,←h4,List.getElem?_take,if_pos (by omega)] at e
   exact e
  have hP:∀c,0+((j:Int)).toNat * 3+c=j * 3+c:=fun c=>by rw [Int.toNat_natCast];omega
  have hc0:cs[0+((j:Int)).toNat * 3+0]?=some (aH q.Kind):=by rw [hP];exact hcell 0 (by omega)
  have hc2:cs[0+((j:Int)).toNat * 3+2]?=some bQ:=by
   rw [hP,hcell 2 (by omega)]
   simp [fB]
  have hPl:0+((j:Int)).toNat * 3+2 < cs.length:=(Lm hc2).1
  repeat' (first|refine ae ?_|refine a6 ?_|refine am ?_|refine au ?_|refine a8 ?_|refine aa ?_|refine LF a7 I9 ?_|(apply bL;first|refine LI a7 0 LC ?_|refine LI a7 1 LC ?_|refine LI a7 2 LC ?_|refine LI a7 3 LC ?_|refine LJ a7 0 LC ?_|refine LJ a7 1 LC ?_|refine LJ a7 2 LC ?_|refine LL a7 1 LA (by assumption) rfl ?_|refine LL a7 0 LA (by assumption) rfl ?_|fail)|(apply aU;first|refine aT a7 ?_|refine aN a7 ?_)|fail)
  refine ay rfl (fun h7=>?_) (fun h7=>?_)
  ·have h7:=Ly h7
   rw [if_pos (show q.Kind≥7 from h7)] at hstep
   repeat' (first|refine a6 ?_|refine aL ?_|refine a8 ?_|refine av ?_|refine aA ?_|refine aa ?_|refine LF a7 I9 ?_|(apply aY;refine aX ?_)|fail)
   refine b6 (bq 1 (cs':=cs.set (0+((j:Int)).toNat * 3+2) (.imm 6 [])) rfl fun σ vs h=>cr h hc2 fun v hv=>dJ 6 hv) ?_
   exact aE (j+1,cs.set (0+((j:Int)).toNat * 3+2) (.imm 6 [])) rfl ⟨by rw [Ls];rfl,trivial⟩ ⟨by dsimp only;omega,by dsimp only;rw [List.length_set];exact h1,h2,h3,by rw [hstep,hP];dsimp only [cx];rw [List.take_set,h4];exact Fh hq hqn⟩ (by dsimp only;omega) (fun _ _ h=>by dsimp only;rw [hstep];exact h)
  have h7:=Lw h7
  rw [if_neg (show ¬q.Kind≥7 from h7)] at hstep
  unfold bZ at hstep
  repeat' (first|refine ae ?_|refine a6 ?_|refine au ?_|refine a8 ?_|refine LF a7 I9 ?_)
  refine cy ?_
  have hc:=ck s hs T.2.a (n:=3) (by omega)
  have hc:0≤(dr s 3 T.2).1∧(dr s 3 T.2).1 < 3:=hc
  generalize dr s 3 T.2=p2 at hc hstep ⊢
  dsimp only at hstep
  obtain ⟨c,hcc⟩:∃k:Nat,1+p2.1=k:=⟨(1+p2.1).toNat,by omega⟩
  rw [hcc,Int.toNat_natCast] at hstep
  repeat' (first|refine ae ?_|refine a6 ?_|refine am ?_|refine a8 ?_|refine aa ?_|refine LF a7 I9 ?_|(apply aY;refine aX ?_)|fail)
  rw [hcc]
  refine bK (bq 1 (cs':=cs.set (0+((j:Int)).toNat * 3+2) (.vec none 6 [])) rfl fun σ vs h=>cr h hc2 fun v hv=>cC 6 hv) ?_
  refine aJ [0,2,3,6,7] (α:=Nat×Option (Nat×Nat)) (fun x=>[(8,aH x.1)]) (fun x=>x.1≤c) (fun x=>[dU b s (gO F (zX i (some (ob,ocs,ocap)))) (eY s n q.Kind st.1.2 x.1 p2.2).2,(ob,.box (cs.set (0+((j:Int)).toNat * 3+2) (.vec x.2 6 ((eY s n q.Kind st.1.2 x.1 p2.2).1.map bG))) 76)]++(tok x.2 73 6 ((eY s n q.Kind st.1.2 x.1 p2.2).1.map bG).length++[])) (fun x=>c - x.1) (0,none) rfl ⟨rfl,trivial⟩ (Nat.zero_le _) (fun _ _ h=>h) ?_
  rintro ⟨r,qv⟩ hr
  dsimp only at hr ⊢
  have hrl:=xq s hs n q.Kind st.1.2 r p2.2
  have hrs:eY s n q.Kind st.1.2 (r+1) p2.2=((eY s n q.Kind st.1.2 r p2.2).1++[(gx s n q.Kind st.1.2 (eY s n q.Kind st.1.2 r p2.2).2).1],(gx s n q.Kind st.1.2 (eY s n q.Kind st.1.2 r p2.2).2).2):=rfl
  try dsimp only [Lp,Lo,Ln,Lh]
  repeat' (first|refine ae ?_|refine a6 ?_|refine a8 ?_|refine aa ?_|refine LF a7 I9 ?_)
  refine ay rfl (fun h=>?_) (fun h=>?_)
  ·have hrc:r < c:=by have:=Ly h;omega
   generalize eY s n q.Kind st.1.2 r p2.2=R at hrl hrs ⊢
   have hset:(cs.set (0+((j:Int)).toNat * 3+2) (.vec qv 6 (R.1.map bG)))[0+((j:Int)).toNat * 3+2]?=some (.vec qv 6 (R.1.map bG)):=List.getElem?_set_self hPl
   have hset0:(cs.set (0+((j:Int)).toNat * 3+2) (.vec qv 6 (R.1.map bG)))[0+((j:Int)).toNat * 3+0]?=some (aH q.Kind):=by rw [List.getElem?_set_ne (by omega)];exact hc0
   have hRl:(R.1.map bG).length=R.1.length:=Lr ..
   repeat' (first|refine ae ?_|refine am ?_|refine au ?_|refine a8 ?_)
   refine dv [.cell (b,5,zX i (some (ob,ocs,ocap))),.cell (ob,0+((j:Int)).toNat * 3+2,.vec qv 6 (R.1.map bG))] 29 [(0,.v),(1,.v),(2,.v),(3,.v),(4,.k),(5,.v),(6,.v),(7,.v),(8,.v),(9,.v),(10,.k),(11,.v),(12,.v),(13,.v),(14,.k),(15,.v),(16,.v),(17,.v),(18,.v),(19,.v),(20,.l),(21,.v),(22,.v),(23,.v),(24,.l),(25,.v),(26,.f),(27,.v),(28,.f)] none ?_ trivial rfl (by kernel_rfl) (by kernel_rfl) (by kernel_rfl) mixed (by kernel_rfl) rfl
   have hkeep:∀m' Z,f8 [.cell (b,5,zX i (some (ob,ocs,ocap))),.cell (ob,0+((j:Int)).toNat * 3+2,.vec qv 6 (R.1.map bG))] (dU b s (gO F (zX i (some (ob,ocs,ocap)))) m'::(ob,.box (cs.set (0+((j:Int)).toNat * 3+2) (.vec qv 6 (R.1.map bG))) 76)::Z):=fun m' Z=>bJ 0 rfl rfl (bJ 1 rfl hset bW)
   repeat' (first|refine aF ?_|refine b9 a7 ?_|fail)
   refine dH a7 0 rfl rfl rfl (hkeep _ _) (by first | trivial | rfl) ?_
   repeat' (first|refine aF ?_|refine b9 a7 ?_|fail)
   refine dH a7 0 rfl rfl rfl (hkeep _ _) (by first | trivial | rfl) ?_
   repeat' (first|refine aF ?_|refine b9 a7 ?_|fail)
   refine df a7 rfl rfl rfl (by omega) (by first | trivial | rfl) ?_
   repeat' (first|refine aF ?_|refine b9 a7 ?_|fail)
   refine dH a7 1 rfl rfl rfl (hkeep _ _) (by first | trivial | rfl) ?_
   repeat' (first|refine aF ?_|refine b9 a7 ?_|refine cS a7 0 rfl rfl rfl rfl (by first|trivial|rfl) ?_)
   refine df a7 rfl rfl rfl (by omega) (by first | trivial | rfl) ?_
   repeat' (first|refine aF ?_|refine b9 a7 ?_|fail)
   refine cS a7 1 rfl rfl rfl hset0 (by first | trivial | rfl) ?_
   repeat' (first|refine aF ?_|refine b9 a7 ?_|fail)
   refine s7 (AH s hs (gO F (zX i (some (ob,ocs,ocap)))) hF n hn h0 q.Kind (by omega) st.1.2 (by omega)) (hkeep _ _) ?_
   generalize gx s n q.Kind st.1.2 R.2=y at hrs ⊢
   unfold GC
   repeat' (first|refine aF ?_|refine dX a7 ?_|fail)
   refine zu a7 _ rfl rfl rfl rfl (eL (A:=[_,_])) (by simp;omega) (by simp;omega) (hkeep _ _) (by first | trivial | rfl) fun q'=>?_
   refine LP [0,2,3,6,7,8,70,71,94] I9 ?_
   refine aS (aR (eL (A:=[_,_])).symm) ?_
   repeat' (first|refine LF a7 I9 ?_|(apply aU;first|refine aT a7 ?_|refine aN a7 ?_)|fail)
   refine ai a7 1 rfl rfl rfl rfl rfl rfl (by rw [Nat.ble_eq,List.length_set];exact hPl) ?_
   repeat' (first|refine a6 ?_|refine a8 ?_|refine aM ?_|refine aa ?_|refine LF a7 I9 ?_|(apply aY;refine aX ?_)|fail)
   exact aE (r+1,q') rfl ⟨by rw [Ls];rfl,trivial⟩ (by dsimp only;omega) (by dsimp only;omega) (fun _ _ h=>by dsimp only;rw [hrs];dsimp only;rw [List.map_append];simp only [eN,List.set_set] at h;exact h)
  have hrc:r=c:=by have:=Lw h;omega
  subst hrc
  generalize eY s n q.Kind st.1.2 r p2.2=R at hrl hstep ⊢
  have hset:(cs.set (0+((j:Int)).toNat * 3+2) (.vec qv 6 (R.1.map bG)))[0+((j:Int)).toNat * 3+2]?=some (.vec qv 6 (R.1.map bG)):=List.getElem?_set_self hPl
  repeat' (first|refine a6 ?_|refine aL ?_|refine a8 ?_|refine av ?_|refine aM ?_|refine aA ?_|refine aw ?_|refine aa ?_|refine LF a7 I9 ?_|(apply aY;refine aX ?_)|fail)
  refine b6 (bX (L':=[dU b s (gO F (zX i (some (ob,ocs,ocap)))) R.2,(ob,.box (cs.set (0+((j:Int)).toNat * 3+2) (.vec qv 6 (R.1.map bG))) 76)]) (List.Sublist.cons_cons _ (List.Sublist.cons_cons _ (List.nil_sublist _)))) ?_
  refine b6 (bq 1 (cs':=(cs.set (0+((j:Int)).toNat * 3+2) (.vec qv 6 (R.1.map bG))).set (0+((j:Int)).toNat * 3+2) (.imm 6 (R.1.map bG))) rfl fun σ vs h=>cr h hset fun v hv=>VR.im hv) ?_
  rw [List.set_set]
  exact aE (j+1,cs.set (0+((j:Int)).toNat * 3+2) (.imm 6 (R.1.map bG))) rfl ⟨by rw [Ls];rfl,trivial⟩ ⟨by dsimp only;omega,by dsimp only;rw [List.length_set];exact h1,h2,h3,by rw [hstep,hP];dsimp only [cx];rw [List.take_set,h4];exact CF hq⟩ (by dsimp only;omega) (fun _ _ h=>by dsimp only;rw [hstep];exact h)
 have hji:j=i:=by have:=Lw h;omega
 subst hji
 generalize hT:fh s n st.1.2 st.1.1 j st.2=T at h4 ⊢
 have hTl:T.1.length=j:=by rw [←hT,(hfi j).1];exact hln.1
 repeat' (first|refine aL ?_|refine av ?_|refine aA ?_|refine aw ?_)
 refine b6 (aR (List.Perm.swap _ _ _)) ?_
 refine b6 (od (k:=5) (n:=j) (cap:=ocap) (l:=T.1.map bv) rfl (by rw [h4,CD _ _ _ (by omega)]) h1 (fun q hq=>by
  obtain ⟨x,_,rfl⟩:=List.mem_map.1 hq
  rfl) (by rw [Lr];exact hTl) h2 h3) ?_
 exact cX rfl rfl
end Go.Proofs.YtamjlkdanllgjaaGreatDoor
namespace Go.Proofs.YtamjlkdanllgjaaGreatDoor
variable (s:List Int)
def lH (a:dA):Int×Int:=(a.Kind,a.Class)
structure E9 (cl:Int) (mark:Bool) (l:List dA):Prop where
 sub:(l.map lH).Sublist (fV cl)
 at':∀a∈l,(0≤a.X∧a.X≤1000)∧(-200≤a.Y∧a.Y≤800)∧(a.Kind=2→mark=true)
theorem uq {cl:Int} {i:Nat} (h:i < 5):(fV cl)[i]?=some ((fV cl).getD i (0,0)):=by
 rw [List.getD_eq_getElem?_getD,Lz (show i < (fV cl).length from h)]
 rfl
theorem ur (mark:Bool) (cl:Int):bU (eS s mark cl 5) (E9 cl mark):=by
 refine (bU.runs (b:=[]) (fun i (l:List dA)=>(l.map lH).Sublist ((fV cl).take i)∧∀a∈l,(0≤a.X∧a.X≤1000)∧(-200≤a.Y∧a.Y≤800)∧(a.Kind=2→mark=true)) 5 ⟨List.nil_sublist _,fun a ha=>by cases ha⟩ fun i l hi ⟨h1,h2⟩=>(bU.any _).bnd fun z _=>bU.ite (fun h3=>(cM s (by omega)).bnd fun x hx=>(cM s (by omega)).bnd fun y hy=>bU.ret ⟨?_,fun a ha=>?_⟩) fun _=>bU.ret ⟨?_,h2⟩).mono fun l ⟨h1,h2⟩=>⟨h1,h2⟩
 ·rw [List.take_add_one,uq hi,List.map_append]
  exact h1.append (List.Sublist.refl _)
 ·rcases Lj ha with ha | ha
  ·exact h2 a ha
  ·rw [Li ha]
   refine ⟨by dsimp only;omega,by dsimp only;omega,fun hk=>?_⟩
   rcases h3.2 with h4 | h4
   ·exact absurd hk h4
   ·exact h4
 ·rw [List.take_add_one]
  exact h1.trans (List.sublist_append_left _ _)
def JA (a b:dG):Prop:=a.Region < b.Region∨(a.Region=b.Region∧a.Point < b.Point)
structure Ea (R pts:Nat) (l:List dG):Prop where
 up:l.Pairwise JA
 len:l.length≤R * (pts+1)
 dom:∀d∈l,(0≤d.Region∧d.Region < R)∧(-1≤d.Point∧d.Point < pts)∧(-20≤d.X∧d.X≤20)∧(-20≤d.Y∧d.Y≤20)∧(d.Point= -1→d.Y=0)
structure uh (r p pts:Nat) (l:List dG):Prop where
 up:l.Pairwise JA
 len:l.length≤r * (pts+1)+p
 dom:∀d∈l,(0≤d.Region∧(d.Region < r∨(d.Region=r∧d.Point < (p:Int) - 1)))∧(-1≤d.Point∧d.Point < pts)∧(-20≤d.X∧d.X≤20)∧(-20≤d.Y∧d.Y≤20)∧(d.Point= -1→d.Y=0)
theorem uh.more {r p pts:Nat} {l:List dG} (h:uh r p pts l):uh r (p+1) pts l:=⟨h.up,by have:=h.len;omega,fun d hd=>by have:=h.dom d hd;omega⟩
theorem uh.add {r p pts:Nat} {l:List dG} (h:uh r p pts l) {x y:Int} (hp:p≤pts) (hx: -20≤x∧x≤20) (hy: -20≤y∧y≤20) (h0:p=0→y=0):uh r (p+1) pts (l++[⟨r,(p:Int) - 1,x,y⟩]):=by
 refine ⟨?_,by have:=h.len;simp;omega,fun d hd=>?_⟩
 ·rw [List.pairwise_append]
  refine ⟨h.up,List.pairwise_singleton ..,fun a ha b hb=>?_⟩
  rw [Li hb]
  have:=h.dom a ha
  unfold JA
  dsimp only
  omega
 ·rcases Lj hd with hd | hd
  ·have:=h.dom d hd;omega
  ·rw [Li hd]
   dsimp only
   refine ⟨by omega,by omega,hx,hy,fun hq=>h0 (by omega)⟩
theorem ql (pts R:Nat):bU (gc s pts R) (Ea R pts):=by
 refine (bU.runs (fun r l=>uh r 0 pts l) R ⟨.nil,by simp,fun d hd=>by cases hd⟩ fun r l _ h=>?_).mono fun l h=>⟨h.up,h.len,fun d hd=>by have:=h.dom d hd;omega⟩
 refine (bU.runs (fun p l=>uh r p pts l) (pts+1) h fun p l hp h=>(bU.any _).bnd fun z _=>bU.ite (fun _=>(cM s (by omega)).bnd fun x hx=>bU.ite (fun h0=>bU.ret ?_) fun h0=>(cM s (by omega)).bnd fun y hy=>bU.ret ?_) fun _=>bU.ret h.more).mono fun l h=>⟨h.up,by have:=h.len;rw [Nat.add_mul];omega,fun d hd=>by have:=h.dom d hd;omega⟩
 ·subst h0
  exact h.add (by omega) (by omega) (by omega) fun _=>rfl
 ·exact h.add (by omega) (by omega) (by omega) fun e=>absurd e h0
structure yU (R n:Nat) (g:bf):Prop where
 name:g.Name=cH n
 adv:100≤g.Advance∧g.Advance≤1000
 out:∃k,k≤2∧uj k (g.Points,g.Ends)
 parts:g.Parts=[]∨(1 < n∧∃x y:Int,g.Parts=[⟨1,x,y⟩]∧(-200≤x∧x≤200)∧0≤y∧y≤200)
 anch:∃cl,(0≤cl∧cl < 2)∧E9 cl g.Mark g.Anchors
 dels:Ea R g.Points.length g.Deltas
 hint:ix 45 g.Hint
theorem zM {R fn n:Nat} (hf:fn≤1000):bU (jV s R fn n) (yU R n):=by
 have hparts:bU (iJ s n) fun ps=>ps=[]∨(1 < n∧∃x y:Int,ps=[⟨1,x,y⟩]∧(-200≤x∧x≤200)∧0≤y∧y≤200):=by
  refine bU.ite (fun h1=>(bU.any _).bnd fun z _=>bU.ite (fun _=>(cM s (by omega)).bnd fun x hx=>(cM s (by omega)).bnd fun y hy=>bU.ret (.inr ⟨h1,_,_,rfl,by omega,by omega⟩)) fun _=>bU.ret (.inl rfl)) fun _=>bU.ret (.inl rfl)
 refine (cM s (by omega)).bnd fun ad had=>(bU.any _).bnd fun mk _=>(oM s).bnd fun o ho=>hparts.bnd fun ps hps=>(cM s (by omega)).bnd fun cl hcl=>(ur s _ cl).bnd fun an han=>(ql s _ R).bnd fun de hde=>(bU.any _).bnd fun _ _=>?_
 have hl:o.1.length≤10:=by obtain ⟨k,h1,h2⟩:=ho;have:=h2.len;omega
 exact (uY s (n:=o.1.length) (funcs:=fn) (most:=6) (by omega) (by omega) (by omega)).bnd fun h hh=>bU.ret ⟨rfl,by dsimp only;omega,ho,hps,⟨cl,hcl,han⟩,hde,hh⟩
def o9 (t:f5):Prop:=sV 0 t=0
structure dM (f:aV):Prop where
  unit:16≤f.Unit∧f.Unit≤4096
  glyN:2≤f.Glyphs.length∧f.Glyphs.length≤10
  gly:∀(i:Nat) g,f.Glyphs[i]?=some g→yU f.Regions.length i g
  chars:f.Chars.length≤16
  charR:(f.Chars.map cR.Rune).Sublist eP
  charG:∀c∈f.Chars,0≤c.Glyph∧c.Glyph < f.Glyphs.length
  looks:Bh f.Glyphs.length f.Lookups
  featN:(f.Features.map bN.Name).Sublist fG
  featL:∀t∈f.Features,t.Lookups.Pairwise (· < ·)∧t.Lookups.length≤6∧∀z∈t.Lookups,0≤z∧z < f.Lookups.length
  axes:f.Axes.length≤2
  axisN:f.Axes.map ey.Name=(List.range f.Axes.length).map (j4 uA)
  axis:∀a∈f.Axes,(-200≤a.Min∧a.Min≤0)∧a.Def=0∧0≤a.Max∧a.Max≤300
  regs:f.Regions.length≤3
  reg:∀r∈f.Regions,r.length=f.Axes.length∧∀t∈r,o9 t
  funcs:f.Funcs.length≤2
  func:∀c∈f.Funcs,ix 45 c
  cvt:f.Cvt.length≤3
  cvtM:∀z∈f.Cvt,-100≤z∧z < 400
theorem uS {α:Type} {l:List α} {i:Nat} (h:i < l.length) (d:α):l.getD i d∈l:=by
 rw [List.getD_eq_getElem?_getD,Lz h]
 exact List.getElem_mem h
theorem jU {α:Type} {l:List α} {i:Nat} (h:i < l.length) (d:α):l[i]?=some (l.getD i d):=by
 rw [List.getD_eq_getElem?_getD,Lz h]
 rfl
theorem CI:bU (CH s) dM:=by
  have hax:∀k:Nat,bU (kF s k) fun l=>l.length=k∧l.map ey.Name=(List.range k).map (j4 uA)∧∀a∈l,(-200≤a.Min∧a.Min≤0)∧a.Def=0∧0≤a.Max∧a.Max≤300:=fun k=>by
    refine bU.runs (fun i (l:List ey)=>l.length=i∧l.map ey.Name=(List.range i).map (j4 uA)∧∀a∈l,(-200≤a.Min∧a.Min≤0)∧a.Def=0∧0≤a.Max∧a.Max≤300) k ⟨rfl,rfl,fun a ha=>by cases ha⟩ fun i l _ ⟨h1,h2,h3⟩=>(cM s (by omega)).bnd fun a ha=>(cM s (by omega)).bnd fun b hb=>bU.ret ⟨by simp [h1],by simp [h2,List.range_succ],fun x hx=>?_⟩
    rcases Lj hx with hx | hx
    · exact h3 x hx
    · rw [Li hx];dsimp only;omega
  have hrg:∀k:Nat,bU (fL s k) fun l=>l.length≤3∧∀r∈l,r.length=k∧∀t∈r,o9 t:=fun k=>by
    refine bU.ite (fun _=>bU.ret ⟨Nat.zero_le _,fun r hr=>by cases hr⟩) fun _=>(cM s (by omega)).bnd fun n hn=>?_
    refine (bU.runs (fun i (l:List (List f5))=>l.length=i∧∀r∈l,r.length=k∧∀t∈r,o9 t) n.toNat ⟨rfl,fun a ha=>by cases ha⟩ fun i l _ ⟨h1,h2⟩=>?_).mono fun l ⟨h1,h2⟩=>⟨by omega,h2⟩
    refine (bU.runs (fun i (r:List f5)=>r.length=i∧∀t∈r,o9 t) k ⟨rfl,fun a ha=>by cases ha⟩ fun i r _ ⟨h1,h2⟩=>(cM s (by omega)).bnd fun z hz=>bU.ret ⟨by simp [h1],fun x hx=>?_⟩).bnd fun r hr=>bU.ret ⟨by simp [h1],fun x hx=>?_⟩
    · rcases Lj hx with hx | hx
      · exact h2 x hx
      · rw [Li hx]
        have:∀t∈ke,o9 t:=by unfold o9;decide
        exact this _ (uS (by simp only [ke,List.length_cons,List.length_nil];omega) _)
    · rcases Lj hx with hx | hx
      · exact h2 x hx
      · rw [Li hx];exact hr
  have hfu:∀k:Nat,k≤1000→bU (iC s k) fun l=>l.length=k∧∀c∈l,ix 45 c:=fun k hk=>by
    refine bU.runs (fun i (l:List (List eG))=>l.length=i∧∀c∈l,ix 45 c) k ⟨rfl,fun a ha=>by cases ha⟩ fun i l hi ⟨h1,h2⟩=>(bU.any _).bnd fun _ _=>(uY s (by omega) (by omega) (by omega)).bnd fun h hh=>bU.ret ⟨by simp [h1],fun x hx=>?_⟩
    rcases Lj hx with hx | hx
    · exact h2 x hx
    · rw [Li hx];exact hh
  have hcv:∀k:Nat,bU (qi s k) fun l=>l.length=k∧∀z∈l,-100≤z∧z < 400:=fun k=>by
    refine bU.runs (fun i (l:List Int)=>l.length=i∧∀z∈l,-100≤z∧z < 400) k ⟨rfl,fun a ha=>by cases ha⟩ fun i l hi ⟨h1,h2⟩=>(cM s (by omega)).bnd fun z hz=>bU.ret ⟨by simp [h1],fun x hx=>?_⟩
    rcases Lj hx with hx | hx
    · exact h2 x hx
    · rw [Li hx];omega
  have hgl:∀R fn k:Nat,fn≤1000→bU (gg s R fn k) fun l=>l.length=k∧∀(i:Nat) g,l[i]?=some g→yU R i g:=fun R fn k hf=>by
    refine bU.runs (fun i (l:List bf)=>l.length=i∧∀(j:Nat) g,l[j]?=some g→yU R j g) k ⟨rfl,fun j g h=>by simp at h⟩ fun i l hi ⟨h1,h2⟩=>(zM s hf).bnd fun g hg=>bU.ret ⟨by simp [h1],fun j x hx=>?_⟩
    rcases Nat.lt_or_ge j l.length with h | h
    · rw [List.getElem?_append_left h] at hx
      exact h2 j x hx
    · have hj:=(Lm hx).1
      have:j=l.length:=by simp at hj;omega
      subst this
      rw [List.getElem?_append_right (Nat.le_refl _),Nat.sub_self] at hx
      cases hx
      rw [h1]
      exact hg
  have hch:∀n:Int,0 < n→bU (gZ s n 16) fun l=>(l.map cR.Rune).Sublist eP∧∀c∈l,0≤c.Glyph∧c.Glyph < n:=fun n hn=>by
    refine (bU.runs (b:=[]) (fun i (l:List cR)=>(l.map cR.Rune).Sublist (eP.take i)∧∀c∈l,0≤c.Glyph∧c.Glyph < n) 16 ⟨List.nil_sublist _,fun a ha=>by cases ha⟩ fun i l hi ⟨h1,h2⟩=>(bU.any _).bnd fun z _=>bU.ite (fun _=>(cM s hn).bnd fun g hg=>bU.ret ⟨?_,fun x hx=>?_⟩) fun _=>bU.ret ⟨?_,h2⟩).mono fun l h=>h
    · rw [List.take_add_one,jU (l:=eP) (i:=i) hi 0,List.map_append]
      exact h1.append (List.Sublist.refl _)
    · rcases Lj hx with hx | hx
      · exact h2 x hx
      · rw [Li hx];exact hg
    · rw [List.take_add_one]
      exact h1.trans (List.sublist_append_left _ _)
  have hft:∀n:Nat,n≤6→bU (hY s n 8) fun l=>(l.map bN.Name).Sublist fG∧∀t∈l,t.Lookups.Pairwise (· < ·)∧t.Lookups.length≤6∧∀z∈t.Lookups,0≤z∧z < n:=fun n hn=>by
    have hask:bU (nA s n) fun l=>l.Pairwise (· < ·)∧l.length≤n∧∀z∈l,0≤z∧z < n:=by
      refine bU.runs (fun i (l:List Int)=>l.Pairwise (· < ·)∧l.length≤i∧∀z∈l,0≤z∧z < i) n ⟨.nil,Nat.le_refl _,fun a ha=>by cases ha⟩ fun i l hi ⟨h1,h2,h3⟩=>(bU.any _).bnd fun z _=>bU.ret ?_
      split
      · refine ⟨?_,by simp;omega,fun x hx=>?_⟩
        · rw [List.pairwise_append]
          exact ⟨h1,List.pairwise_singleton ..,fun a ha b hb=>by rw [Li hb];have:=h3 a ha;omega⟩
        · rcases Lj hx with hx | hx
          · have:=h3 x hx;omega
          · rw [Li hx];omega
      · exact ⟨h1,by omega,fun x hx=>by have:=h3 x hx;omega⟩
    refine (bU.runs (b:=[]) (fun i (l:List bN)=>(l.map bN.Name).Sublist (fG.take i)∧∀t∈l,t.Lookups.Pairwise (· < ·)∧t.Lookups.length≤6∧∀z∈t.Lookups,0≤z∧z < n) 8 ⟨List.nil_sublist _,fun a ha=>by cases ha⟩ fun i l hi ⟨h1,h2⟩=>hask.bnd fun r hr=>(bU.any _).bnd fun z _=>bU.ret ?_).mono fun l h=>h
    split
    · refine ⟨?_,fun x hx=>?_⟩
      · rw [List.take_add_one,jU (l:=fG) (i:=i) hi ByteArray.empty,List.map_append]
        exact h1.append (List.Sublist.refl _)
      · rcases Lj hx with hx | hx
        · exact h2 x hx
        · rw [Li hx];exact ⟨hr.1,by have:=hr.2.1;dsimp only;omega,hr.2.2⟩
    · rw [List.take_add_one]
      exact ⟨h1.trans (List.sublist_append_left _ _),h2⟩
  refine (cM s (by omega)).bnd fun u hu=>(cM s (by omega)).bnd fun k hk=>(hax _).bnd fun ax ⟨ha1,ha2,ha3⟩=>(hrg _).bnd fun rg ⟨hr1,hr2⟩=>(cM s (by omega)).bnd fun k2 hk2=>(hfu _ (by omega)).bnd fun fu ⟨hf1,hf2⟩=>(cM s (by omega)).bnd fun k3 hk3=>(hcv _).bnd fun cv ⟨hc1,hc2⟩=>(cM s (by omega)).bnd fun k4 hk4=>(hgl _ _ _ (by omega)).bnd fun gl ⟨hg1,hg2⟩=>(hch gl.length (by omega)).bnd fun ch ⟨hh1,hh2⟩=>(oG s (n:=gl.length) (by omega)).bnd fun lk hlk=>(hft lk.length hlk.len).bnd fun ft ⟨ht1,ht2⟩=>bU.ret ?_
  refine ⟨?_,by dsimp only;omega,hg2,?_,hh1,hh2,hlk,ht1,ht2,by dsimp only;omega,by dsimp only;rw [ha1];exact ha2,ha3,hr1,fun r hr=>⟨by dsimp only;rw [ha1];exact (hr2 r hr).1,(hr2 r hr).2⟩,by dsimp only;omega,hf2,by dsimp only;omega,hc2⟩
  · have:∀j < 4,16≤mj.getD j 0∧mj.getD j 0≤4096:=by decide
    exact this _ (by omega)
  · have:=hh1.length_le
    simpa [eP] using this
theorem Fk:dM (oH s):=CI s ⟨0,0⟩
end Go.Proofs.YtamjlkdanllgjaaGreatDoor
