/-
  The maker: lookups.
-/
import Derived.Test.YtpbinloeemebkaaGreatM21
import Derived.Test.YtpbinloeemebkaaGreatM16
namespace Go.Proofs.YtpbinloeemebkaaGreat
open Go.RowKit
attribute [local irreducible] AT bO AX AO Av Kt bo dU DA cT
variable (s:List Int) (hs:s.length≤1000000) (F:MF)
include hs
theorem vJ (k:Nat) (m:MS):(ei s k m).1.1.length=k∧(ei s k m).1.2.length≤k:=by
 have _:=hs
 clear hs
 induction k with
 | zero=>exact ⟨rfl,Nat.le_refl _⟩
 | succ k ih=>
  have:ei s (k+1) m=(c7 (dr s 10) fun z=>c7 (dr s 3) fun y=>cC ((ei s k m).1.1++[(⟨fz.getD z.toNat 0,decide (y=0),[]⟩:aP)],if fz.getD z.toNat 0≤4 then (ei s k m).1.2++[(k:Int)] else (ei s k m).1.2)) (ei s k m).2:=rfl
  rw [this]
  simp only [c7,cC]
  refine ⟨by simp [ih.1],?_⟩
  split
  ·simp;omega
  ·omega
theorem Aj (n:Int) (calls:List Int) (l:List aP) (k:Nat) (m:MS):(f8 s n calls l k m).1.length=l.length∧∀j,k≤j→(f8 s n calls l k m).1[j]?=l[j]?:=by
 have _:=hs
 clear hs
 induction k with
 | zero=>exact ⟨rfl,fun j _=>rfl⟩
 | succ k ih=>
  have:f8 s n calls l (k+1) m=(match (f8 s n calls l k m).1[k]? with
   | none=>cC (f8 s n calls l k m).1
   | some q=>if q.Kind≥7 then cC (f8 s n calls l k m).1 else c7 (dr s 3) fun c=>c7 (eW s n q.Kind calls (1+c).toNat) fun rs=>cC ((f8 s n calls l k m).1.set k { q with Rules:=rs })) (f8 s n calls l k m).2:=rfl
  rw [this]
  cases hq:(f8 s n calls l k m).1[k]? with
  | none=>exact ⟨ih.1,fun j hj=>ih.2 j (by omega)⟩
  | some q=>
   dsimp only
   by_cases h7:q.Kind≥7
   ·rw [if_pos h7]
    exact ⟨ih.1,fun j hj=>ih.2 j (by omega)⟩
   ·rw [if_neg h7]
    simp only [c7,cC]
    refine ⟨by rw [List.length_set];exact ih.1,fun j hj=>?_⟩
    rw [List.getElem?_set_ne (by omega)]
    exact ih.2 j (by omega)
theorem wm (n kind:Int) (calls:List Int) (k:Nat) (m:MS):(eW s n kind calls k m).1.length=k:=by
 have _:=hs
 clear hs
 induction k with
 | zero=>rfl
 | succ k ih=>
  have:eW s n kind calls (k+1) m=((eW s n kind calls k m).1++[(gn s n kind calls (eW s n kind calls k m).2).1],(gn s n kind calls (eW s n kind calls k m).2).2):=rfl
  rw [this]
  simp [ih]
abbrev gC (F:MF) (v:AV):MF:={ F with lk:=v }
set_option maxHeartbeats 16000000 in
theorem vU {kg:Option (Nat×Nat)} {gl:List (List AV)} (hF:F.gl= .vec kg 9 gl) (hl:F.lk=bP) (n:Nat) (hn:gl.length=n) (h0:0 < n∧n≤1000) (b:Nat) (m:MS):AC Tryz.prog 66 [fg b] [dS b s F m] fun _ L=>L=[dS b s (gC F (.imm 3 ((iz s n m).1.map bF))) (iz s n m).2]:=by
 refine aT Tryz.func66 rfl Tryz.ntmps66 rfl fun B=>?_
 repeat' (first|refine go ?_|refine HF a1 F8 ?_)
 refine cD ?_
 have hk:=cn s hs m.a (n:=7) (by omega)
 have hk:0≤(dr s 7 m).1∧(dr s 7 m).1 < 7:=hk
 generalize e1:dr s 7 m=p1 at hk ⊢
 obtain ⟨k,hkk⟩:∃k:Nat,p1.1=k:=⟨p1.1.toNat,by omega⟩
 rw [hkk]
 have hFF:F=gC F bP:=by
  cases F
  simp only at hl
  rw [hl]
 rw [hFF]
 repeat' (first|refine go ?_|refine ak ?_|refine HF a1 F8 ?_)
 refine bW (cA (t:=3) (c':= .vec none 1 []) rfl fun σ v h=>dg 1 h) ?_
 refine aR [0,2] (α:=Nat×Option (Nat×Nat)×Option (Nat×List AV×Nat)) (fun x=>[(4,aH x.1),(3,.vec x.2.1 1 (aS (ei s x.1 p1.2).1.2))]) (fun x=>x.1≤k∧x7 x.1 0 (ei s x.1 p1.2).1.1 x.2.2) (fun x=>dS b s (gC F (yt x.1 x.2.2)) (ei s x.1 p1.2).2::(AU x.2.2++(tok x.2.1 3 1 (aS (ei s x.1 p1.2).1.2).length++[]))) (fun x=>k - x.1) (0,none,none) rfl ⟨rfl,rfl,trivial⟩ ⟨Nat.zero_le _,rfl⟩ (fun _ _ h=>by simpa [ei,gS,cC,tok,aS,AU,yt] using h) ?_
 rintro ⟨i,q,o⟩ ⟨hi,ho⟩
 dsimp only at hi ho ⊢
 have hln:=vJ s hs i p1.2
 try dsimp only [Hs,Hr,Hq,Hl]
 repeat' (first|refine go ?_|refine HF a1 F8 ?_)
 refine ay rfl (fun h=>?_) (fun h=>?_)
 ·have hil:i < k:=by have:=Hy h;omega
  have hstep:ei s (i+1) p1.2=(c7 (dr s 10) fun z=>c7 (dr s 3) fun y=>cC ((ei s i p1.2).1.1++[(⟨fz.getD z.toNat 0,decide (y=0),[]⟩:aP)],if fz.getD z.toNat 0≤4 then (ei s i p1.2).1.2++[(i:Int)] else (ei s i p1.2).1.2)) (ei s i p1.2).2:=rfl
  generalize ei s i p1.2=st at hln ho hstep ⊢
  have hil2:(aS st.1.2).length=st.1.2.length:=aN _
  repeat' (first|refine go ?_|refine ak ?_|refine HF a1 F8 ?_|refine bI a1 ?_|fail)
  refine cD ?_
  have hz:=cn s hs st.2.a (n:=10) (by omega)
  have hz:0≤(dr s 10 st.2).1∧(dr s 10 st.2).1 < 10:=hz
  unfold c7 at hstep
  generalize dr s 10 st.2=z at hz hstep ⊢
  dsimp only at hstep
  have hzk:(aS fz)[z.1.toNat]?=some [aH (fz.getD z.1.toNat 0)]:=bG (by rw [List.getD_eq_getElem?_getD,Hz (show z.1.toNat < fz.length by simp [fz];omega)];rfl)
  generalize hkd:fz.getD z.1.toNat 0=kd at hzk hstep
  repeat' (first|refine go ?_|refine HF a1 F8 ?_|(apply aX;first|refine aU a1 ?_|refine aK a1 ?_)|fail)
  refine dD [.cell (b,5,yt i o)] 13 [(0,.v),(1,.v),(2,.v),(3,.v),(4,.v),(5,.k),(6,.v),(7,.v),(8,.f),(9,.v),(10,.v),(11,.v),(12,.e)] none ?_ trivial rfl (by kernel_rfl) (by kernel_rfl) (by kernel_rfl) mixed (by kernel_rfl) rfl
  repeat' (first|refine aE ?_|refine ba a1 ?_|fail)
  refine eb a1 0 rfl rfl rfl (bN 0 rfl rfl c5) (by first | trivial | rfl) ?_
  repeat' (first|refine aE ?_|refine ba a1 ?_|fail)
  refine eC (bN 0 rfl rfl c5) ?_
  generalize dr s 3 z.2=y at hstep ⊢
  repeat' (first|refine aE ?_|refine ba a1 ?_|refine ek a1 ?_|fail)
  have hst1:st.1.1.length=i:=hln.1
  rcases o with _ | ⟨ob,ocs,ocap⟩
  ·have hi0:i=0:=ho
   subst hi0
   refine vq a1 rfl rfl rfl rfl rfl rfl rfl (by first | trivial | rfl) fun b' cs' cap' h1 h2 h3 h4=>?_
   have hrow:x7 (0+1) 0 (st.1.1++[⟨kd,decide (y.1=0),[]⟩]) (some (b',cs',cap')):=by
    refine ⟨h1,by omega,h4,?_⟩
    rw [List.eq_nil_of_length_eq_zero (by omega:st.1.1.length=0)]
    exact h2
   refine HR [0,2,3,4,5,21,33] F8 ?_
   refine aV (aJ (L':=dS b s (gC F (yt 0 none)) y.2::(AU (some (b',cs',cap'))++(tok q 3 1 (aS st.1.2).length++[]))) (List.Perm.swap _ _ _)) ?_
   repeat' (first|refine go ?_|refine HF a1 F8 ?_|(apply aQ;first|refine HG a1 0 HD ?_|refine HG a1 1 HD ?_|refine HG a1 2 HD ?_|refine HG a1 3 HD ?_|fail))
   refine ay rfl (fun hk4=>?_) (fun hk4=>?_)
   ·rw [if_pos (Hy hk4)] at hstep
    dsimp only [cC] at hstep
    repeat' (first|refine go ?_|refine HF a1 F8 ?_|refine bI a1 ?_|fail)
    refine cj a1 _ rfl rfl rfl rfl (eF (A:=[_,_])) (by simp [aN];omega) (by simp [aN];omega) rfl fun q'=>?_
    refine aV (aJ (eF (A:=[_,_])).symm) ?_
    repeat' (first|refine go ?_|refine HF a1 F8 ?_|(apply aZ;refine aY ?_)|fail)
    exact aF (0+1,q',some (b',cs',cap')) rfl ⟨rfl,by rw [hstep];dsimp only;rw [show aS (st.1.2++[((0:Nat):Int)])=aS st.1.2++[[aH ((0:Nat):Int)]] from List.map_append ..];rfl,trivial⟩ ⟨by dsimp only;omega,by rw [hstep];exact hrow⟩ (by dsimp only;omega) (fun _ _ h=>by dsimp only;rw [hstep];dsimp only;rw [show aS (st.1.2++[((0:Nat):Int)])=aS st.1.2++[[aH ((0:Nat):Int)]] from List.map_append ..];exact h)
   ·rw [if_neg (Hx hk4)] at hstep
    dsimp only [cC] at hstep
    repeat' (first|refine go ?_|refine HF a1 F8 ?_|(apply aZ;refine aY ?_)|fail)
    exact aF (0+1,q,some (b',cs',cap')) rfl ⟨rfl,by rw [hstep];rfl,trivial⟩ ⟨by dsimp only;omega,by rw [hstep];exact hrow⟩ (by dsimp only;omega) (fun _ _ h=>by dsimp only;rw [hstep];exact h)
  ·obtain ⟨ho1,ho2,ho3,ho4⟩:=ho
   refine y6 a1 1 rfl rfl rfl rfl rfl rfl rfl ho1 ho2 ho3 (by unfold maxLen;omega) (by omega) (by first | trivial | rfl) fun b' cs' cap' h1 h2 h3 h4=>?_
   have hrow:x7 (i+1) 0 (st.1.1++[⟨kd,decide (y.1=0),[]⟩]) (some (b',cs',cap')):=by
    refine ⟨h1,h3,h4,?_⟩
    rw [h2,ho4,x8]
    rfl
   refine HR [0,2,3,4,5,21,33] F8 ?_
   refine aV (aJ (L':=dS b s (gC F (yt i (some (ob,ocs,ocap)))) y.2::(AU (some (b',cs',cap'))++(tok q 3 1 (aS st.1.2).length++[]))) (List.Perm.swap _ _ _)) ?_
   repeat' (first|refine go ?_|refine HF a1 F8 ?_|(apply aQ;first|refine HG a1 0 HD ?_|refine HG a1 1 HD ?_|refine HG a1 2 HD ?_|refine HG a1 3 HD ?_|fail))
   refine ay rfl (fun hk4=>?_) (fun hk4=>?_)
   ·rw [if_pos (Hy hk4)] at hstep
    dsimp only [cC] at hstep
    repeat' (first|refine go ?_|refine HF a1 F8 ?_|refine bI a1 ?_|fail)
    refine cj a1 _ rfl rfl rfl rfl (eF (A:=[_,_])) (by simp [aN];omega) (by simp [aN];omega) rfl fun q'=>?_
    refine aV (aJ (eF (A:=[_,_])).symm) ?_
    repeat' (first|refine go ?_|refine HF a1 F8 ?_|(apply aZ;refine aY ?_)|fail)
    exact aF (i+1,q',some (b',cs',cap')) rfl ⟨by rw [Hv];rfl,by rw [hstep];dsimp only;rw [show aS (st.1.2++[(i:Int)])=aS st.1.2++[[aH (i:Int)]] from List.map_append ..];rfl,trivial⟩ ⟨by dsimp only;omega,by rw [hstep];exact hrow⟩ (by dsimp only;omega) (fun _ _ h=>by dsimp only;rw [hstep];dsimp only;rw [show aS (st.1.2++[(i:Int)])=aS st.1.2++[[aH (i:Int)]] from List.map_append ..];exact h)
   ·rw [if_neg (Hx hk4)] at hstep
    dsimp only [cC] at hstep
    repeat' (first|refine go ?_|refine HF a1 F8 ?_|(apply aZ;refine aY ?_)|fail)
    exact aF (i+1,q,some (b',cs',cap')) rfl ⟨by rw [Hv];rfl,by rw [hstep];rfl,trivial⟩ ⟨by dsimp only;omega,by rw [hstep];exact hrow⟩ (by dsimp only;omega) (fun _ _ h=>by dsimp only;rw [hstep];exact h)
 have hil:i=k:=by have:=Hx h;omega
 subst hil
 have hhd:=rt s i p1.2
 generalize e2:ei s i p1.2=st at hln ho hhd ⊢
 have hv:iz s n m=f8 s n st.1.2 st.1.1 i st.2:=by
  unfold iz c7
  rw [e1]
  dsimp only
  rw [hkk,Int.toNat_natCast,e2]
 rw [hv]
 have hfi:=fun j=>Aj s hs n st.1.2 st.1.1 j st.2
 repeat' (first|refine go ?_|refine ak ?_|refine HF a1 F8 ?_)
 refine bW (cb (L':=dS b s (gC F (yt i o)) st.2::(AU o++[])) (List.Sublist.cons_cons _ ((List.nil_sublist _).append_left _))) ?_
 rcases o with _ | ⟨ob,ocs,ocap⟩
 ·have hi0:i=0:=ho
  subst hi0
  refine aR [0,2,3] (α:=Unit) (fun _=>[(6,aH 0)]) (fun _=>True) (fun _=>[dS b s (gC F bP) st.2]) (fun _=>0) () rfl ⟨rfl,trivial⟩ trivial (fun _ _ h=>h) ?_
  intro _ _
  try dsimp only [Hs,Hr,Hq,Hl]
  repeat' (first|refine go ?_|refine HF a1 F8 ?_|refine bL rfl ?_)
  have hnil:(f8 s n st.1.2 st.1.1 0 st.2).1=[]:=List.eq_nil_of_length_eq_zero (by rw [(hfi 0).1];exact hln.1)
  refine bk (bE 0 (cs':=FY s (gC F (.imm 3 [])) st.2) rfl fun σ vs h=>cr (k:=5) (c:=bP) h rfl fun v hv=>ke 3 hv) (ce rfl ?_)
  rw [hnil]
  rfl
 refine aR [0,2,3] (α:=Nat×List AV) (fun x=>[(6,aH x.1)]) (fun x=>x.1≤i∧x7 i x.1 (f8 s n st.1.2 st.1.1 x.1 st.2).1 (some (ob,x.2,ocap))) (fun x=>[dS b s (gC F (yt i (some (ob,ocs,ocap)))) (f8 s n st.1.2 st.1.1 x.1 st.2).2,(ob,.box x.2 70)]) (fun x=>i - x.1) (0,ocs) rfl ⟨rfl,trivial⟩ ⟨Nat.zero_le _,ho⟩ (fun _ _ h=>h) ?_
 rintro ⟨j,cs⟩ ⟨hj,h1,h2,h3,h4⟩
 dsimp only at hj h1 h2 h3 h4 ⊢
 try dsimp only [Hs,Hr,Hq,Hl]
 repeat' (first|refine go ?_|refine HF a1 F8 ?_)
 refine ay rfl (fun h=>?_) (fun h=>?_)
 ·have hji:j < i:=by have:=Hy h;omega
  have hfj:=hfi j
  have hstep:f8 s n st.1.2 st.1.1 (j+1) st.2=(match (f8 s n st.1.2 st.1.1 j st.2).1[j]? with
   | none=>cC (f8 s n st.1.2 st.1.1 j st.2).1
   | some q=>if q.Kind≥7 then cC (f8 s n st.1.2 st.1.1 j st.2).1 else c7 (dr s 3) fun c=>c7 (eW s n q.Kind st.1.2 (1+c).toNat) fun rs=>cC ((f8 s n st.1.2 st.1.1 j st.2).1.set j { q with Rules:=rs })) (f8 s n st.1.2 st.1.1 j st.2).2:=rfl
  generalize f8 s n st.1.2 st.1.1 j st.2=T at hfj h4 hstep ⊢
  have hTl:T.1.length=i:=by rw [hfj.1];exact hln.1
  obtain ⟨q,hq⟩:∃q,T.1[j]?=some q:=⟨_,Hz (by omega)⟩
  have hq2:st.1.1[j]?=some q:=by rw [←hfj.2 j (Nat.le_refl _)];exact hq
  have hqm:=Hw hq2
  have hqk:=hhd.kinds q hqm
  have hqn:=hhd.none q hqm
  rw [hq] at hstep
  dsimp only at hstep
  have hcell:∀c,c < 3→cs[j * 3+c]?=(fo j j q)[c]?:=fun c hc=>by
   have e:=sq j T.1 0 j c hc
   rw [hq,Option.bind_some,Nat.zero_add,←h4,List.getElem?_take,if_pos (by omega)] at e
   exact e
  have hP:∀c,0+((j:Int)).toNat * 3+c=j * 3+c:=fun c=>by rw [Int.toNat_natCast];omega
  have hc0:cs[0+((j:Int)).toNat * 3+0]?=some (aH q.Kind):=by rw [hP];exact hcell 0 (by omega)
  have hc2:cs[0+((j:Int)).toNat * 3+2]?=some bP:=by
   rw [hP,hcell 2 (by omega)]
   simp [fo]
  have hPl:0+((j:Int)).toNat * 3+2 < cs.length:=(Hp hc2).1
  repeat' (first|refine go ?_|refine ak ?_|refine HF a1 F8 ?_|(apply bh;first|refine HJ a1 0 HC ?_|refine HJ a1 1 HC ?_|refine HJ a1 2 HC ?_|refine HJ a1 3 HC ?_|refine HK a1 0 HC ?_|refine HK a1 1 HC ?_|refine HK a1 2 HC ?_|refine HM a1 1 HA (by assumption) rfl ?_|refine HM a1 0 HA (by assumption) rfl ?_|fail)|(apply aX;first|refine aU a1 ?_|refine aK a1 ?_)|fail)
  refine ay rfl (fun h7=>?_) (fun h7=>?_)
  ·have h7:=Hy h7
   rw [if_pos (show q.Kind≥7 from h7)] at hstep
   repeat' (first|refine go ?_|refine HF a1 F8 ?_|(apply aZ;refine aY ?_)|fail)
   refine bk (bE 1 (cs':=cs.set (0+((j:Int)).toNat * 3+2) (.imm 6 [])) rfl fun σ vs h=>cr h hc2 fun v hv=>ke 6 hv) ?_
   exact aF (j+1,cs.set (0+((j:Int)).toNat * 3+2) (.imm 6 [])) rfl ⟨by rw [Hv];rfl,trivial⟩ ⟨by dsimp only;omega,by dsimp only;rw [List.length_set];exact h1,h2,h3,by rw [hstep,hP];dsimp only [cC];rw [List.take_set,h4];exact D0 hq hqn⟩ (by dsimp only;omega) (fun _ _ h=>by dsimp only;rw [hstep];exact h)
  have h7:=Hx h7
  rw [if_neg (show ¬q.Kind≥7 from h7)] at hstep
  unfold c7 at hstep
  repeat' (first|refine go ?_|refine HF a1 F8 ?_)
  refine cD ?_
  have hc:=cn s hs T.2.a (n:=3) (by omega)
  have hc:0≤(dr s 3 T.2).1∧(dr s 3 T.2).1 < 3:=hc
  generalize dr s 3 T.2=p2 at hc hstep ⊢
  dsimp only at hstep
  obtain ⟨c,hcc⟩:∃k:Nat,1+p2.1=k:=⟨(1+p2.1).toNat,by omega⟩
  rw [hcc,Int.toNat_natCast] at hstep
  repeat' (first|refine go ?_|refine ak ?_|refine HF a1 F8 ?_|(apply aZ;refine aY ?_)|fail)
  rw [hcc]
  refine bW (bE 1 (cs':=cs.set (0+((j:Int)).toNat * 3+2) (.vec none 6 [])) rfl fun σ vs h=>cr h hc2 fun v hv=>dg 6 hv) ?_
  refine aR [0,2,3,6,7] (α:=Nat×Option (Nat×Nat)) (fun x=>[(8,aH x.1)]) (fun x=>x.1≤c) (fun x=>[dS b s (gC F (yt i (some (ob,ocs,ocap)))) (eW s n q.Kind st.1.2 x.1 p2.2).2,(ob,.box (cs.set (0+((j:Int)).toNat * 3+2) (.vec x.2 6 ((eW s n q.Kind st.1.2 x.1 p2.2).1.map bJ))) 70)]++(tok x.2 89 6 ((eW s n q.Kind st.1.2 x.1 p2.2).1.map bJ).length++[])) (fun x=>c - x.1) (0,none) rfl ⟨rfl,trivial⟩ (Nat.zero_le _) (fun _ _ h=>h) ?_
  rintro ⟨r,qv⟩ hr
  dsimp only at hr ⊢
  have hrl:=wm s hs n q.Kind st.1.2 r p2.2
  have hrs:eW s n q.Kind st.1.2 (r+1) p2.2=((eW s n q.Kind st.1.2 r p2.2).1++[(gn s n q.Kind st.1.2 (eW s n q.Kind st.1.2 r p2.2).2).1],(gn s n q.Kind st.1.2 (eW s n q.Kind st.1.2 r p2.2).2).2):=rfl
  try dsimp only [Hs,Hr,Hq,Hl]
  repeat' (first|refine go ?_|refine HF a1 F8 ?_)
  refine ay rfl (fun h=>?_) (fun h=>?_)
  ·have hrc:r < c:=by have:=Hy h;omega
   generalize eW s n q.Kind st.1.2 r p2.2=R at hrl hrs ⊢
   have hset:(cs.set (0+((j:Int)).toNat * 3+2) (.vec qv 6 (R.1.map bJ)))[0+((j:Int)).toNat * 3+2]?=some (.vec qv 6 (R.1.map bJ)):=List.getElem?_set_self hPl
   have hset0:(cs.set (0+((j:Int)).toNat * 3+2) (.vec qv 6 (R.1.map bJ)))[0+((j:Int)).toNat * 3+0]?=some (aH q.Kind):=by rw [List.getElem?_set_ne (by omega)];exact hc0
   have hRl:(R.1.map bJ).length=R.1.length:=Hu ..
   repeat' (first|refine go ?_|refine ak ?_)
   refine dD [.cell (b,5,yt i (some (ob,ocs,ocap))),.cell (ob,0+((j:Int)).toNat * 3+2,.vec qv 6 (R.1.map bJ))] 29 [(0,.v),(1,.v),(2,.v),(3,.v),(4,.k),(5,.v),(6,.v),(7,.v),(8,.v),(9,.v),(10,.k),(11,.v),(12,.v),(13,.v),(14,.k),(15,.v),(16,.v),(17,.v),(18,.v),(19,.v),(20,.l),(21,.v),(22,.v),(23,.v),(24,.l),(25,.v),(26,.f),(27,.v),(28,.f)] none ?_ trivial rfl (by kernel_rfl) (by kernel_rfl) (by kernel_rfl) mixed (by kernel_rfl) rfl
   have hkeep:∀m' Z,fc [.cell (b,5,yt i (some (ob,ocs,ocap))),.cell (ob,0+((j:Int)).toNat * 3+2,.vec qv 6 (R.1.map bJ))] (dS b s (gC F (yt i (some (ob,ocs,ocap)))) m'::(ob,.box (cs.set (0+((j:Int)).toNat * 3+2) (.vec qv 6 (R.1.map bJ))) 70)::Z):=fun m' Z=>bN 0 rfl rfl (bN 1 rfl hset c5)
   repeat' (first|refine aE ?_|refine ba a1 ?_|fail)
   refine eb a1 0 rfl rfl rfl (hkeep _ _) (by first | trivial | rfl) ?_
   repeat' (first|refine aE ?_|refine ba a1 ?_|fail)
   refine eb a1 0 rfl rfl rfl (hkeep _ _) (by first | trivial | rfl) ?_
   repeat' (first|refine aE ?_|refine ba a1 ?_|fail)
   refine dx a1 rfl rfl rfl (by omega) (by first | trivial | rfl) ?_
   repeat' (first|refine aE ?_|refine ba a1 ?_|fail)
   refine eb a1 1 rfl rfl rfl (hkeep _ _) (by first | trivial | rfl) ?_
   repeat' (first|refine aE ?_|refine ba a1 ?_|refine bX a1 0 rfl rfl rfl rfl (by first|trivial|rfl) ?_)
   refine dx a1 rfl rfl rfl (by omega) (by first | trivial | rfl) ?_
   repeat' (first|refine aE ?_|refine ba a1 ?_|fail)
   refine bX a1 1 rfl rfl rfl hset0 (by first | trivial | rfl) ?_
   repeat' (first|refine aE ?_|refine ba a1 ?_|fail)
   refine re (yW s hs (gC F (yt i (some (ob,ocs,ocap)))) hF n hn h0 q.Kind (by omega) st.1.2 (by omega)) (hkeep _ _) ?_
   generalize gn s n q.Kind st.1.2 R.2=y at hrs ⊢
   unfold E3
   repeat' (first|refine aE ?_|refine ek a1 ?_|fail)
   refine y4 a1 _ rfl rfl rfl rfl (eF (A:=[_,_])) (by simp;omega) (by simp;omega) (hkeep _ _) (by first | trivial | rfl) fun q'=>?_
   refine HR [0,2,3,6,7,8,70,71,94] F8 ?_
   refine aV (aJ (eF (A:=[_,_])).symm) ?_
   repeat' (first|refine HF a1 F8 ?_|(apply aX;first|refine aU a1 ?_|refine aK a1 ?_)|fail)
   refine ah a1 1 rfl rfl rfl rfl rfl rfl (by rw [Nat.ble_eq,List.length_set];exact hPl) ?_
   repeat' (first|refine go ?_|refine HF a1 F8 ?_|(apply aZ;refine aY ?_)|fail)
   exact aF (r+1,q') rfl ⟨by rw [Hv];rfl,trivial⟩ (by dsimp only;omega) (by dsimp only;omega) (fun _ _ h=>by dsimp only;rw [hrs];dsimp only;rw [List.map_append];simp only [gg,List.set_set] at h;exact h)
  have hrc:r=c:=by have:=Hx h;omega
  subst hrc
  generalize eW s n q.Kind st.1.2 r p2.2=R at hrl hstep ⊢
  have hset:(cs.set (0+((j:Int)).toNat * 3+2) (.vec qv 6 (R.1.map bJ)))[0+((j:Int)).toNat * 3+2]?=some (.vec qv 6 (R.1.map bJ)):=List.getElem?_set_self hPl
  repeat' (first|refine go ?_|refine HF a1 F8 ?_|(apply aZ;refine aY ?_)|fail)
  refine bk (cb (L':=[dS b s (gC F (yt i (some (ob,ocs,ocap)))) R.2,(ob,.box (cs.set (0+((j:Int)).toNat * 3+2) (.vec qv 6 (R.1.map bJ))) 70)]) (List.Sublist.cons_cons _ (List.Sublist.cons_cons _ (List.nil_sublist _)))) ?_
  refine bk (bE 1 (cs':=(cs.set (0+((j:Int)).toNat * 3+2) (.vec qv 6 (R.1.map bJ))).set (0+((j:Int)).toNat * 3+2) (.imm 6 (R.1.map bJ))) rfl fun σ vs h=>cr h hset fun v hv=>VR.im hv) ?_
  rw [List.set_set]
  exact aF (j+1,cs.set (0+((j:Int)).toNat * 3+2) (.imm 6 (R.1.map bJ))) rfl ⟨by rw [Hv];rfl,trivial⟩ ⟨by dsimp only;omega,by dsimp only;rw [List.length_set];exact h1,h2,h3,by rw [hstep,hP];dsimp only [cC];rw [List.take_set,h4];exact B3 hq⟩ (by dsimp only;omega) (fun _ _ h=>by dsimp only;rw [hstep];exact h)
 have hji:j=i:=by have:=Hx h;omega
 subst hji
 generalize hT:f8 s n st.1.2 st.1.1 j st.2=T at h4 ⊢
 have hTl:T.1.length=j:=by rw [←hT,(hfi j).1];exact hln.1
 repeat' (first|refine go ?_|fail)
 refine bk (aJ (List.Perm.swap _ _ _)) ?_
 refine bk (zl (k:=5) (n:=j) (cap:=ocap) (l:=T.1.map bF) rfl (by rw [h4,B0 _ _ _ (by omega)]) h1 (fun q hq=>by
  obtain ⟨x,_,rfl⟩:=List.mem_map.1 hq
  rfl) (by rw [Hu];exact hTl) h2 h3) ?_
 exact ce rfl rfl
end Go.Proofs.YtpbinloeemebkaaGreat
namespace Go.Proofs.YtpbinloeemebkaaGreat
variable (s:List Int)
def lP (a:dz):Int×Int:=(a.Kind,a.Class)
structure C2 (cl:Int) (mark:Bool) (l:List dz):Prop where
 sub:(l.map lP).Sublist (fP cl)
 at':∀a∈l,(0≤a.X∧a.X≤1000)∧(-200≤a.Y∧a.Y≤800)∧(a.Kind=2→mark=true)
theorem t2 {cl:Int} {i:Nat} (h:i < 5):(fP cl)[i]?=some ((fP cl).getD i (0,0)):=by
 rw [List.getD_eq_getElem?_getD,Hz (show i < (fP cl).length from h)]
 rfl
theorem t6 (mark:Bool) (cl:Int):bU (eJ s mark cl 5) (C2 cl mark):=by
 refine (bU.runs (b:=[]) (fun i (l:List dz)=>(l.map lP).Sublist ((fP cl).take i)∧∀a∈l,(0≤a.X∧a.X≤1000)∧(-200≤a.Y∧a.Y≤800)∧(a.Kind=2→mark=true)) 5 ⟨List.nil_sublist _,fun a ha=>by cases ha⟩ fun i l hi ⟨h1,h2⟩=>(bU.any _).bnd fun z _=>bU.ite (fun h3=>(cS s (by omega)).bnd fun x hx=>(cS s (by omega)).bnd fun y hy=>bU.ret ⟨?_,fun a ha=>?_⟩) fun _=>bU.ret ⟨?_,h2⟩).mono fun l ⟨h1,h2⟩=>⟨h1,h2⟩
 ·rw [List.take_add_one,t2 hi,List.map_append]
  exact h1.append (List.Sublist.refl _)
 ·rcases Hn ha with ha | ha
  ·exact h2 a ha
  ·rw [Hm ha]
   refine ⟨by dsimp only;omega,by dsimp only;omega,fun hk=>?_⟩
   rcases h3.2 with h4 | h4
   ·exact absurd hk h4
   ·exact h4
 ·rw [List.take_add_one]
  exact h1.trans (List.sublist_append_left _ _)
def Gl (a b:dG):Prop:=a.Region < b.Region∨(a.Region=b.Region∧a.Point < b.Point)
structure C5 (R pts:Nat) (l:List dG):Prop where
 up:l.Pairwise Gl
 len:l.length≤R * (pts+1)
 dom:∀d∈l,(0≤d.Region∧d.Region < R)∧(-1≤d.Point∧d.Point < pts)∧(-20≤d.X∧d.X≤20)∧(-20≤d.Y∧d.Y≤20)∧(d.Point= -1→d.Y=0)
structure sT (r p pts:Nat) (l:List dG):Prop where
 up:l.Pairwise Gl
 len:l.length≤r * (pts+1)+p
 dom:∀d∈l,(0≤d.Region∧(d.Region < r∨(d.Region=r∧d.Point < (p:Int) - 1)))∧(-1≤d.Point∧d.Point < pts)∧(-20≤d.X∧d.X≤20)∧(-20≤d.Y∧d.Y≤20)∧(d.Point= -1→d.Y=0)
theorem sT.more {r p pts:Nat} {l:List dG} (h:sT r p pts l):sT r (p+1) pts l:=⟨h.up,by have:=h.len;omega,fun d hd=>by have:=h.dom d hd;omega⟩
theorem sT.add {r p pts:Nat} {l:List dG} (h:sT r p pts l) {x y:Int} (hp:p≤pts) (hx: -20≤x∧x≤20) (hy: -20≤y∧y≤20) (h0:p=0→y=0):sT r (p+1) pts (l++[⟨r,(p:Int) - 1,x,y⟩]):=by
 refine ⟨?_,by have:=h.len;simp;omega,fun d hd=>?_⟩
 ·rw [List.pairwise_append]
  refine ⟨h.up,List.pairwise_singleton ..,fun a ha b hb=>?_⟩
  rw [Hm hb]
  have:=h.dom a ha
  unfold Gl
  dsimp only
  omega
 ·rcases Hn hd with hd | hd
  ·have:=h.dom d hd;omega
  ·rw [Hm hd]
   dsimp only
   refine ⟨by omega,by omega,hx,hy,fun hq=>h0 (by omega)⟩
theorem pB (pts R:Nat):bU (g7 s pts R) (C5 R pts):=by
 refine (bU.runs (fun r l=>sT r 0 pts l) R ⟨.nil,by simp,fun d hd=>by cases hd⟩ fun r l _ h=>?_).mono fun l h=>⟨h.up,h.len,fun d hd=>by have:=h.dom d hd;omega⟩
 refine (bU.runs (fun p l=>sT r p pts l) (pts+1) h fun p l hp h=>(bU.any _).bnd fun z _=>bU.ite (fun _=>(cS s (by omega)).bnd fun x hx=>bU.ite (fun h0=>bU.ret ?_) fun h0=>(cS s (by omega)).bnd fun y hy=>bU.ret ?_) fun _=>bU.ret h.more).mono fun l h=>⟨h.up,by have:=h.len;rw [Nat.add_mul];omega,fun d hd=>by have:=h.dom d hd;omega⟩
 ·subst h0
  exact h.add (by omega) (by omega) (by omega) fun _=>rfl
 ·exact h.add (by omega) (by omega) (by omega) fun e=>absurd e h0
structure xC (R n:Nat) (g:bn):Prop where
 name:g.Name=cL n
 adv:100≤g.Advance∧g.Advance≤1000
 out:∃k,k≤2∧sV k (g.Points,g.Ends)
 parts:g.Parts=[]∨(1 < n∧∃x y:Int,g.Parts=[⟨1,x,y⟩]∧(-200≤x∧x≤200)∧0≤y∧y≤200)
 anch:∃cl,(0≤cl∧cl < 2)∧C2 cl g.Mark g.Anchors
 dels:C5 R g.Points.length g.Deltas
 hint:iu 45 g.Hint
theorem yk {R fn n:Nat} (hf:fn≤1000):bU (jO s R fn n) (xC R n):=by
 have hparts:bU (iG s n) fun ps=>ps=[]∨(1 < n∧∃x y:Int,ps=[⟨1,x,y⟩]∧(-200≤x∧x≤200)∧0≤y∧y≤200):=by
  refine bU.ite (fun h1=>(bU.any _).bnd fun z _=>bU.ite (fun _=>(cS s (by omega)).bnd fun x hx=>(cS s (by omega)).bnd fun y hy=>bU.ret (.inr ⟨h1,_,_,rfl,by omega,by omega⟩)) fun _=>bU.ret (.inl rfl)) fun _=>bU.ret (.inl rfl)
 refine (cS s (by omega)).bnd fun ad had=>(bU.any _).bnd fun mk _=>(oF s).bnd fun o ho=>hparts.bnd fun ps hps=>(cS s (by omega)).bnd fun cl hcl=>(t6 s _ cl).bnd fun an han=>(pB s _ R).bnd fun de hde=>(bU.any _).bnd fun _ _=>?_
 have hl:o.1.length≤10:=by obtain ⟨k,h1,h2⟩:=ho;have:=h2.len;omega
 exact (tS s (n:=o.1.length) (funcs:=fn) (most:=6) (by omega) (by omega) (by omega)).bnd fun h hh=>bU.ret ⟨rfl,by dsimp only;omega,ho,hps,⟨cl,hcl,han⟩,hde,hh⟩
def o9 (t:eX):Prop:=rR 0 t=0
structure eA (f:aL):Prop where
  unit:16≤f.Unit∧f.Unit≤4096
  glyN:2≤f.Glyphs.length∧f.Glyphs.length≤10
  gly:∀(i:Nat) g,f.Glyphs[i]?=some g→xC f.Regions.length i g
  chars:f.Chars.length≤16
  charR:(f.Chars.map f0.Rune).Sublist ez
  charG:∀c∈f.Chars,0≤c.Glyph∧c.Glyph < f.Glyphs.length
  looks:zx f.Glyphs.length f.Lookups
  featN:(f.Features.map bV.Name).Sublist eV
  featL:∀t∈f.Features,t.Lookups.Pairwise (· < ·)∧t.Lookups.length≤6∧∀z∈t.Lookups,0≤z∧z < f.Lookups.length
  axes:f.Axes.length≤2
  axisN:f.Axes.map eu.Name=(List.range f.Axes.length).map (j9 tk)
  axis:∀a∈f.Axes,(-200≤a.Min∧a.Min≤0)∧a.Def=0∧0≤a.Max∧a.Max≤300
  regs:f.Regions.length≤3
  reg:∀r∈f.Regions,r.length=f.Axes.length∧∀t∈r,o9 t
  funcs:f.Funcs.length≤2
  func:∀c∈f.Funcs,iu 45 c
  cvt:f.Cvt.length≤3
  cvtM:∀z∈f.Cvt,-100≤z∧z < 400
theorem pL {α:Type} {l:List α} {i:Nat} (h:i < l.length) (d:α):l.getD i d∈l:=by
 rw [List.getD_eq_getElem?_getD,Hz h]
 exact List.getElem_mem h
theorem jN {α:Type} {l:List α} {i:Nat} (h:i < l.length) (d:α):l[i]?=some (l.getD i d):=by
 rw [List.getD_eq_getElem?_getD,Hz h]
 rfl
theorem B6:bU (B5 s) eA:=by
  have hax:∀k:Nat,bU (kG s k) fun l=>l.length=k∧l.map eu.Name=(List.range k).map (j9 tk)∧∀a∈l,(-200≤a.Min∧a.Min≤0)∧a.Def=0∧0≤a.Max∧a.Max≤300:=fun k=>by
    refine bU.runs (fun i (l:List eu)=>l.length=i∧l.map eu.Name=(List.range i).map (j9 tk)∧∀a∈l,(-200≤a.Min∧a.Min≤0)∧a.Def=0∧0≤a.Max∧a.Max≤300) k ⟨rfl,rfl,fun a ha=>by cases ha⟩ fun i l _ ⟨h1,h2,h3⟩=>(cS s (by omega)).bnd fun a ha=>(cS s (by omega)).bnd fun b hb=>bU.ret ⟨by simp [h1],by simp [h2,List.range_succ],fun x hx=>?_⟩
    rcases Hn hx with hx | hx
    · exact h3 x hx
    · rw [Hm hx];dsimp only;omega
  have hrg:∀k:Nat,bU (fC s k) fun l=>l.length≤3∧∀r∈l,r.length=k∧∀t∈r,o9 t:=fun k=>by
    refine bU.ite (fun _=>bU.ret ⟨Nat.zero_le _,fun r hr=>by cases hr⟩) fun _=>(cS s (by omega)).bnd fun n hn=>?_
    refine (bU.runs (fun i (l:List (List eX))=>l.length=i∧∀r∈l,r.length=k∧∀t∈r,o9 t) n.toNat ⟨rfl,fun a ha=>by cases ha⟩ fun i l _ ⟨h1,h2⟩=>?_).mono fun l ⟨h1,h2⟩=>⟨by omega,h2⟩
    refine (bU.runs (fun i (r:List eX)=>r.length=i∧∀t∈r,o9 t) k ⟨rfl,fun a ha=>by cases ha⟩ fun i r _ ⟨h1,h2⟩=>(cS s (by omega)).bnd fun z hz=>bU.ret ⟨by simp [h1],fun x hx=>?_⟩).bnd fun r hr=>bU.ret ⟨by simp [h1],fun x hx=>?_⟩
    · rcases Hn hx with hx | hx
      · exact h2 x hx
      · rw [Hm hx]
        have:∀t∈k7,o9 t:=by unfold o9;decide
        exact this _ (pL (by simp only [k7,List.length_cons,List.length_nil];omega) _)
    · rcases Hn hx with hx | hx
      · exact h2 x hx
      · rw [Hm hx];exact hr
  have hfu:∀k:Nat,k≤1000→bU (ix s k) fun l=>l.length=k∧∀c∈l,iu 45 c:=fun k hk=>by
    refine bU.runs (fun i (l:List (List fT))=>l.length=i∧∀c∈l,iu 45 c) k ⟨rfl,fun a ha=>by cases ha⟩ fun i l hi ⟨h1,h2⟩=>(bU.any _).bnd fun _ _=>(tS s (by omega) (by omega) (by omega)).bnd fun h hh=>bU.ret ⟨by simp [h1],fun x hx=>?_⟩
    rcases Hn hx with hx | hx
    · exact h2 x hx
    · rw [Hm hx];exact hh
  have hcv:∀k:Nat,bU (py s k) fun l=>l.length=k∧∀z∈l,-100≤z∧z < 400:=fun k=>by
    refine bU.runs (fun i (l:List Int)=>l.length=i∧∀z∈l,-100≤z∧z < 400) k ⟨rfl,fun a ha=>by cases ha⟩ fun i l hi ⟨h1,h2⟩=>(cS s (by omega)).bnd fun z hz=>bU.ret ⟨by simp [h1],fun x hx=>?_⟩
    rcases Hn hx with hx | hx
    · exact h2 x hx
    · rw [Hm hx];omega
  have hgl:∀R fn k:Nat,fn≤1000→bU (g9 s R fn k) fun l=>l.length=k∧∀(i:Nat) g,l[i]?=some g→xC R i g:=fun R fn k hf=>by
    refine bU.runs (fun i (l:List bn)=>l.length=i∧∀(j:Nat) g,l[j]?=some g→xC R j g) k ⟨rfl,fun j g h=>by simp at h⟩ fun i l hi ⟨h1,h2⟩=>(yk s hf).bnd fun g hg=>bU.ret ⟨by simp [h1],fun j x hx=>?_⟩
    rcases Nat.lt_or_ge j l.length with h | h
    · rw [List.getElem?_append_left h] at hx
      exact h2 j x hx
    · have hj:=(Hp hx).1
      have:j=l.length:=by simp at hj;omega
      subst this
      rw [List.getElem?_append_right (Nat.le_refl _),Nat.sub_self] at hx
      cases hx
      rw [h1]
      exact hg
  have hch:∀n:Int,0 < n→bU (gW s n 16) fun l=>(l.map f0.Rune).Sublist ez∧∀c∈l,0≤c.Glyph∧c.Glyph < n:=fun n hn=>by
    refine (bU.runs (b:=[]) (fun i (l:List f0)=>(l.map f0.Rune).Sublist (ez.take i)∧∀c∈l,0≤c.Glyph∧c.Glyph < n) 16 ⟨List.nil_sublist _,fun a ha=>by cases ha⟩ fun i l hi ⟨h1,h2⟩=>(bU.any _).bnd fun z _=>bU.ite (fun _=>(cS s hn).bnd fun g hg=>bU.ret ⟨?_,fun x hx=>?_⟩) fun _=>bU.ret ⟨?_,h2⟩).mono fun l h=>h
    · rw [List.take_add_one,jN (l:=ez) (i:=i) hi 0,List.map_append]
      exact h1.append (List.Sublist.refl _)
    · rcases Hn hx with hx | hx
      · exact h2 x hx
      · rw [Hm hx];exact hg
    · rw [List.take_add_one]
      exact h1.trans (List.sublist_append_left _ _)
  have hft:∀n:Nat,n≤6→bU (gY s n 8) fun l=>(l.map bV.Name).Sublist eV∧∀t∈l,t.Lookups.Pairwise (· < ·)∧t.Lookups.length≤6∧∀z∈t.Lookups,0≤z∧z < n:=fun n hn=>by
    have hask:bU (nz s n) fun l=>l.Pairwise (· < ·)∧l.length≤n∧∀z∈l,0≤z∧z < n:=by
      refine bU.runs (fun i (l:List Int)=>l.Pairwise (· < ·)∧l.length≤i∧∀z∈l,0≤z∧z < i) n ⟨.nil,Nat.le_refl _,fun a ha=>by cases ha⟩ fun i l hi ⟨h1,h2,h3⟩=>(bU.any _).bnd fun z _=>bU.ret ?_
      split
      · refine ⟨?_,by simp;omega,fun x hx=>?_⟩
        · rw [List.pairwise_append]
          exact ⟨h1,List.pairwise_singleton ..,fun a ha b hb=>by rw [Hm hb];have:=h3 a ha;omega⟩
        · rcases Hn hx with hx | hx
          · have:=h3 x hx;omega
          · rw [Hm hx];omega
      · exact ⟨h1,by omega,fun x hx=>by have:=h3 x hx;omega⟩
    refine (bU.runs (b:=[]) (fun i (l:List bV)=>(l.map bV.Name).Sublist (eV.take i)∧∀t∈l,t.Lookups.Pairwise (· < ·)∧t.Lookups.length≤6∧∀z∈t.Lookups,0≤z∧z < n) 8 ⟨List.nil_sublist _,fun a ha=>by cases ha⟩ fun i l hi ⟨h1,h2⟩=>hask.bnd fun r hr=>(bU.any _).bnd fun z _=>bU.ret ?_).mono fun l h=>h
    split
    · refine ⟨?_,fun x hx=>?_⟩
      · rw [List.take_add_one,jN (l:=eV) (i:=i) hi ByteArray.empty,List.map_append]
        exact h1.append (List.Sublist.refl _)
      · rcases Hn hx with hx | hx
        · exact h2 x hx
        · rw [Hm hx];exact ⟨hr.1,by have:=hr.2.1;dsimp only;omega,hr.2.2⟩
    · rw [List.take_add_one]
      exact ⟨h1.trans (List.sublist_append_left _ _),h2⟩
  refine (cS s (by omega)).bnd fun u hu=>(cS s (by omega)).bnd fun k hk=>(hax _).bnd fun ax ⟨ha1,ha2,ha3⟩=>(hrg _).bnd fun rg ⟨hr1,hr2⟩=>(cS s (by omega)).bnd fun k2 hk2=>(hfu _ (by omega)).bnd fun fu ⟨hf1,hf2⟩=>(cS s (by omega)).bnd fun k3 hk3=>(hcv _).bnd fun cv ⟨hc1,hc2⟩=>(cS s (by omega)).bnd fun k4 hk4=>(hgl _ _ _ (by omega)).bnd fun gl ⟨hg1,hg2⟩=>(hch gl.length (by omega)).bnd fun ch ⟨hh1,hh2⟩=>(oC s (n:=gl.length) (by omega)).bnd fun lk hlk=>(hft lk.length hlk.len).bnd fun ft ⟨ht1,ht2⟩=>bU.ret ?_
  refine ⟨?_,by dsimp only;omega,hg2,?_,hh1,hh2,hlk,ht1,ht2,by dsimp only;omega,by dsimp only;rw [ha1];exact ha2,ha3,hr1,fun r hr=>⟨by dsimp only;rw [ha1];exact (hr2 r hr).1,(hr2 r hr).2⟩,by dsimp only;omega,hf2,by dsimp only;omega,hc2⟩
  · have:∀j < 4,16≤mq.getD j 0∧mq.getD j 0≤4096:=by decide
    exact this _ (by omega)
  · have:=hh1.length_le
    simpa [ez] using this
theorem D1:eA (rD s):=B6 s ⟨0,0⟩
end Go.Proofs.YtpbinloeemebkaaGreat
