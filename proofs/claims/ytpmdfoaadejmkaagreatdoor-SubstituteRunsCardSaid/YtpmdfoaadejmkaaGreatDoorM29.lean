/-
  The maker: lookups.
-/
import Derived.Test.YtpmdfoaadejmkaaGreatDoorM28
import Derived.Test.YtpmdfoaadejmkaaGreatDoorM27
namespace Go.Proofs.YtpmdfoaadejmkaaGreatDoor
open Go.RowKit
attribute [local irreducible] AT bK AX AO Av Kt bh dw DA cK
variable (s:List Int) (hs:s.length≤1000000) (F:MF)
include hs
theorem wG (k:Nat) (m:MS):(ev s k m).1.1.length=k∧(ev s k m).1.2.length≤k:=by
 have _:=hs
 clear hs
 induction k with
 | zero=>exact ⟨rfl,Nat.le_refl _⟩
 | succ k ih=>
  have:ev s (k+1) m=(c9 (dr s 10) fun z=>c9 (dr s 3) fun y=>ret ((ev s k m).1.1++[(⟨fC.getD z.toNat 0,decide (y=0),[]⟩:aO)],if fC.getD z.toNat 0≤4 then (ev s k m).1.2++[(k:Int)] else (ev s k m).1.2)) (ev s k m).2:=rfl
  rw [this]
  simp only [c9,ret]
  refine ⟨by simp [ih.1],?_⟩
  split
  ·simp;omega
  ·omega
theorem BP (n:Int) (calls:List Int) (l:List aO) (k:Nat) (m:MS):(fb s n calls l k m).1.length=l.length∧∀j,k≤j→(fb s n calls l k m).1[j]?=l[j]?:=by
 have _:=hs
 clear hs
 induction k with
 | zero=>exact ⟨rfl,fun j _=>rfl⟩
 | succ k ih=>
  have:fb s n calls l (k+1) m=(match (fb s n calls l k m).1[k]? with
   | none=>ret (fb s n calls l k m).1
   | some q=>if q.Kind≥7 then ret (fb s n calls l k m).1 else c9 (dr s 3) fun c=>c9 (eW s n q.Kind calls (1+c).toNat) fun rs=>ret ((fb s n calls l k m).1.set k { q with Rules:=rs })) (fb s n calls l k m).2:=rfl
  rw [this]
  cases hq:(fb s n calls l k m).1[k]? with
  | none=>exact ⟨ih.1,fun j hj=>ih.2 j (by omega)⟩
  | some q=>
   dsimp only
   by_cases h7:q.Kind≥7
   ·rw [if_pos h7]
    exact ⟨ih.1,fun j hj=>ih.2 j (by omega)⟩
   ·rw [if_neg h7]
    simp only [c9,ret]
    refine ⟨by rw [List.length_set];exact ih.1,fun j hj=>?_⟩
    rw [List.getElem?_set_ne (by omega)]
    exact ih.2 j (by omega)
theorem xg (n kind:Int) (calls:List Int) (k:Nat) (m:MS):(eW s n kind calls k m).1.length=k:=by
 have _:=hs
 clear hs
 induction k with
 | zero=>rfl
 | succ k ih=>
  have:eW s n kind calls (k+1) m=((eW s n kind calls k m).1++[(gC s n kind calls (eW s n kind calls k m).2).1],(gC s n kind calls (eW s n kind calls k m).2).2):=rfl
  rw [this]
  simp [ih]
abbrev gM (F:MF) (v:AV):MF:={ F with lk:=v }
set_option maxHeartbeats 16000000 in
theorem wR {kg:Option (Nat×Nat)} {gl:List (List AV)} (hF:F.gl= .vec kg 9 gl) (hl:F.lk=bT) (n:Nat) (hn:gl.length=n) (h0:0 < n∧n≤1000) (b:Nat) (m:MS):AC Tryz.prog 93 [DG b] [dT b s F m] fun _ L=>L=[dT b s (gM F (.imm 3 ((iH s n m).1.map bi))) (iH s n m).2]:=by
 refine aN Tryz.func93 rfl Tryz.ntmps93 rfl fun B=>?_
 repeat' (first|refine JU ?_|refine JG a5 JA ?_)
 refine cD ?_
 have hk:=cq s hs m.a (n:=7) (by omega)
 have hk:0≤(dr s 7 m).1∧(dr s 7 m).1 < 7:=hk
 generalize e1:dr s 7 m=p1 at hk ⊢
 obtain ⟨k,hkk⟩:∃k:Nat,p1.1=k:=⟨p1.1.toNat,by omega⟩
 rw [hkk]
 have hFF:F=gM F bT:=by
  cases F
  simp only at hl
  rw [hl]
 rw [hFF]
 repeat' (first|refine JU ?_|refine am ?_|refine JG a5 JA ?_)
 refine bS (bL (t:=3) (c':= .vec none 1 []) rfl fun σ v h=>cR 1 h) ?_
 refine aP [0,2] (α:=Nat×Option (Nat×Nat)×Option (Nat×List AV×Nat)) (fun x=>[(4,aF x.1),(3,.vec x.2.1 1 (aW (ev s x.1 p1.2).1.2))]) (fun x=>x.1≤k∧y7 x.1 0 (ev s x.1 p1.2).1.1 x.2.2) (fun x=>dT b s (gM F (zF x.1 x.2.2)) (ev s x.1 p1.2).2::(Ci x.2.2++(tok x.2.1 3 1 (aW (ev s x.1 p1.2).1.2).length++[]))) (fun x=>k - x.1) (0,none,none) rfl ⟨rfl,rfl,trivial⟩ ⟨Nat.zero_le _,rfl⟩ (fun _ _ h=>by simpa [ev,gX,ret,tok,aW,Ci,zF] using h) ?_
 rintro ⟨i,q,o⟩ ⟨hi,ho⟩
 dsimp only at hi ho ⊢
 have hln:=wG s hs i p1.2
 try dsimp only [Jt,Js,Jr,Kz]
 repeat' (first|refine JU ?_|refine JG a5 JA ?_)
 refine ar rfl (fun h=>?_) (fun h=>?_)
 ·have hil:i < k:=by have:=Jz h;omega
  have hstep:ev s (i+1) p1.2=(c9 (dr s 10) fun z=>c9 (dr s 3) fun y=>ret ((ev s i p1.2).1.1++[(⟨fC.getD z.toNat 0,decide (y=0),[]⟩:aO)],if fC.getD z.toNat 0≤4 then (ev s i p1.2).1.2++[(i:Int)] else (ev s i p1.2).1.2)) (ev s i p1.2).2:=rfl
  generalize ev s i p1.2=st at hln ho hstep ⊢
  have hil2:(aW st.1.2).length=st.1.2.length:=aZ _
  repeat' (first|refine JU ?_|refine am ?_|refine JG a5 JA ?_|refine bN a5 ?_|fail)
  refine cD ?_
  have hz:=cq s hs st.2.a (n:=10) (by omega)
  have hz:0≤(dr s 10 st.2).1∧(dr s 10 st.2).1 < 10:=hz
  unfold c9 at hstep
  generalize dr s 10 st.2=z at hz hstep ⊢
  dsimp only at hstep
  have hzk:(aW fC)[z.1.toNat]?=some [aF (fC.getD z.1.toNat 0)]:=bO (by rw [List.getD_eq_getElem?_getD,Hb (show z.1.toNat < fC.length by simp [fC];omega)];rfl)
  generalize hkd:fC.getD z.1.toNat 0=kd at hzk hstep
  repeat' (first|refine JU ?_|refine JG a5 JA ?_|(apply aL;first|refine aK a5 ?_|refine aG a5 ?_)|fail)
  refine di [.cell (b,5,zF i o)] 13 [(0,.v),(1,.v),(2,.v),(3,.v),(4,.v),(5,.k),(6,.v),(7,.v),(8,.f),(9,.v),(10,.v),(11,.v),(12,.e)] none ?_ trivial rfl (by kernel_rfl) (by kernel_rfl) (by kernel_rfl) bQ (by kernel_rfl) rfl
  repeat' (first|refine aD ?_|refine b8 a5 ?_|fail)
  refine dJ a5 0 rfl rfl rfl (bP 0 rfl rfl c5) (by first | trivial | rfl) ?_
  repeat' (first|refine aD ?_|refine b8 a5 ?_|fail)
  refine eF (bP 0 rfl rfl c5) ?_
  generalize dr s 3 z.2=y at hstep ⊢
  repeat' (first|refine aD ?_|refine b8 a5 ?_|refine ej a5 ?_|fail)
  have hst1:st.1.1.length=i:=hln.1
  rcases o with _ | ⟨ob,ocs,ocap⟩
  ·have hi0:i=0:=ho
   subst hi0
   refine wo a5 rfl rfl rfl rfl rfl rfl rfl (by first | trivial | rfl) fun b' cs' cap' h1 h2 h3 h4=>?_
   have hrow:y7 (0+1) 0 (st.1.1++[⟨kd,decide (y.1=0),[]⟩]) (some (b',cs',cap')):=by
    refine ⟨h1,by omega,h4,?_⟩
    rw [List.eq_nil_of_length_eq_zero (by omega:st.1.1.length=0)]
    exact h2
   refine JQ [0,2,3,4,5,21,33] JA ?_
   refine aJ (aR (L':=dT b s (gM F (zF 0 none)) y.2::(Ci (some (b',cs',cap'))++(tok q 3 1 (aW st.1.2).length++[]))) (List.Perm.swap _ _ _)) ?_
   repeat' (first|refine JU ?_|refine JG a5 JA ?_|(apply aM;first|refine JH a5 0 JE ?_|refine JH a5 1 JE ?_|refine JH a5 2 JE ?_|refine JH a5 3 JE ?_|fail))
   refine ar rfl (fun hk4=>?_) (fun hk4=>?_)
   ·rw [if_pos (Jz hk4)] at hstep
    dsimp only [ret] at hstep
    repeat' (first|refine JU ?_|refine JG a5 JA ?_|refine bN a5 ?_|fail)
    refine bI a5 _ rfl rfl rfl rfl (eI (A:=[_,_])) (by simp [aZ];omega) (by simp [aZ];omega) rfl fun q'=>?_
    refine aJ (aR (eI (A:=[_,_])).symm) ?_
    repeat' (first|refine JU ?_|refine JG a5 JA ?_|(apply aS;refine aQ ?_)|fail)
    exact aC (0+1,q',some (b',cs',cap')) rfl ⟨rfl,by rw [hstep];dsimp only;rw [show aW (st.1.2++[((0:Nat):Int)])=aW st.1.2++[[aF ((0:Nat):Int)]] from List.map_append ..];rfl,trivial⟩ ⟨by dsimp only;omega,by rw [hstep];exact hrow⟩ (by dsimp only;omega) (fun _ _ h=>by dsimp only;rw [hstep];dsimp only;rw [show aW (st.1.2++[((0:Nat):Int)])=aW st.1.2++[[aF ((0:Nat):Int)]] from List.map_append ..];exact h)
   ·rw [if_neg (Jy hk4)] at hstep
    dsimp only [ret] at hstep
    repeat' (first|refine JU ?_|refine JG a5 JA ?_|(apply aS;refine aQ ?_)|fail)
    exact aC (0+1,q,some (b',cs',cap')) rfl ⟨rfl,by rw [hstep];rfl,trivial⟩ ⟨by dsimp only;omega,by rw [hstep];exact hrow⟩ (by dsimp only;omega) (fun _ _ h=>by dsimp only;rw [hstep];exact h)
  ·obtain ⟨ho1,ho2,ho3,ho4⟩:=ho
   refine zb a5 1 rfl rfl rfl rfl rfl rfl rfl ho1 ho2 ho3 (by unfold maxLen;omega) (by omega) (by first | trivial | rfl) fun b' cs' cap' h1 h2 h3 h4=>?_
   have hrow:y7 (i+1) 0 (st.1.1++[⟨kd,decide (y.1=0),[]⟩]) (some (b',cs',cap')):=by
    refine ⟨h1,h3,h4,?_⟩
    rw [h2,ho4,y8]
    rfl
   refine JQ [0,2,3,4,5,21,33] JA ?_
   refine aJ (aR (L':=dT b s (gM F (zF i (some (ob,ocs,ocap)))) y.2::(Ci (some (b',cs',cap'))++(tok q 3 1 (aW st.1.2).length++[]))) (List.Perm.swap _ _ _)) ?_
   repeat' (first|refine JU ?_|refine JG a5 JA ?_|(apply aM;first|refine JH a5 0 JE ?_|refine JH a5 1 JE ?_|refine JH a5 2 JE ?_|refine JH a5 3 JE ?_|fail))
   refine ar rfl (fun hk4=>?_) (fun hk4=>?_)
   ·rw [if_pos (Jz hk4)] at hstep
    dsimp only [ret] at hstep
    repeat' (first|refine JU ?_|refine JG a5 JA ?_|refine bN a5 ?_|fail)
    refine bI a5 _ rfl rfl rfl rfl (eI (A:=[_,_])) (by simp [aZ];omega) (by simp [aZ];omega) rfl fun q'=>?_
    refine aJ (aR (eI (A:=[_,_])).symm) ?_
    repeat' (first|refine JU ?_|refine JG a5 JA ?_|(apply aS;refine aQ ?_)|fail)
    exact aC (i+1,q',some (b',cs',cap')) rfl ⟨by rw [Jw];rfl,by rw [hstep];dsimp only;rw [show aW (st.1.2++[(i:Int)])=aW st.1.2++[[aF (i:Int)]] from List.map_append ..];rfl,trivial⟩ ⟨by dsimp only;omega,by rw [hstep];exact hrow⟩ (by dsimp only;omega) (fun _ _ h=>by dsimp only;rw [hstep];dsimp only;rw [show aW (st.1.2++[(i:Int)])=aW st.1.2++[[aF (i:Int)]] from List.map_append ..];exact h)
   ·rw [if_neg (Jy hk4)] at hstep
    dsimp only [ret] at hstep
    repeat' (first|refine JU ?_|refine JG a5 JA ?_|(apply aS;refine aQ ?_)|fail)
    exact aC (i+1,q,some (b',cs',cap')) rfl ⟨by rw [Jw];rfl,by rw [hstep];rfl,trivial⟩ ⟨by dsimp only;omega,by rw [hstep];exact hrow⟩ (by dsimp only;omega) (fun _ _ h=>by dsimp only;rw [hstep];exact h)
 have hil:i=k:=by have:=Jy h;omega
 subst hil
 have hhd:=sh s i p1.2
 generalize e2:ev s i p1.2=st at hln ho hhd ⊢
 have hv:iH s n m=fb s n st.1.2 st.1.1 i st.2:=by
  unfold iH c9
  rw [e1]
  dsimp only
  rw [hkk,Int.toNat_natCast,e2]
 rw [hv]
 have hfi:=fun j=>BP s hs n st.1.2 st.1.1 j st.2
 repeat' (first|refine JU ?_|refine am ?_|refine JG a5 JA ?_)
 refine bS (bA (L':=dT b s (gM F (zF i o)) st.2::(Ci o++[])) (List.Sublist.cons_cons _ ((List.nil_sublist _).append_left _))) ?_
 rcases o with _ | ⟨ob,ocs,ocap⟩
 ·have hi0:i=0:=ho
  subst hi0
  refine aP [0,2,3] (α:=Unit) (fun _=>[(6,aF 0)]) (fun _=>True) (fun _=>[dT b s (gM F bT) st.2]) (fun _=>0) () rfl ⟨rfl,trivial⟩ trivial (fun _ _ h=>h) ?_
  intro _ _
  try dsimp only [Jt,Js,Jr,Kz]
  repeat' (first|refine JU ?_|refine JG a5 JA ?_|refine bC rfl ?_)
  have hnil:(fb s n st.1.2 st.1.1 0 st.2).1=[]:=List.eq_nil_of_length_eq_zero (by rw [(hfi 0).1];exact hln.1)
  refine bk (bE 0 (cs':=HW s (gM F (.imm 3 [])) st.2) rfl fun σ vs h=>cA (k:=5) (c:=bT) h rfl fun v hv=>io 3 hv) (cH rfl ?_)
  rw [hnil]
  rfl
 refine aP [0,2,3] (α:=Nat×List AV) (fun x=>[(6,aF x.1)]) (fun x=>x.1≤i∧y7 i x.1 (fb s n st.1.2 st.1.1 x.1 st.2).1 (some (ob,x.2,ocap))) (fun x=>[dT b s (gM F (zF i (some (ob,ocs,ocap)))) (fb s n st.1.2 st.1.1 x.1 st.2).2,(ob,.box x.2 59)]) (fun x=>i - x.1) (0,ocs) rfl ⟨rfl,trivial⟩ ⟨Nat.zero_le _,ho⟩ (fun _ _ h=>h) ?_
 rintro ⟨j,cs⟩ ⟨hj,h1,h2,h3,h4⟩
 dsimp only at hj h1 h2 h3 h4 ⊢
 try dsimp only [Jt,Js,Jr,Kz]
 repeat' (first|refine JU ?_|refine JG a5 JA ?_)
 refine ar rfl (fun h=>?_) (fun h=>?_)
 ·have hji:j < i:=by have:=Jz h;omega
  have hfj:=hfi j
  have hstep:fb s n st.1.2 st.1.1 (j+1) st.2=(match (fb s n st.1.2 st.1.1 j st.2).1[j]? with
   | none=>ret (fb s n st.1.2 st.1.1 j st.2).1
   | some q=>if q.Kind≥7 then ret (fb s n st.1.2 st.1.1 j st.2).1 else c9 (dr s 3) fun c=>c9 (eW s n q.Kind st.1.2 (1+c).toNat) fun rs=>ret ((fb s n st.1.2 st.1.1 j st.2).1.set j { q with Rules:=rs })) (fb s n st.1.2 st.1.1 j st.2).2:=rfl
  generalize fb s n st.1.2 st.1.1 j st.2=T at hfj h4 hstep ⊢
  have hTl:T.1.length=i:=by rw [hfj.1];exact hln.1
  obtain ⟨q,hq⟩:∃q,T.1[j]?=some q:=⟨_,Hb (by omega)⟩
  have hq2:st.1.1[j]?=some q:=by rw [←hfj.2 j (Nat.le_refl _)];exact hq
  have hqm:=Jx hq2
  have hqk:=hhd.kinds q hqm
  have hqn:=hhd.none q hqm
  rw [hq] at hstep
  dsimp only at hstep
  have hcell:∀c,c < 3→cs[j * 3+c]?=(fx j j q)[c]?:=fun c hc=>by
   have e:=tj j T.1 0 j c hc
   rw [hq,Option.bind_some,Nat.zero_add,←h4,List.getElem?_take,if_pos (by omega)] at e
   exact e
  have hP:∀c,0+((j:Int)).toNat * 3+c=j * 3+c:=fun c=>by rw [Int.toNat_natCast];omega
  have hc0:cs[0+((j:Int)).toNat * 3+0]?=some (aF q.Kind):=by rw [hP];exact hcell 0 (by omega)
  have hc2:cs[0+((j:Int)).toNat * 3+2]?=some bT:=by
   rw [hP,hcell 2 (by omega)]
   simp [fx]
  have hPl:0+((j:Int)).toNat * 3+2 < cs.length:=(Jq hc2).1
  repeat' (first|refine JU ?_|refine am ?_|refine JG a5 JA ?_|(apply bF;first|refine JJ a5 0 JD ?_|refine JJ a5 1 JD ?_|refine JJ a5 2 JD ?_|refine JJ a5 3 JD ?_|refine JK a5 0 JD ?_|refine JK a5 1 JD ?_|refine JK a5 2 JD ?_|refine JL a5 1 JB (by assumption) rfl ?_|refine JL a5 0 JB (by assumption) rfl ?_|fail)|(apply aL;first|refine aK a5 ?_|refine aG a5 ?_)|fail)
  refine ar rfl (fun h7=>?_) (fun h7=>?_)
  ·have h7:=Jz h7
   rw [if_pos (show q.Kind≥7 from h7)] at hstep
   repeat' (first|refine JU ?_|refine JG a5 JA ?_|(apply aS;refine aQ ?_)|fail)
   refine bk (bE 1 (cs':=cs.set (0+((j:Int)).toNat * 3+2) (.imm 6 [])) rfl fun σ vs h=>cA h hc2 fun v hv=>io 6 hv) ?_
   exact aC (j+1,cs.set (0+((j:Int)).toNat * 3+2) (.imm 6 [])) rfl ⟨by rw [Jw];rfl,trivial⟩ ⟨by dsimp only;omega,by dsimp only;rw [List.length_set];exact h1,h2,h3,by rw [hstep,hP];dsimp only [ret];rw [List.take_set,h4];exact EK hq hqn⟩ (by dsimp only;omega) (fun _ _ h=>by dsimp only;rw [hstep];exact h)
  have h7:=Jy h7
  rw [if_neg (show ¬q.Kind≥7 from h7)] at hstep
  unfold c9 at hstep
  repeat' (first|refine JU ?_|refine JG a5 JA ?_)
  refine cD ?_
  have hc:=cq s hs T.2.a (n:=3) (by omega)
  have hc:0≤(dr s 3 T.2).1∧(dr s 3 T.2).1 < 3:=hc
  generalize dr s 3 T.2=p2 at hc hstep ⊢
  dsimp only at hstep
  obtain ⟨c,hcc⟩:∃k:Nat,1+p2.1=k:=⟨(1+p2.1).toNat,by omega⟩
  rw [hcc,Int.toNat_natCast] at hstep
  repeat' (first|refine JU ?_|refine am ?_|refine JG a5 JA ?_|(apply aS;refine aQ ?_)|fail)
  rw [hcc]
  refine bS (bE 1 (cs':=cs.set (0+((j:Int)).toNat * 3+2) (.vec none 6 [])) rfl fun σ vs h=>cA h hc2 fun v hv=>cR 6 hv) ?_
  refine aP [0,2,3,6,7] (α:=Nat×Option (Nat×Nat)) (fun x=>[(8,aF x.1)]) (fun x=>x.1≤c) (fun x=>[dT b s (gM F (zF i (some (ob,ocs,ocap)))) (eW s n q.Kind st.1.2 x.1 p2.2).2,(ob,.box (cs.set (0+((j:Int)).toNat * 3+2) (.vec x.2 6 ((eW s n q.Kind st.1.2 x.1 p2.2).1.map bB))) 59)]++(tok x.2 79 6 ((eW s n q.Kind st.1.2 x.1 p2.2).1.map bB).length++[])) (fun x=>c - x.1) (0,none) rfl ⟨rfl,trivial⟩ (Nat.zero_le _) (fun _ _ h=>h) ?_
  rintro ⟨r,qv⟩ hr
  dsimp only at hr ⊢
  have hrl:=xg s hs n q.Kind st.1.2 r p2.2
  have hrs:eW s n q.Kind st.1.2 (r+1) p2.2=((eW s n q.Kind st.1.2 r p2.2).1++[(gC s n q.Kind st.1.2 (eW s n q.Kind st.1.2 r p2.2).2).1],(gC s n q.Kind st.1.2 (eW s n q.Kind st.1.2 r p2.2).2).2):=rfl
  try dsimp only [Jt,Js,Jr,Kz]
  repeat' (first|refine JU ?_|refine JG a5 JA ?_)
  refine ar rfl (fun h=>?_) (fun h=>?_)
  ·have hrc:r < c:=by have:=Jz h;omega
   generalize eW s n q.Kind st.1.2 r p2.2=R at hrl hrs ⊢
   have hset:(cs.set (0+((j:Int)).toNat * 3+2) (.vec qv 6 (R.1.map bB)))[0+((j:Int)).toNat * 3+2]?=some (.vec qv 6 (R.1.map bB)):=List.getElem?_set_self hPl
   have hset0:(cs.set (0+((j:Int)).toNat * 3+2) (.vec qv 6 (R.1.map bB)))[0+((j:Int)).toNat * 3+0]?=some (aF q.Kind):=by rw [List.getElem?_set_ne (by omega)];exact hc0
   have hRl:(R.1.map bB).length=R.1.length:=Jv ..
   repeat' (first|refine JU ?_|refine am ?_)
   refine di [.cell (b,5,zF i (some (ob,ocs,ocap))),.cell (ob,0+((j:Int)).toNat * 3+2,.vec qv 6 (R.1.map bB))] 29 [(0,.v),(1,.v),(2,.v),(3,.v),(4,.k),(5,.v),(6,.v),(7,.v),(8,.v),(9,.v),(10,.k),(11,.v),(12,.v),(13,.v),(14,.k),(15,.v),(16,.v),(17,.v),(18,.v),(19,.v),(20,.l),(21,.v),(22,.v),(23,.v),(24,.l),(25,.v),(26,.f),(27,.v),(28,.f)] none ?_ trivial rfl (by kernel_rfl) (by kernel_rfl) (by kernel_rfl) bQ (by kernel_rfl) rfl
   have hkeep:∀m' Z,eN [.cell (b,5,zF i (some (ob,ocs,ocap))),.cell (ob,0+((j:Int)).toNat * 3+2,.vec qv 6 (R.1.map bB))] (dT b s (gM F (zF i (some (ob,ocs,ocap)))) m'::(ob,.box (cs.set (0+((j:Int)).toNat * 3+2) (.vec qv 6 (R.1.map bB))) 59)::Z):=fun m' Z=>bP 0 rfl rfl (bP 1 rfl hset c5)
   repeat' (first|refine aD ?_|refine b8 a5 ?_|fail)
   refine dJ a5 0 rfl rfl rfl (hkeep _ _) (by first | trivial | rfl) ?_
   repeat' (first|refine aD ?_|refine b8 a5 ?_|fail)
   refine dJ a5 0 rfl rfl rfl (hkeep _ _) (by first | trivial | rfl) ?_
   repeat' (first|refine aD ?_|refine b8 a5 ?_|fail)
   refine dk a5 rfl rfl rfl (by omega) (by first | trivial | rfl) ?_
   repeat' (first|refine aD ?_|refine b8 a5 ?_|fail)
   refine dJ a5 1 rfl rfl rfl (hkeep _ _) (by first | trivial | rfl) ?_
   repeat' (first|refine aD ?_|refine b8 a5 ?_|refine ce a5 0 rfl rfl rfl rfl (by first|trivial|rfl) ?_)
   refine dk a5 rfl rfl rfl (by omega) (by first | trivial | rfl) ?_
   repeat' (first|refine aD ?_|refine b8 a5 ?_|fail)
   refine ce a5 1 rfl rfl rfl hset0 (by first | trivial | rfl) ?_
   repeat' (first|refine aD ?_|refine b8 a5 ?_|fail)
   refine rZ (Ac s hs (gM F (zF i (some (ob,ocs,ocap)))) hF n hn h0 q.Kind (by omega) st.1.2 (by omega)) (hkeep _ _) ?_
   generalize gC s n q.Kind st.1.2 R.2=y at hrs ⊢
   unfold FU
   repeat' (first|refine aD ?_|refine ej a5 ?_|fail)
   refine z9 a5 _ rfl rfl rfl rfl (eI (A:=[_,_])) (by simp;omega) (by simp;omega) (hkeep _ _) (by first | trivial | rfl) fun q'=>?_
   refine JQ [0,2,3,6,7,8,70,71,94] JA ?_
   refine aJ (aR (eI (A:=[_,_])).symm) ?_
   repeat' (first|refine JG a5 JA ?_|(apply aL;first|refine aK a5 ?_|refine aG a5 ?_)|fail)
   refine aa a5 1 rfl rfl rfl rfl rfl rfl (by rw [Nat.ble_eq,List.length_set];exact hPl) ?_
   repeat' (first|refine JU ?_|refine JG a5 JA ?_|(apply aS;refine aQ ?_)|fail)
   exact aC (r+1,q') rfl ⟨by rw [Jw];rfl,trivial⟩ (by dsimp only;omega) (by dsimp only;omega) (fun _ _ h=>by dsimp only;rw [hrs];dsimp only;rw [List.map_append];simp only [fj,List.set_set] at h;exact h)
  have hrc:r=c:=by have:=Jy h;omega
  subst hrc
  generalize eW s n q.Kind st.1.2 r p2.2=R at hrl hstep ⊢
  have hset:(cs.set (0+((j:Int)).toNat * 3+2) (.vec qv 6 (R.1.map bB)))[0+((j:Int)).toNat * 3+2]?=some (.vec qv 6 (R.1.map bB)):=List.getElem?_set_self hPl
  repeat' (first|refine JU ?_|refine JG a5 JA ?_|(apply aS;refine aQ ?_)|fail)
  refine bk (bA (L':=[dT b s (gM F (zF i (some (ob,ocs,ocap)))) R.2,(ob,.box (cs.set (0+((j:Int)).toNat * 3+2) (.vec qv 6 (R.1.map bB))) 59)]) (List.Sublist.cons_cons _ (List.Sublist.cons_cons _ (List.nil_sublist _)))) ?_
  refine bk (bE 1 (cs':=(cs.set (0+((j:Int)).toNat * 3+2) (.vec qv 6 (R.1.map bB))).set (0+((j:Int)).toNat * 3+2) (.imm 6 (R.1.map bB))) rfl fun σ vs h=>cA h hset fun v hv=>VR.im hv) ?_
  rw [List.set_set]
  exact aC (j+1,cs.set (0+((j:Int)).toNat * 3+2) (.imm 6 (R.1.map bB))) rfl ⟨by rw [Jw];rfl,trivial⟩ ⟨by dsimp only;omega,by dsimp only;rw [List.length_set];exact h1,h2,h3,by rw [hstep,hP];dsimp only [ret];rw [List.take_set,h4];exact Co hq⟩ (by dsimp only;omega) (fun _ _ h=>by dsimp only;rw [hstep];exact h)
 have hji:j=i:=by have:=Jy h;omega
 subst hji
 generalize hT:fb s n st.1.2 st.1.1 j st.2=T at h4 ⊢
 have hTl:T.1.length=j:=by rw [←hT,(hfi j).1];exact hln.1
 repeat' (first|refine JU ?_|fail)
 refine bk (aR (List.Perm.swap _ _ _)) ?_
 refine bk (sS (k:=5) (n:=j) (cap:=ocap) (l:=T.1.map bi) rfl (by rw [h4,Cl _ _ _ (by omega)]) h1 (fun q hq=>by
  obtain ⟨x,_,rfl⟩:=List.mem_map.1 hq
  rfl) (by rw [Jv];exact hTl) h2 h3) ?_
 exact cH rfl rfl
end Go.Proofs.YtpmdfoaadejmkaaGreatDoor
namespace Go.Proofs.YtpmdfoaadejmkaaGreatDoor
variable (s:List Int)
def lY (a:dv):Int×Int:=(a.Kind,a.Class)
structure Dy (cl:Int) (mark:Bool) (l:List dv):Prop where
 sub:(l.map lY).Sublist (gg cl)
 at':∀a∈l,(0≤a.X∧a.X≤1000)∧(-200≤a.Y∧a.Y≤800)∧(a.Kind=2→mark=true)
theorem ud {cl:Int} {i:Nat} (h:i < 5):(gg cl)[i]?=some ((gg cl).getD i (0,0)):=by
 rw [List.getD_eq_getElem?_getD,Hb (show i < (gg cl).length from h)]
 rfl
theorem ue (mark:Bool) (cl:Int):bV (eL s mark cl 5) (Dy cl mark):=by
 refine (bV.runs (b:=[]) (fun i (l:List dv)=>(l.map lY).Sublist ((gg cl).take i)∧∀a∈l,(0≤a.X∧a.X≤1000)∧(-200≤a.Y∧a.Y≤800)∧(a.Kind=2→mark=true)) 5 ⟨List.nil_sublist _,fun a ha=>by cases ha⟩ fun i l hi ⟨h1,h2⟩=>(bV.any _).bnd fun z _=>bV.ite (fun h3=>(cO s (by omega)).bnd fun x hx=>(cO s (by omega)).bnd fun y hy=>bV.ret ⟨?_,fun a ha=>?_⟩) fun _=>bV.ret ⟨?_,h2⟩).mono fun l ⟨h1,h2⟩=>⟨h1,h2⟩
 ·rw [List.take_add_one,ud hi,List.map_append]
  exact h1.append (List.Sublist.refl _)
 ·rcases Jo ha with ha | ha
  ·exact h2 a ha
  ·rw [Jn ha]
   refine ⟨by dsimp only;omega,by dsimp only;omega,fun hk=>?_⟩
   rcases h3.2 with h4 | h4
   ·exact absurd hk h4
   ·exact h4
 ·rw [List.take_add_one]
  exact h1.trans (List.sublist_append_left _ _)
def Il (a b:dH):Prop:=a.Region < b.Region∨(a.Region=b.Region∧a.Point < b.Point)
structure DB (R pts:Nat) (l:List dH):Prop where
 up:l.Pairwise Il
 len:l.length≤R * (pts+1)
 dom:∀d∈l,(0≤d.Region∧d.Region < R)∧(-1≤d.Point∧d.Point < pts)∧(-20≤d.X∧d.X≤20)∧(-20≤d.Y∧d.Y≤20)∧(d.Point= -1→d.Y=0)
structure u5 (r p pts:Nat) (l:List dH):Prop where
 up:l.Pairwise Il
 len:l.length≤r * (pts+1)+p
 dom:∀d∈l,(0≤d.Region∧(d.Region < r∨(d.Region=r∧d.Point < (p:Int) - 1)))∧(-1≤d.Point∧d.Point < pts)∧(-20≤d.X∧d.X≤20)∧(-20≤d.Y∧d.Y≤20)∧(d.Point= -1→d.Y=0)
theorem u5.more {r p pts:Nat} {l:List dH} (h:u5 r p pts l):u5 r (p+1) pts l:=⟨h.up,by have:=h.len;omega,fun d hd=>by have:=h.dom d hd;omega⟩
theorem u5.add {r p pts:Nat} {l:List dH} (h:u5 r p pts l) {x y:Int} (hp:p≤pts) (hx: -20≤x∧x≤20) (hy: -20≤y∧y≤20) (h0:p=0→y=0):u5 r (p+1) pts (l++[⟨r,(p:Int) - 1,x,y⟩]):=by
 refine ⟨?_,by have:=h.len;simp;omega,fun d hd=>?_⟩
 ·rw [List.pairwise_append]
  refine ⟨h.up,List.pairwise_singleton ..,fun a ha b hb=>?_⟩
  rw [Jn hb]
  have:=h.dom a ha
  unfold Il
  dsimp only
  omega
 ·rcases Jo hd with hd | hd
  ·have:=h.dom d hd;omega
  ·rw [Jn hd]
   dsimp only
   refine ⟨by omega,by omega,hx,hy,fun hq=>h0 (by omega)⟩
theorem qb (pts R:Nat):bV (gj s pts R) (DB R pts):=by
 refine (bV.runs (fun r l=>u5 r 0 pts l) R ⟨.nil,by simp,fun d hd=>by cases hd⟩ fun r l _ h=>?_).mono fun l h=>⟨h.up,h.len,fun d hd=>by have:=h.dom d hd;omega⟩
 refine (bV.runs (fun p l=>u5 r p pts l) (pts+1) h fun p l hp h=>(bV.any _).bnd fun z _=>bV.ite (fun _=>(cO s (by omega)).bnd fun x hx=>bV.ite (fun h0=>bV.ret ?_) fun h0=>(cO s (by omega)).bnd fun y hy=>bV.ret ?_) fun _=>bV.ret h.more).mono fun l h=>⟨h.up,by have:=h.len;rw [Nat.add_mul];omega,fun d hd=>by have:=h.dom d hd;omega⟩
 ·subst h0
  exact h.add (by omega) (by omega) (by omega) fun _=>rfl
 ·exact h.add (by omega) (by omega) (by omega) fun e=>absurd e h0
structure yF (R n:Nat) (g:bz):Prop where
 name:g.Name=cJ n
 adv:100≤g.Advance∧g.Advance≤1000
 out:∃k,k≤2∧u6 k (g.Points,g.Ends)
 parts:g.Parts=[]∨(1 < n∧∃x y:Int,g.Parts=[⟨1,x,y⟩]∧(-200≤x∧x≤200)∧0≤y∧y≤200)
 anch:∃cl,(0≤cl∧cl < 2)∧Dy cl g.Mark g.Anchors
 dels:DB R g.Points.length g.Deltas
 hint:iz 45 g.Hint
theorem zr {R fn n:Nat} (hf:fn≤1000):bV (ke s R fn n) (yF R n):=by
 have hparts:bV (iN s n) fun ps=>ps=[]∨(1 < n∧∃x y:Int,ps=[⟨1,x,y⟩]∧(-200≤x∧x≤200)∧0≤y∧y≤200):=by
  refine bV.ite (fun h1=>(bV.any _).bnd fun z _=>bV.ite (fun _=>(cO s (by omega)).bnd fun x hx=>(cO s (by omega)).bnd fun y hy=>bV.ret (.inr ⟨h1,_,_,rfl,by omega,by omega⟩)) fun _=>bV.ret (.inl rfl)) fun _=>bV.ret (.inl rfl)
 refine (cO s (by omega)).bnd fun ad had=>(bV.any _).bnd fun mk _=>(oX s).bnd fun o ho=>hparts.bnd fun ps hps=>(cO s (by omega)).bnd fun cl hcl=>(ue s _ cl).bnd fun an han=>(qb s _ R).bnd fun de hde=>(bV.any _).bnd fun _ _=>?_
 have hl:o.1.length≤10:=by obtain ⟨k,h1,h2⟩:=ho;have:=h2.len;omega
 exact (uP s (n:=o.1.length) (funcs:=fn) (most:=6) (by omega) (by omega) (by omega)).bnd fun h hh=>bV.ret ⟨rfl,by dsimp only;omega,ho,hps,⟨cl,hcl,han⟩,hde,hh⟩
def ou (t:f0):Prop:=sQ 0 t=0
structure fS (f:b7):Prop where
  unit:16≤f.Unit∧f.Unit≤4096
  glyN:2≤f.Glyphs.length∧f.Glyphs.length≤10
  gly:∀(i:Nat) g,f.Glyphs[i]?=some g→yF f.Regions.length i g
  chars:f.Chars.length≤16
  charR:(f.Chars.map gc.Rune).Sublist fP
  charG:∀c∈f.Chars,0≤c.Glyph∧c.Glyph < f.Glyphs.length
  looks:AJ f.Glyphs.length f.Lookups
  featN:(f.Features.map c7.Name).Sublist fO
  featL:∀t∈f.Features,t.Lookups.Pairwise (· < ·)∧t.Lookups.length≤6∧∀z∈t.Lookups,0≤z∧z < f.Lookups.length
  axes:f.Axes.length≤2
  axisN:f.Axes.map ez.Name=(List.range f.Axes.length).map (jh uo)
  axis:∀a∈f.Axes,(-200≤a.Min∧a.Min≤0)∧a.Def=0∧0≤a.Max∧a.Max≤300
  regs:f.Regions.length≤3
  reg:∀r∈f.Regions,r.length=f.Axes.length∧∀t∈r,ou t
  funcs:f.Funcs.length≤2
  func:∀c∈f.Funcs,iz 45 c
  cvt:f.Cvt.length≤3
  cvtM:∀z∈f.Cvt,-100≤z∧z < 400
theorem uL {α:Type} {l:List α} {i:Nat} (h:i < l.length) (d:α):l.getD i d∈l:=by
 rw [List.getD_eq_getElem?_getD,Hb h]
 exact List.getElem_mem h
theorem lH {α:Type} {l:List α} {i:Nat} (h:i < l.length) (d:α):l[i]?=some (l.getD i d):=by
 rw [List.getD_eq_getElem?_getD,Hb h]
 rfl
theorem Cs:bV (Cr s) fS:=by
  have hax:∀k:Nat,bV (kP s k) fun l=>l.length=k∧l.map ez.Name=(List.range k).map (jh uo)∧∀a∈l,(-200≤a.Min∧a.Min≤0)∧a.Def=0∧0≤a.Max∧a.Max≤300:=fun k=>by
    refine bV.runs (fun i (l:List ez)=>l.length=i∧l.map ez.Name=(List.range i).map (jh uo)∧∀a∈l,(-200≤a.Min∧a.Min≤0)∧a.Def=0∧0≤a.Max∧a.Max≤300) k ⟨rfl,rfl,fun a ha=>by cases ha⟩ fun i l _ ⟨h1,h2,h3⟩=>(cO s (by omega)).bnd fun a ha=>(cO s (by omega)).bnd fun b hb=>bV.ret ⟨by simp [h1],by simp [h2,List.range_succ],fun x hx=>?_⟩
    rcases Jo hx with hx | hx
    · exact h3 x hx
    · rw [Jn hx];dsimp only;omega
  have hrg:∀k:Nat,bV (fF s k) fun l=>l.length≤3∧∀r∈l,r.length=k∧∀t∈r,ou t:=fun k=>by
    refine bV.ite (fun _=>bV.ret ⟨Nat.zero_le _,fun r hr=>by cases hr⟩) fun _=>(cO s (by omega)).bnd fun n hn=>?_
    refine (bV.runs (fun i (l:List (List f0))=>l.length=i∧∀r∈l,r.length=k∧∀t∈r,ou t) n.toNat ⟨rfl,fun a ha=>by cases ha⟩ fun i l _ ⟨h1,h2⟩=>?_).mono fun l ⟨h1,h2⟩=>⟨by omega,h2⟩
    refine (bV.runs (fun i (r:List f0)=>r.length=i∧∀t∈r,ou t) k ⟨rfl,fun a ha=>by cases ha⟩ fun i r _ ⟨h1,h2⟩=>(cO s (by omega)).bnd fun z hz=>bV.ret ⟨by simp [h1],fun x hx=>?_⟩).bnd fun r hr=>bV.ret ⟨by simp [h1],fun x hx=>?_⟩
    · rcases Jo hx with hx | hx
      · exact h2 x hx
      · rw [Jn hx]
        have:∀t∈kr,ou t:=by unfold ou;decide
        exact this _ (uL (by simp only [kr,List.length_cons,List.length_nil];omega) _)
    · rcases Jo hx with hx | hx
      · exact h2 x hx
      · rw [Jn hx];exact hr
  have hfu:∀k:Nat,k≤1000→bV (iF s k) fun l=>l.length=k∧∀c∈l,iz 45 c:=fun k hk=>by
    refine bV.runs (fun i (l:List (List g8))=>l.length=i∧∀c∈l,iz 45 c) k ⟨rfl,fun a ha=>by cases ha⟩ fun i l hi ⟨h1,h2⟩=>(bV.any _).bnd fun _ _=>(uP s (by omega) (by omega) (by omega)).bnd fun h hh=>bV.ret ⟨by simp [h1],fun x hx=>?_⟩
    rcases Jo hx with hx | hx
    · exact h2 x hx
    · rw [Jn hx];exact hh
  have hcv:∀k:Nat,bV (q8 s k) fun l=>l.length=k∧∀z∈l,-100≤z∧z < 400:=fun k=>by
    refine bV.runs (fun i (l:List Int)=>l.length=i∧∀z∈l,-100≤z∧z < 400) k ⟨rfl,fun a ha=>by cases ha⟩ fun i l hi ⟨h1,h2⟩=>(cO s (by omega)).bnd fun z hz=>bV.ret ⟨by simp [h1],fun x hx=>?_⟩
    rcases Jo hx with hx | hx
    · exact h2 x hx
    · rw [Jn hx];omega
  have hgl:∀R fn k:Nat,fn≤1000→bV (gm s R fn k) fun l=>l.length=k∧∀(i:Nat) g,l[i]?=some g→yF R i g:=fun R fn k hf=>by
    refine bV.runs (fun i (l:List bz)=>l.length=i∧∀(j:Nat) g,l[j]?=some g→yF R j g) k ⟨rfl,fun j g h=>by simp at h⟩ fun i l hi ⟨h1,h2⟩=>(zr s hf).bnd fun g hg=>bV.ret ⟨by simp [h1],fun j x hx=>?_⟩
    rcases Nat.lt_or_ge j l.length with h | h
    · rw [List.getElem?_append_left h] at hx
      exact h2 j x hx
    · have hj:=(Jq hx).1
      have:j=l.length:=by simp at hj;omega
      subst this
      rw [List.getElem?_append_right (Nat.le_refl _),Nat.sub_self] at hx
      cases hx
      rw [h1]
      exact hg
  have hch:∀n:Int,0 < n→bV (hH s n 16) fun l=>(l.map gc.Rune).Sublist fP∧∀c∈l,0≤c.Glyph∧c.Glyph < n:=fun n hn=>by
    refine (bV.runs (b:=[]) (fun i (l:List gc)=>(l.map gc.Rune).Sublist (fP.take i)∧∀c∈l,0≤c.Glyph∧c.Glyph < n) 16 ⟨List.nil_sublist _,fun a ha=>by cases ha⟩ fun i l hi ⟨h1,h2⟩=>(bV.any _).bnd fun z _=>bV.ite (fun _=>(cO s hn).bnd fun g hg=>bV.ret ⟨?_,fun x hx=>?_⟩) fun _=>bV.ret ⟨?_,h2⟩).mono fun l h=>h
    · rw [List.take_add_one,lH (l:=fP) (i:=i) hi 0,List.map_append]
      exact h1.append (List.Sublist.refl _)
    · rcases Jo hx with hx | hx
      · exact h2 x hx
      · rw [Jn hx];exact hg
    · rw [List.take_add_one]
      exact h1.trans (List.sublist_append_left _ _)
  have hft:∀n:Nat,n≤6→bV (hY s n 8) fun l=>(l.map c7.Name).Sublist fO∧∀t∈l,t.Lookups.Pairwise (· < ·)∧t.Lookups.length≤6∧∀z∈t.Lookups,0≤z∧z < n:=fun n hn=>by
    have hask:bV (nQ s n) fun l=>l.Pairwise (· < ·)∧l.length≤n∧∀z∈l,0≤z∧z < n:=by
      refine bV.runs (fun i (l:List Int)=>l.Pairwise (· < ·)∧l.length≤i∧∀z∈l,0≤z∧z < i) n ⟨.nil,Nat.le_refl _,fun a ha=>by cases ha⟩ fun i l hi ⟨h1,h2,h3⟩=>(bV.any _).bnd fun z _=>bV.ret ?_
      split
      · refine ⟨?_,by simp;omega,fun x hx=>?_⟩
        · rw [List.pairwise_append]
          exact ⟨h1,List.pairwise_singleton ..,fun a ha b hb=>by rw [Jn hb];have:=h3 a ha;omega⟩
        · rcases Jo hx with hx | hx
          · have:=h3 x hx;omega
          · rw [Jn hx];omega
      · exact ⟨h1,by omega,fun x hx=>by have:=h3 x hx;omega⟩
    refine (bV.runs (b:=[]) (fun i (l:List c7)=>(l.map c7.Name).Sublist (fO.take i)∧∀t∈l,t.Lookups.Pairwise (· < ·)∧t.Lookups.length≤6∧∀z∈t.Lookups,0≤z∧z < n) 8 ⟨List.nil_sublist _,fun a ha=>by cases ha⟩ fun i l hi ⟨h1,h2⟩=>hask.bnd fun r hr=>(bV.any _).bnd fun z _=>bV.ret ?_).mono fun l h=>h
    split
    · refine ⟨?_,fun x hx=>?_⟩
      · rw [List.take_add_one,lH (l:=fO) (i:=i) hi ByteArray.empty,List.map_append]
        exact h1.append (List.Sublist.refl _)
      · rcases Jo hx with hx | hx
        · exact h2 x hx
        · rw [Jn hx];exact ⟨hr.1,by have:=hr.2.1;dsimp only;omega,hr.2.2⟩
    · rw [List.take_add_one]
      exact ⟨h1.trans (List.sublist_append_left _ _),h2⟩
  refine (cO s (by omega)).bnd fun u hu=>(cO s (by omega)).bnd fun k hk=>(hax _).bnd fun ax ⟨ha1,ha2,ha3⟩=>(hrg _).bnd fun rg ⟨hr1,hr2⟩=>(cO s (by omega)).bnd fun k2 hk2=>(hfu _ (by omega)).bnd fun fu ⟨hf1,hf2⟩=>(cO s (by omega)).bnd fun k3 hk3=>(hcv _).bnd fun cv ⟨hc1,hc2⟩=>(cO s (by omega)).bnd fun k4 hk4=>(hgl _ _ _ (by omega)).bnd fun gl ⟨hg1,hg2⟩=>(hch gl.length (by omega)).bnd fun ch ⟨hh1,hh2⟩=>(oT s (n:=gl.length) (by omega)).bnd fun lk hlk=>(hft lk.length hlk.len).bnd fun ft ⟨ht1,ht2⟩=>bV.ret ?_
  refine ⟨?_,by dsimp only;omega,hg2,?_,hh1,hh2,hlk,ht1,ht2,by dsimp only;omega,by dsimp only;rw [ha1];exact ha2,ha3,hr1,fun r hr=>⟨by dsimp only;rw [ha1];exact (hr2 r hr).1,(hr2 r hr).2⟩,by dsimp only;omega,hf2,by dsimp only;omega,hc2⟩
  · have:∀j < 4,16≤mD.getD j 0∧mD.getD j 0≤4096:=by decide
    exact this _ (by omega)
  · have:=hh1.length_le
    simpa [fP] using this
theorem pA:fS (kB s):=Cs s ⟨0,0⟩
end Go.Proofs.YtpmdfoaadejmkaaGreatDoor
