/-
  The maker: lookups, as cells.
-/
import Derived.Test.YtjjpkibjffmceaaGreatM27
import Derived.Test.YtjjpkibjffmceaaGreatM12
namespace Go.Proofs.YtjjpkibjffmceaaGreat
open Go.RowKit
attribute [local irreducible] AT bW AX AO Av Kt bA eI DA dl
def fT (i j:Nat) (l:bb):List AV:=[aP l.Kind,cx l.Ignore,if j < i then .imm 6 (l.Rules.map bI) else bQ]
def fg (i:Nat):Nat→List bb→List AV
 | _,[]=>[]
 | k,l::r=>fT i k l++fg i (k+1) r
theorem Bp (i:Nat):∀(l:List bb) (k:Nat),(fg i k l).length=l.length * 3
 | [],k=>rfl
 | x::l,k=>by
  rw [fg,List.length_append,Bp i l (k+1),List.length_cons,Nat.add_mul]
  simp [fT]
  omega
theorem sU (i:Nat):∀(l:List bb) (k j c:Nat),c < 3→(fg i k l)[j * 3+c]?=(l[j]?).bind fun x=>(fT i (k+j) x)[c]?
 | [],k,j,c,_=>by simp [fg]
 | x::l,k,0,c,hc=>by
  rw [fg,List.getElem?_append_left (by simp [fT];omega)]
  simp
 | x::l,k,j+1,c,hc=>by
  rw [fg,List.getElem?_append_right (by simp [fT];omega)]
  have h1:(j+1) * 3+c - (fT i k x).length=j * 3+c:=by simp [fT];omega
  rw [h1,sU i l (k+1) j c hc,List.getElem?_cons_succ]
  rw [show k+1+j=k+(j+1) by omega]
theorem xd (i:Nat):∀(l:List bb) (k:Nat) (x:bb),fg i k (l++[x])=fg i k l++fT i (k+l.length) x
 | [],k,x=>by simp [fg]
 | y::l,k,x=>by
  rw [Ir,fg,xd i l (k+1) x,fg,List.append_assoc,List.length_cons,show k+1+l.length=k+(l.length+1) by omega]
theorem Bq {i:Nat} {l:List bb} {q:bb} {rs:List bX} (hq:l[i]?=some q):(fg i 0 l).set (i * 3+2) (.imm 6 (rs.map bI))=fg (i+1) 0 (l.set i { q with Rules:=rs }):=by
 have hil:=(Io hq).1
 apply List.ext_getElem?
 intro p
 obtain ⟨j,c,hc,rfl⟩:∃j c,c < 3∧p=j * 3+c:=⟨p / 3,p % 3,Nat.mod_lt _ (by omega),by omega⟩
 rw [sU _ _ _ _ _ hc]
 by_cases e:i * 3+2=j * 3+c
 ·have hj:j=i:=by omega
  have hc2:c=2:=by omega
  subst hj;subst hc2
  rw [List.getElem?_set_self (by rw [Bp];omega),List.getElem?_set_self hil]
  simp [fT]
 ·rw [List.getElem?_set_ne e,sU _ _ _ _ _ hc]
  by_cases hj:i=j
  ·subst hj
   rw [hq,List.getElem?_set_self hil]
   have hc2:c=0∨c=1:=by omega
   rcases hc2 with rfl | rfl <;> rfl
  ·rw [List.getElem?_set_ne hj]
   cases l[j]? with
   | none=>rfl
   | some x=>
    simp only [Option.bind_some,Nat.zero_add]
    have hc3:c=0∨c=1∨c=2:=by omega
    rcases hc3 with rfl | rfl | rfl
    ·rfl
    ·rfl
    ·simp only [fT]
     by_cases hlt:j < i
     ·rw [if_pos hlt,if_pos (by omega)]
     ·rw [if_neg hlt,if_neg (by omega)]
theorem DH {i:Nat} {l:List bb} {q:bb} (hq:l[i]?=some q) (h0:q.Rules=[]):(fg i 0 l).set (i * 3+2) (.imm 6 [])=fg (i+1) 0 l:=by
 have:=Bq (rs:=[]) hq
 rw [show l.set i { q with Rules:=[] }=l from ?_] at this
 ·exact this
 ·have:({ q with Rules:=[] }:bb)=q:=by cases q;simp at h0;simp [h0]
  rw [this]
  apply List.ext_getElem?
  intro j
  by_cases e:i=j
  ·subst e;rw [List.getElem?_set_self (Io hq).1,hq]
  ·rw [List.getElem?_set_ne e]
theorem Bo:∀(l:List bb) (i k:Nat),k+l.length≤i→fg i k l=(l.map bj).flatten
 | [],i,k,_=>rfl
 | x::l,i,k,h=>by
  simp only [List.length_cons] at h
  rw [fg,Bo l i (k+1) (by omega),Ip,List.flatten_cons]
  congr 1
  simp only [fT]
  rw [if_pos (by omega)]
  rfl
def yD (i:Nat):Option (Nat×List AV×Nat)→AV
 | none=>bQ
 | some (b,_,cap)=> .sc (.slice (some ⟨b,0,none⟩) i cap)
def Bl:Option (Nat×List AV×Nat)→AL
 | none=>[]
 | some (b,cs,_)=>[(b,.box cs 77)]
def xc (n i:Nat) (l:List bb):Option (Nat×List AV×Nat)→Prop
 | none=>n=0
 | some (_,cs,cap)=>cs.length=cap * 3∧n≤cap∧cap≤maxLen∧cs.take (n * 3)=fg i 0 l
variable (s:List Int) (hs:s.length≤1000000) (F:MF)
include hs
theorem w8 (k:Nat) (m:MS):(eY s k m).1.1.length=k∧(eY s k m).1.2.length≤k:=by
 have _:=hs
 clear hs
 induction k with
 | zero=>exact ⟨rfl,Nat.le_refl _⟩
 | succ k ih=>
  have:eY s (k+1) m=(co (dr s 10) fun z=>co (dr s 3) fun y=>cQ ((eY s k m).1.1++[(⟨g8.getD z.toNat 0,decide (y=0),[]⟩:bb)],if g8.getD z.toNat 0≤4 then (eY s k m).1.2++[(k:Int)] else (eY s k m).1.2)) (eY s k m).2:=rfl
  rw [this]
  simp only [co,cQ]
  refine ⟨by simp [ih.1],?_⟩
  split
  ·simp;omega
  ·omega
theorem AW (n:Int) (calls:List Int) (l:List bb) (k:Nat) (m:MS):(fE s n calls l k m).1.length=l.length∧∀j,k≤j→(fE s n calls l k m).1[j]?=l[j]?:=by
 have _:=hs
 clear hs
 induction k with
 | zero=>exact ⟨rfl,fun j _=>rfl⟩
 | succ k ih=>
  have:fE s n calls l (k+1) m=(match (fE s n calls l k m).1[k]? with
   | none=>cQ (fE s n calls l k m).1
   | some q=>if q.Kind≥7 then cQ (fE s n calls l k m).1 else co (dr s 3) fun c=>co (fw s n q.Kind calls (1+c).toNat) fun rs=>cQ ((fE s n calls l k m).1.set k { q with Rules:=rs })) (fE s n calls l k m).2:=rfl
  rw [this]
  cases hq:(fE s n calls l k m).1[k]? with
  | none=>exact ⟨ih.1,fun j hj=>ih.2 j (by omega)⟩
  | some q=>
   dsimp only
   by_cases h7:q.Kind≥7
   ·rw [if_pos h7]
    exact ⟨ih.1,fun j hj=>ih.2 j (by omega)⟩
   ·rw [if_neg h7]
    simp only [co,cQ]
    refine ⟨by rw [List.length_set];exact ih.1,fun j hj=>?_⟩
    rw [List.getElem?_set_ne (by omega)]
    exact ih.2 j (by omega)
theorem wx (n kind:Int) (calls:List Int) (k:Nat) (m:MS):(fw s n kind calls k m).1.length=k:=by
 have _:=hs
 clear hs
 induction k with
 | zero=>rfl
 | succ k ih=>
  have:fw s n kind calls (k+1) m=((fw s n kind calls k m).1++[(gN s n kind calls (fw s n kind calls k m).2).1],(gN s n kind calls (fw s n kind calls k m).2).2):=rfl
  rw [this]
  simp [ih]
abbrev gX (F:MF) (v:AV):MF:={ F with lk:=v }
set_option maxHeartbeats 16000000 in
theorem wh {kg:Option (Nat×Nat)} {gl:List (List AV)} (hF:F.gl= .vec kg 9 gl) (hl:F.lk=bQ) (n:Nat) (hn:gl.length=n) (h0:0 < n∧n≤1000) (b:Nat) (m:MS):AC Tryz.prog 66 [g9 b] [eF b s F m] fun _ L=>L=[eF b s (gX F (.imm 3 ((iW s n m).1.map bj))) (iW s n m).2]:=by
 refine aS Tryz.func66 rfl Tryz.ntmps66 rfl fun B=>?_
 repeat' (first|refine go ?_|refine HK a6 FS ?_)
 refine cS ?_
 have hk:=cB s hs m.a (n:=7) (by omega)
 have hk:0≤(dr s 7 m).1∧(dr s 7 m).1 < 7:=hk
 generalize e1:dr s 7 m=p1 at hk ⊢
 obtain ⟨k,hkk⟩:∃k:Nat,p1.1=k:=⟨p1.1.toNat,by omega⟩
 rw [hkk]
 have hFF:F=gX F bQ:=by
  cases F
  simp only at hl
  rw [hl]
 rw [hFF]
 repeat' (first|refine go ?_|refine ak ?_|refine HK a6 FS ?_)
 refine bH (bf (t:=3) (c':= .vec none 1 []) rfl fun σ v h=>cq 1 h) ?_
 refine aJ [0,2] (α:=Nat×Option (Nat×Nat)×Option (Nat×List AV×Nat)) (fun x=>[(4,aP x.1),(3,.vec x.2.1 1 (aZ (eY s x.1 p1.2).1.2))]) (fun x=>x.1≤k∧xc x.1 0 (eY s x.1 p1.2).1.1 x.2.2) (fun x=>eF b s (gX F (yD x.1 x.2.2)) (eY s x.1 p1.2).2::(Bl x.2.2++(tok x.2.1 3 1 (aZ (eY s x.1 p1.2).1.2).length++[]))) (fun x=>k - x.1) (0,none,none) rfl ⟨rfl,rfl,trivial⟩ ⟨Nat.zero_le _,rfl⟩ (fun _ _ h=>by simpa [eY,ii,cQ,tok,aZ,Bl,yD] using h) ?_
 rintro ⟨i,q,o⟩ ⟨hi,ho⟩
 dsimp only at hi ho ⊢
 have hln:=w8 s hs i p1.2
 try dsimp only [Ir,Iq,Ip,Ij]
 repeat' (first|refine go ?_|refine HK a6 FS ?_)
 refine ay rfl (fun h=>?_) (fun h=>?_)
 ·have hil:i < k:=by have:=Iy h;omega
  have hstep:eY s (i+1) p1.2=(co (dr s 10) fun z=>co (dr s 3) fun y=>cQ ((eY s i p1.2).1.1++[(⟨g8.getD z.toNat 0,decide (y=0),[]⟩:bb)],if g8.getD z.toNat 0≤4 then (eY s i p1.2).1.2++[(i:Int)] else (eY s i p1.2).1.2)) (eY s i p1.2).2:=rfl
  generalize eY s i p1.2=st at hln ho hstep ⊢
  have hil2:(aZ st.1.2).length=st.1.2.length:=aQ _
  repeat' (first|refine go ?_|refine ak ?_|refine HK a6 FS ?_|refine bG a6 ?_|fail)
  refine cS ?_
  have hz:=cB s hs st.2.a (n:=10) (by omega)
  have hz:0≤(dr s 10 st.2).1∧(dr s 10 st.2).1 < 10:=hz
  unfold co at hstep
  generalize dr s 10 st.2=z at hz hstep ⊢
  dsimp only at hstep
  have hzk:(aZ g8)[z.1.toNat]?=some [aP (g8.getD z.1.toNat 0)]:=bT (by rw [List.getD_eq_getElem?_getD,Iz (show z.1.toNat < g8.length by simp [g8];omega)];rfl)
  generalize hkd:g8.getD z.1.toNat 0=kd at hzk hstep
  repeat' (first|refine go ?_|refine HK a6 FS ?_|(apply aU;first|refine aT a6 ?_|refine aM a6 ?_)|fail)
  refine dz [.cell (b,5,yD i o)] 13 [(0,.v),(1,.v),(2,.v),(3,.v),(4,.v),(5,.k),(6,.v),(7,.v),(8,.f),(9,.v),(10,.v),(11,.v),(12,.e)] none ?_ trivial rfl (by kernel_rfl) (by kernel_rfl) (by kernel_rfl) mixed (by kernel_rfl) rfl
  repeat' (first|refine aC ?_|refine b7 a6 ?_|fail)
  refine eT a6 0 rfl rfl rfl (bU 0 rfl rfl cg) (by first | trivial | rfl) ?_
  repeat' (first|refine aC ?_|refine b7 a6 ?_|fail)
  refine ff (bU 0 rfl rfl cg) ?_
  generalize dr s 3 z.2=y at hstep ⊢
  repeat' (first|refine aC ?_|refine b7 a6 ?_|refine eS a6 ?_|fail)
  have hst1:st.1.1.length=i:=hln.1
  rcases o with _ | ⟨ob,ocs,ocap⟩
  ·have hi0:i=0:=ho
   subst hi0
   refine vN a6 rfl rfl rfl rfl rfl rfl rfl (by first | trivial | rfl) fun b' cs' cap' h1 h2 h3 h4=>?_
   have hrow:xc (0+1) 0 (st.1.1++[⟨kd,decide (y.1=0),[]⟩]) (some (b',cs',cap')):=by
    refine ⟨h1,by omega,h4,?_⟩
    rw [List.eq_nil_of_length_eq_zero (by omega:st.1.1.length=0)]
    exact h2
   refine HU [0,2,3,4,5,21,33] FS ?_
   refine aO (aK (L':=eF b s (gX F (yD 0 none)) y.2::(Bl (some (b',cs',cap'))++(tok q 3 1 (aZ st.1.2).length++[]))) (List.Perm.swap _ _ _)) ?_
   repeat' (first|refine go ?_|refine HK a6 FS ?_|(apply aG;first|refine HM a6 0 HH ?_|refine HM a6 1 HH ?_|refine HM a6 2 HH ?_|refine HM a6 3 HH ?_|fail))
   refine ay rfl (fun hk4=>?_) (fun hk4=>?_)
   ·rw [if_pos (Iy hk4)] at hstep
    dsimp only [cQ] at hstep
    repeat' (first|refine go ?_|refine HK a6 FS ?_|refine bG a6 ?_|fail)
    refine bB a6 _ rfl rfl rfl rfl (fi (A:=[_,_])) (by simp [aQ];omega) (by simp [aQ];omega) rfl fun q'=>?_
    refine aO (aK (fi (A:=[_,_])).symm) ?_
    repeat' (first|refine go ?_|refine HK a6 FS ?_|(apply aW;refine aV ?_)|fail)
    exact aB (0+1,q',some (b',cs',cap')) rfl ⟨rfl,by rw [hstep];dsimp only;rw [show aZ (st.1.2++[((0:Nat):Int)])=aZ st.1.2++[[aP ((0:Nat):Int)]] from List.map_append ..];rfl,trivial⟩ ⟨by dsimp only;omega,by rw [hstep];exact hrow⟩ (by dsimp only;omega) (fun _ _ h=>by dsimp only;rw [hstep];dsimp only;rw [show aZ (st.1.2++[((0:Nat):Int)])=aZ st.1.2++[[aP ((0:Nat):Int)]] from List.map_append ..];exact h)
   ·rw [if_neg (Ix hk4)] at hstep
    dsimp only [cQ] at hstep
    repeat' (first|refine go ?_|refine HK a6 FS ?_|(apply aW;refine aV ?_)|fail)
    exact aB (0+1,q,some (b',cs',cap')) rfl ⟨rfl,by rw [hstep];rfl,trivial⟩ ⟨by dsimp only;omega,by rw [hstep];exact hrow⟩ (by dsimp only;omega) (fun _ _ h=>by dsimp only;rw [hstep];exact h)
  ·obtain ⟨ho1,ho2,ho3,ho4⟩:=ho
   refine ya a6 1 rfl rfl rfl rfl rfl rfl rfl ho1 ho2 ho3 (by unfold maxLen;omega) (by omega) (by first | trivial | rfl) fun b' cs' cap' h1 h2 h3 h4=>?_
   have hrow:xc (i+1) 0 (st.1.1++[⟨kd,decide (y.1=0),[]⟩]) (some (b',cs',cap')):=by
    refine ⟨h1,h3,h4,?_⟩
    rw [h2,ho4,xd]
    rfl
   refine HU [0,2,3,4,5,21,33] FS ?_
   refine aO (aK (L':=eF b s (gX F (yD i (some (ob,ocs,ocap)))) y.2::(Bl (some (b',cs',cap'))++(tok q 3 1 (aZ st.1.2).length++[]))) (List.Perm.swap _ _ _)) ?_
   repeat' (first|refine go ?_|refine HK a6 FS ?_|(apply aG;first|refine HM a6 0 HH ?_|refine HM a6 1 HH ?_|refine HM a6 2 HH ?_|refine HM a6 3 HH ?_|fail))
   refine ay rfl (fun hk4=>?_) (fun hk4=>?_)
   ·rw [if_pos (Iy hk4)] at hstep
    dsimp only [cQ] at hstep
    repeat' (first|refine go ?_|refine HK a6 FS ?_|refine bG a6 ?_|fail)
    refine bB a6 _ rfl rfl rfl rfl (fi (A:=[_,_])) (by simp [aQ];omega) (by simp [aQ];omega) rfl fun q'=>?_
    refine aO (aK (fi (A:=[_,_])).symm) ?_
    repeat' (first|refine go ?_|refine HK a6 FS ?_|(apply aW;refine aV ?_)|fail)
    exact aB (i+1,q',some (b',cs',cap')) rfl ⟨by rw [Iv];rfl,by rw [hstep];dsimp only;rw [show aZ (st.1.2++[(i:Int)])=aZ st.1.2++[[aP (i:Int)]] from List.map_append ..];rfl,trivial⟩ ⟨by dsimp only;omega,by rw [hstep];exact hrow⟩ (by dsimp only;omega) (fun _ _ h=>by dsimp only;rw [hstep];dsimp only;rw [show aZ (st.1.2++[(i:Int)])=aZ st.1.2++[[aP (i:Int)]] from List.map_append ..];exact h)
   ·rw [if_neg (Ix hk4)] at hstep
    dsimp only [cQ] at hstep
    repeat' (first|refine go ?_|refine HK a6 FS ?_|(apply aW;refine aV ?_)|fail)
    exact aB (i+1,q,some (b',cs',cap')) rfl ⟨by rw [Iv];rfl,by rw [hstep];rfl,trivial⟩ ⟨by dsimp only;omega,by rw [hstep];exact hrow⟩ (by dsimp only;omega) (fun _ _ h=>by dsimp only;rw [hstep];exact h)
 have hil:i=k:=by have:=Ix h;omega
 subst hil
 have hhd:=rV s i p1.2
 generalize e2:eY s i p1.2=st at hln ho hhd ⊢
 have hv:iW s n m=fE s n st.1.2 st.1.1 i st.2:=by
  unfold iW co
  rw [e1]
  dsimp only
  rw [hkk,Int.toNat_natCast,e2]
 rw [hv]
 have hfi:=fun j=>AW s hs n st.1.2 st.1.1 j st.2
 repeat' (first|refine go ?_|refine ak ?_|refine HK a6 FS ?_)
 refine bH (ck (L':=eF b s (gX F (yD i o)) st.2::(Bl o++[])) (List.Sublist.cons_cons _ ((List.nil_sublist _).append_left _))) ?_
 rcases o with _ | ⟨ob,ocs,ocap⟩
 ·have hi0:i=0:=ho
  subst hi0
  refine aJ [0,2,3] (α:=Unit) (fun _=>[(6,aP 0)]) (fun _=>True) (fun _=>[eF b s (gX F bQ) st.2]) (fun _=>0) () rfl ⟨rfl,trivial⟩ trivial (fun _ _ h=>h) ?_
  intro _ _
  try dsimp only [Ir,Iq,Ip,Ij]
  repeat' (first|refine go ?_|refine HK a6 FS ?_|refine bF rfl ?_)
  have hnil:(fE s n st.1.2 st.1.1 0 st.2).1=[]:=List.eq_nil_of_length_eq_zero (by rw [(hfi 0).1];exact hln.1)
  refine bc (bD 0 (cs':=Gz s (gX F (.imm 3 [])) st.2) rfl fun σ vs h=>cC (k:=5) (c:=bQ) h rfl fun v hv=>fX 3 hv) (dY rfl ?_)
  rw [hnil]
  rfl
 refine aJ [0,2,3] (α:=Nat×List AV) (fun x=>[(6,aP x.1)]) (fun x=>x.1≤i∧xc i x.1 (fE s n st.1.2 st.1.1 x.1 st.2).1 (some (ob,x.2,ocap))) (fun x=>[eF b s (gX F (yD i (some (ob,ocs,ocap)))) (fE s n st.1.2 st.1.1 x.1 st.2).2,(ob,.box x.2 77)]) (fun x=>i - x.1) (0,ocs) rfl ⟨rfl,trivial⟩ ⟨Nat.zero_le _,ho⟩ (fun _ _ h=>h) ?_
 rintro ⟨j,cs⟩ ⟨hj,h1,h2,h3,h4⟩
 dsimp only at hj h1 h2 h3 h4 ⊢
 try dsimp only [Ir,Iq,Ip,Ij]
 repeat' (first|refine go ?_|refine HK a6 FS ?_)
 refine ay rfl (fun h=>?_) (fun h=>?_)
 ·have hji:j < i:=by have:=Iy h;omega
  have hfj:=hfi j
  have hstep:fE s n st.1.2 st.1.1 (j+1) st.2=(match (fE s n st.1.2 st.1.1 j st.2).1[j]? with
   | none=>cQ (fE s n st.1.2 st.1.1 j st.2).1
   | some q=>if q.Kind≥7 then cQ (fE s n st.1.2 st.1.1 j st.2).1 else co (dr s 3) fun c=>co (fw s n q.Kind st.1.2 (1+c).toNat) fun rs=>cQ ((fE s n st.1.2 st.1.1 j st.2).1.set j { q with Rules:=rs })) (fE s n st.1.2 st.1.1 j st.2).2:=rfl
  generalize fE s n st.1.2 st.1.1 j st.2=T at hfj h4 hstep ⊢
  have hTl:T.1.length=i:=by rw [hfj.1];exact hln.1
  obtain ⟨q,hq⟩:∃q,T.1[j]?=some q:=⟨_,Iz (by omega)⟩
  have hq2:st.1.1[j]?=some q:=by rw [←hfj.2 j (Nat.le_refl _)];exact hq
  have hqm:=Iw hq2
  have hqk:=hhd.kinds q hqm
  have hqn:=hhd.none q hqm
  rw [hq] at hstep
  dsimp only at hstep
  have hcell:∀c,c < 3→cs[j * 3+c]?=(fT j j q)[c]?:=fun c hc=>by
   have e:=sU j T.1 0 j c hc
   rw [hq,Option.bind_some,Nat.zero_add,←h4,List.getElem?_take,if_pos (by omega)] at e
   exact e
  have hP:∀c,0+((j:Int)).toNat * 3+c=j * 3+c:=fun c=>by rw [Int.toNat_natCast];omega
  have hc0:cs[0+((j:Int)).toNat * 3+0]?=some (aP q.Kind):=by rw [hP];exact hcell 0 (by omega)
  have hc2:cs[0+((j:Int)).toNat * 3+2]?=some bQ:=by
   rw [hP,hcell 2 (by omega)]
   simp [fT]
  have hPl:0+((j:Int)).toNat * 3+2 < cs.length:=(Io hc2).1
  repeat' (first|refine go ?_|refine ak ?_|refine HK a6 FS ?_|(apply bK;first|refine HO a6 0 HG ?_|refine HO a6 1 HG ?_|refine HO a6 2 HG ?_|refine HO a6 3 HG ?_|refine HP a6 0 HG ?_|refine HP a6 1 HG ?_|refine HP a6 2 HG ?_|refine HR a6 1 HE (by assumption) rfl ?_|refine HR a6 0 HE (by assumption) rfl ?_|fail)|(apply aU;first|refine aT a6 ?_|refine aM a6 ?_)|fail)
  refine ay rfl (fun h7=>?_) (fun h7=>?_)
  ·have h7:=Iy h7
   rw [if_pos (show q.Kind≥7 from h7)] at hstep
   repeat' (first|refine go ?_|refine HK a6 FS ?_|(apply aW;refine aV ?_)|fail)
   refine bc (bD 1 (cs':=cs.set (0+((j:Int)).toNat * 3+2) (.imm 6 [])) rfl fun σ vs h=>cC h hc2 fun v hv=>fX 6 hv) ?_
   exact aB (j+1,cs.set (0+((j:Int)).toNat * 3+2) (.imm 6 [])) rfl ⟨by rw [Iv];rfl,trivial⟩ ⟨by dsimp only;omega,by dsimp only;rw [List.length_set];exact h1,h2,h3,by rw [hstep,hP];dsimp only [cQ];rw [List.take_set,h4];exact DH hq hqn⟩ (by dsimp only;omega) (fun _ _ h=>by dsimp only;rw [hstep];exact h)
  have h7:=Ix h7
  rw [if_neg (show ¬q.Kind≥7 from h7)] at hstep
  unfold co at hstep
  repeat' (first|refine go ?_|refine HK a6 FS ?_)
  refine cS ?_
  have hc:=cB s hs T.2.a (n:=3) (by omega)
  have hc:0≤(dr s 3 T.2).1∧(dr s 3 T.2).1 < 3:=hc
  generalize dr s 3 T.2=p2 at hc hstep ⊢
  dsimp only at hstep
  obtain ⟨c,hcc⟩:∃k:Nat,1+p2.1=k:=⟨(1+p2.1).toNat,by omega⟩
  rw [hcc,Int.toNat_natCast] at hstep
  repeat' (first|refine go ?_|refine ak ?_|refine HK a6 FS ?_|(apply aW;refine aV ?_)|fail)
  rw [hcc]
  refine bH (bD 1 (cs':=cs.set (0+((j:Int)).toNat * 3+2) (.vec none 6 [])) rfl fun σ vs h=>cC h hc2 fun v hv=>cq 6 hv) ?_
  refine aJ [0,2,3,6,7] (α:=Nat×Option (Nat×Nat)) (fun x=>[(8,aP x.1)]) (fun x=>x.1≤c) (fun x=>[eF b s (gX F (yD i (some (ob,ocs,ocap)))) (fw s n q.Kind st.1.2 x.1 p2.2).2,(ob,.box (cs.set (0+((j:Int)).toNat * 3+2) (.vec x.2 6 ((fw s n q.Kind st.1.2 x.1 p2.2).1.map bI))) 77)]++(tok x.2 81 6 ((fw s n q.Kind st.1.2 x.1 p2.2).1.map bI).length++[])) (fun x=>c - x.1) (0,none) rfl ⟨rfl,trivial⟩ (Nat.zero_le _) (fun _ _ h=>h) ?_
  rintro ⟨r,qv⟩ hr
  dsimp only at hr ⊢
  have hrl:=wx s hs n q.Kind st.1.2 r p2.2
  have hrs:fw s n q.Kind st.1.2 (r+1) p2.2=((fw s n q.Kind st.1.2 r p2.2).1++[(gN s n q.Kind st.1.2 (fw s n q.Kind st.1.2 r p2.2).2).1],(gN s n q.Kind st.1.2 (fw s n q.Kind st.1.2 r p2.2).2).2):=rfl
  try dsimp only [Ir,Iq,Ip,Ij]
  repeat' (first|refine go ?_|refine HK a6 FS ?_)
  refine ay rfl (fun h=>?_) (fun h=>?_)
  ·have hrc:r < c:=by have:=Iy h;omega
   generalize fw s n q.Kind st.1.2 r p2.2=R at hrl hrs ⊢
   have hset:(cs.set (0+((j:Int)).toNat * 3+2) (.vec qv 6 (R.1.map bI)))[0+((j:Int)).toNat * 3+2]?=some (.vec qv 6 (R.1.map bI)):=List.getElem?_set_self hPl
   have hset0:(cs.set (0+((j:Int)).toNat * 3+2) (.vec qv 6 (R.1.map bI)))[0+((j:Int)).toNat * 3+0]?=some (aP q.Kind):=by rw [List.getElem?_set_ne (by omega)];exact hc0
   have hRl:(R.1.map bI).length=R.1.length:=It ..
   repeat' (first|refine go ?_|refine ak ?_)
   refine dz [.cell (b,5,yD i (some (ob,ocs,ocap))),.cell (ob,0+((j:Int)).toNat * 3+2,.vec qv 6 (R.1.map bI))] 29 [(0,.v),(1,.v),(2,.v),(3,.v),(4,.k),(5,.v),(6,.v),(7,.v),(8,.v),(9,.v),(10,.k),(11,.v),(12,.v),(13,.v),(14,.k),(15,.v),(16,.v),(17,.v),(18,.v),(19,.v),(20,.l),(21,.v),(22,.v),(23,.v),(24,.l),(25,.v),(26,.f),(27,.v),(28,.f)] none ?_ trivial rfl (by kernel_rfl) (by kernel_rfl) (by kernel_rfl) mixed (by kernel_rfl) rfl
   have hkeep:∀m' Z,eU [.cell (b,5,yD i (some (ob,ocs,ocap))),.cell (ob,0+((j:Int)).toNat * 3+2,.vec qv 6 (R.1.map bI))] (eF b s (gX F (yD i (some (ob,ocs,ocap)))) m'::(ob,.box (cs.set (0+((j:Int)).toNat * 3+2) (.vec qv 6 (R.1.map bI))) 77)::Z):=fun m' Z=>bU 0 rfl rfl (bU 1 rfl hset cg)
   repeat' (first|refine aC ?_|refine b7 a6 ?_|fail)
   refine eT a6 0 rfl rfl rfl (hkeep _ _) (by first | trivial | rfl) ?_
   repeat' (first|refine aC ?_|refine b7 a6 ?_|fail)
   refine eT a6 0 rfl rfl rfl (hkeep _ _) (by first | trivial | rfl) ?_
   repeat' (first|refine aC ?_|refine b7 a6 ?_|fail)
   refine fC a6 rfl rfl rfl (by omega) (by first | trivial | rfl) ?_
   repeat' (first|refine aC ?_|refine b7 a6 ?_|fail)
   refine eT a6 1 rfl rfl rfl (hkeep _ _) (by first | trivial | rfl) ?_
   repeat' (first|refine aC ?_|refine b7 a6 ?_|refine dt a6 0 rfl rfl rfl rfl (by first|trivial|rfl) ?_)
   refine fC a6 rfl rfl rfl (by omega) (by first | trivial | rfl) ?_
   repeat' (first|refine aC ?_|refine b7 a6 ?_|fail)
   refine dt a6 1 rfl rfl rfl hset0 (by first | trivial | rfl) ?_
   repeat' (first|refine aC ?_|refine b7 a6 ?_|fail)
   refine rG (zk s hs (gX F (yD i (some (ob,ocs,ocap)))) hF n hn h0 q.Kind (by omega) st.1.2 (by omega)) (hkeep _ _) ?_
   generalize gN s n q.Kind st.1.2 R.2=y at hrs ⊢
   unfold EE
   repeat' (first|refine aC ?_|refine eS a6 ?_|fail)
   refine y8 a6 _ rfl rfl rfl rfl (fi (A:=[_,_])) (by simp;omega) (by simp;omega) (hkeep _ _) (by first | trivial | rfl) fun q'=>?_
   refine HU [0,2,3,6,7,8,70,71,94] FS ?_
   refine aO (aK (fi (A:=[_,_])).symm) ?_
   repeat' (first|refine HK a6 FS ?_|(apply aU;first|refine aT a6 ?_|refine aM a6 ?_)|fail)
   refine aj a6 1 rfl rfl rfl rfl rfl rfl (by rw [Nat.ble_eq,List.length_set];exact hPl) ?_
   repeat' (first|refine go ?_|refine HK a6 FS ?_|(apply aW;refine aV ?_)|fail)
   exact aB (r+1,q') rfl ⟨by rw [Iv];rfl,trivial⟩ (by dsimp only;omega) (by dsimp only;omega) (fun _ _ h=>by dsimp only;rw [hrs];dsimp only;rw [List.map_append];simp only [iw,List.set_set] at h;exact h)
  have hrc:r=c:=by have:=Ix h;omega
  subst hrc
  generalize fw s n q.Kind st.1.2 r p2.2=R at hrl hstep ⊢
  have hset:(cs.set (0+((j:Int)).toNat * 3+2) (.vec qv 6 (R.1.map bI)))[0+((j:Int)).toNat * 3+2]?=some (.vec qv 6 (R.1.map bI)):=List.getElem?_set_self hPl
  repeat' (first|refine go ?_|refine HK a6 FS ?_|(apply aW;refine aV ?_)|fail)
  refine bc (ck (L':=[eF b s (gX F (yD i (some (ob,ocs,ocap)))) R.2,(ob,.box (cs.set (0+((j:Int)).toNat * 3+2) (.vec qv 6 (R.1.map bI))) 77)]) (List.Sublist.cons_cons _ (List.Sublist.cons_cons _ (List.nil_sublist _)))) ?_
  refine bc (bD 1 (cs':=(cs.set (0+((j:Int)).toNat * 3+2) (.vec qv 6 (R.1.map bI))).set (0+((j:Int)).toNat * 3+2) (.imm 6 (R.1.map bI))) rfl fun σ vs h=>cC h hset fun v hv=>VR.im hv) ?_
  rw [List.set_set]
  exact aB (j+1,cs.set (0+((j:Int)).toNat * 3+2) (.imm 6 (R.1.map bI))) rfl ⟨by rw [Iv];rfl,trivial⟩ ⟨by dsimp only;omega,by dsimp only;rw [List.length_set];exact h1,h2,h3,by rw [hstep,hP];dsimp only [cQ];rw [List.take_set,h4];exact Bq hq⟩ (by dsimp only;omega) (fun _ _ h=>by dsimp only;rw [hstep];exact h)
 have hji:j=i:=by have:=Ix h;omega
 subst hji
 generalize hT:fE s n st.1.2 st.1.1 j st.2=T at h4 ⊢
 have hTl:T.1.length=j:=by rw [←hT,(hfi j).1];exact hln.1
 repeat' (first|refine go ?_|fail)
 refine bc (aK (List.Perm.swap _ _ _)) ?_
 refine bc (zF (k:=5) (n:=j) (cap:=ocap) (l:=T.1.map bj) rfl (by rw [h4,Bo _ _ _ (by omega)]) h1 (fun q hq=>by
  obtain ⟨x,_,rfl⟩:=List.mem_map.1 hq
  rfl) (by rw [It];exact hTl) h2 h3) ?_
 exact dY rfl rfl
end Go.Proofs.YtjjpkibjffmceaaGreat
