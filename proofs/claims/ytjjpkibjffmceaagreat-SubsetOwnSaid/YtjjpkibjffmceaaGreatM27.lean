/-
  The maker: outlines.
-/
import Derived.Test.YtjjpkibjffmceaaGreatM26
import Derived.Test.YtjjpkibjffmceaaGreatM23
namespace Go.Proofs.YtjjpkibjffmceaaGreat
open Go.RowKit
attribute [local irreducible] AT bW AX AO Av Kt bA eI DA dl
variable (s:List Int) (hs:s.length≤1000000) (F:MF)
include hs
abbrev bQ:AV:= .sc (.slice none 0 0)
set_option maxHeartbeats 8000000 in
theorem te:rc 96 [] s F (jJ s) GD:=by
 intro b m
 refine aS Tryz.func96 rfl Tryz.ntmps96 rfl fun B=>?_
 repeat' (first|refine go ?_|refine HK a6 FS ?_|refine aX a6 fun _=>?_|fail)
 rename_i rb ob
 refine aO (aK (L':=eF b s F m::(ob,.box [bQ,bQ] 57)::(rb,.box [bQ,bQ] 57)::[]) (List.perm_append_comm (l₁:=[_,_]))) ?_
 refine aO (bD 1 (cs':=[.vec none 3 [],.vec none 1 []]) rfl fun σ vs h=>nN.vrs (a:=[bQ,bQ]) (b:=[.vec none 3 [],.vec none 1 []]) ⟨dH.vecN 3,dH.vecN 1,trivial⟩ h) ?_
 refine cS ?_
 have hk:=cB s hs m.a (n:=3) (by omega)
 have hk:0≤(dr s 3 m).1∧(dr s 3 m).1 < 3:=hk
 generalize e1:dr s 3 m=p1 at hk ⊢
 obtain ⟨k,hkk⟩:∃k:Nat,p1.1=k:=⟨p1.1.toNat,by omega⟩
 rw [hkk]
 have hok:∀i,tC i (iA s i p1.2).1:=fun i=>uK s i p1.2
 repeat' (first|refine go ?_|refine ak ?_|refine HK a6 FS ?_)
 refine aJ [0,2,3,4] (α:=Nat×Option (Nat×Nat)×Option (Nat×Nat)) (fun x=>[(5,aP x.1)]) (fun x=>x.1≤k) (fun x=>eF b s F (iA s x.1 p1.2).2::(ob,.box [.vec x.2.1 3 ((iA s x.1 p1.2).1.1.map cM),.vec x.2.2 1 (aZ (iA s x.1 p1.2).1.2)] 57)::(rb,.box [bQ,bQ] 57)::(tok x.2.1 72 3 ((iA s x.1 p1.2).1.1.map cM).length++(tok x.2.2 3 1 (aZ (iA s x.1 p1.2).1.2).length++[]))) (fun x=>k - x.1) (0,none,none) rfl ⟨rfl,trivial⟩ (Nat.zero_le _) (fun _ _ h=>by simpa [iA,ii,cQ,tok,g7,aZ] using h) ?_
 rintro ⟨i,q1,q2⟩ hi
 dsimp only at hi ⊢
 try dsimp only [Ir,Iq,Ip,Ij]
 repeat' (first|refine go ?_|refine HK a6 FS ?_)
 refine ay rfl (fun h=>?_) (fun h=>?_)
 ·have hil:i < k:=by have:=Iy h;omega
  have hoi:=hok i
  have hoi1:=hok (i+1)
  have hstep:iA s (i+1) p1.2=co (dr s 4) (fun k=>co (ol s (iA s i p1.2).1.1 (2+k).toNat) fun l=>cQ (l,(iA s i p1.2).1.2++[(l.length:Int) - 1])) (iA s i p1.2).2:=rfl
  rw [hstep] at hoi1
  generalize iA s i p1.2=st at hoi hoi1 hstep ⊢
  have hln:=hoi.len
  have hle:=hoi.endl
  repeat' (first|refine go ?_|refine ak ?_|refine HK a6 FS ?_)
  refine cS ?_
  have hc:=cB s hs st.2.a (n:=4) (by omega)
  have hc:0≤(dr s 4 st.2).1∧(dr s 4 st.2).1 < 4:=hc
  unfold co at hstep hoi1
  generalize dr s 4 st.2=p2 at hc hstep hoi1 ⊢
  obtain ⟨c,hcc⟩:∃k:Nat,2+p2.1=k:=⟨(2+p2.1).toNat,by omega⟩
  dsimp only at hstep hoi1
  rw [hcc] at hstep hoi1
  dsimp only [Int.toNat_natCast] at hstep hoi1
  repeat' (first|refine go ?_|refine ak ?_|refine HK a6 FS ?_|(apply aW;refine aV ?_)|fail)
  rw [hcc]
  have hpt:∀j,(ol s st.1.1 j p2.2).1.length=st.1.1.length+j:=fun j=>(xo s st.1.1 hoi.pts j p2.2).1
  refine aJ [0,2,3,4,5,6] (α:=Nat×Option (Nat×Nat)) (fun x=>[(7,aP x.1)]) (fun x=>x.1≤c) (fun x=>eF b s F (ol s st.1.1 x.1 p2.2).2::(ob,.box [.vec x.2 3 ((ol s st.1.1 x.1 p2.2).1.map cM),.vec q2 1 (aZ st.1.2)] 57)::(rb,.box [bQ,bQ] 57)::(tok x.2 72 3 ((ol s st.1.1 x.1 p2.2).1.map cM).length++(tok q2 3 1 (aZ st.1.2).length++[]))) (fun x=>c - x.1) (0,q1) rfl ⟨rfl,trivial⟩ (Nat.zero_le _) (fun _ _ h=>h) ?_
  rintro ⟨j,q⟩ hj
  dsimp only at hj ⊢
  try dsimp only [Ir,Iq,Ip,Ij]
  repeat' (first|refine go ?_|refine HK a6 FS ?_)
  refine ay rfl (fun h=>?_) (fun h=>?_)
  ·have hjl:j < c:=by have:=Iy h;omega
   have hl0:=hpt j
   have hstep2:ol s st.1.1 (j+1) p2.2=((ol s st.1.1 j p2.2).1++[(ED s j (ol s st.1.1 j p2.2).2).1],(ED s j (ol s st.1.1 j p2.2).2).2):=rfl
   generalize ol s st.1.1 j p2.2=u at hl0 hstep2 ⊢
   repeat' (first|refine go ?_|refine ak ?_)
   refine dz [.cell (ob,0,.vec q 3 (u.1.map cM))] 19 [(0,.v),(1,.k),(2,.v),(6,.v),(10,.v),(11,.v),(3,.f),(4,.v),(5,.v),(7,.f),(8,.v),(9,.v),(12,.v),(13,.v),(14,.f),(15,.v),(16,.v),(17,.v),(18,.v)] none ?_ trivial rfl (by kernel_rfl) (by kernel_rfl) (by kernel_rfl) mixed (by kernel_rfl) rfl
   repeat' (first|refine aC ?_|refine b7 a6 ?_|fail)
   refine eT a6 0 rfl rfl rfl (bU 1 rfl rfl cg) (by first | trivial | rfl) ?_
   repeat' (first|refine aC ?_|refine b7 a6 ?_|fail)
   refine ff (bU 1 rfl rfl cg) ?_
   have hx:=cB s hs u.2.a (n:=21) (by omega)
   have hx:0≤(dr s 21 u.2).1∧(dr s 21 u.2).1 < 21:=hx
   generalize e2:dr s 21 u.2=x1 at hx ⊢
   repeat' (first|refine aC ?_|(apply fq;refine gK ?_)|fail)
   refine ff (bU 1 rfl rfl cg) ?_
   have hy:=cB s hs x1.2.a (n:=21) (by omega)
   have hy:0≤(dr s 21 x1.2).1∧(dr s 21 x1.2).1 < 21:=hy
   generalize e3:dr s 21 x1.2=y1 at hy ⊢
   repeat' (first|refine aC ?_|refine b7 a6 ?_|(apply fq;refine gK ?_)|fail)
   by_cases hp:j=0
   ·rw [decide_eq_true (show ((j:Int)=0) by omega)]
    repeat' (first|refine aC ?_|refine lK rfl rfl ?_)
    refine Fa rfl rfl ?_
    have hpd:ED s j u.2=(⟨x1.1 * 50 - 100,y1.1 * 50 - 200,true⟩,y1.2):=by simp [ED,co,cQ,e2,e3,hp]
    rw [hpd] at hstep2
    dsimp only at hstep2
    repeat' (first|refine aC ?_|refine b7 a6 ?_|refine eS a6 ?_|refine lK rfl rfl ?_)
    refine HU [0,2,3,4,5,6,7,24,41] FS ?_
    repeat' (first|fail)
    refine bB a6 _ rfl rfl rfl rfl (fi (A:=[_,_,_])) (by simp;omega) (by simp;omega) rfl fun q'=>?_
    refine aO (aK (fi (A:=[_,_,_])).symm) ?_
    repeat' (first|refine go ?_|refine HK a6 FS ?_|(apply aW;refine aV ?_)|(apply aG;first|refine HM a6 0 HH ?_|refine HM a6 1 HH ?_|refine HM a6 2 HH ?_|refine HM a6 3 HH ?_|fail))
    exact aB (j+1,q') rfl ⟨by rw [Iv];rfl,trivial⟩ (by dsimp only;omega) (by dsimp only;omega) (fun _ _ h=>by dsimp only;rw [hstep2];simpa [g7,iw,cM] using h)
   ·rw [decide_eq_false (show ¬((j:Int)=0) by omega)]
    repeat' (first|refine aC ?_|refine b7 a6 ?_|fail)
    refine ff (bU 1 rfl rfl cg) ?_
    generalize e4:dr s 4 y1.2=z1
    have hpd:ED s j u.2=(⟨x1.1 * 50 - 100,y1.1 * 50 - 200,decide (0 < z1.1)⟩,z1.2):=by simp [ED,co,cQ,e2,e3,e4,hp]
    rw [hpd] at hstep2
    dsimp only at hstep2
    repeat' (first|refine aC ?_|refine b7 a6 ?_|refine eS a6 ?_|fail)
    refine HU [0,2,3,4,5,6,7,24,41] FS ?_
    repeat' (first|fail)
    refine bB a6 _ rfl rfl rfl rfl (fi (A:=[_,_,_])) (by simp;omega) (by simp;omega) rfl fun q'=>?_
    refine aO (aK (fi (A:=[_,_,_])).symm) ?_
    repeat' (first|refine go ?_|refine HK a6 FS ?_|(apply aW;refine aV ?_)|(apply aG;first|refine HM a6 0 HH ?_|refine HM a6 1 HH ?_|refine HM a6 2 HH ?_|refine HM a6 3 HH ?_|fail))
    exact aB (j+1,q') rfl ⟨by rw [Iv];rfl,trivial⟩ (by dsimp only;omega) (by dsimp only;omega) (fun _ _ h=>by dsimp only;rw [hstep2];simpa [g7,iw,cM] using h)
  have hjl:j=c:=by have:=Ix h;omega
  subst hjl
  have hjn:=hpt j
  generalize ol s st.1.1 j p2.2=u at hjn hstep hoi1 ⊢
  have hul:(u.1.map cM).length=u.1.length:=It ..
  have hel:(aZ st.1.2).length=st.1.2.length:=aQ _
  repeat' (first|refine go ?_|refine HK a6 FS ?_|(apply bK;first|refine HO a6 0 HG ?_|refine HO a6 1 HG ?_|refine HO a6 2 HG ?_|refine HO a6 3 HG ?_|refine HP a6 0 HG ?_|refine HP a6 1 HG ?_|refine HP a6 2 HG ?_|refine HR a6 1 HE (by assumption) rfl ?_|refine HR a6 0 HE (by assumption) rfl ?_|fail)|(apply aW;refine aV ?_)|refine bG a6 ?_|fail)
  refine bB a6 _ rfl rfl rfl rfl (GG (A:=[_,_,_])) (by simp [aQ];omega) (by simp [aQ];omega) rfl fun q'=>?_
  refine aO (aK (GG (A:=[_,_,_])).symm) ?_
  repeat' (first|refine go ?_|refine HK a6 FS ?_|(apply aW;refine aV ?_)|(apply aG;first|refine HM a6 0 HH ?_|refine HM a6 1 HH ?_|refine HM a6 2 HH ?_|refine HM a6 3 HH ?_|fail))
  exact aB (i+1,q,q') rfl ⟨by rw [Iv];rfl,trivial⟩ (by dsimp only;omega) (by dsimp only;omega) (fun _ _ h=>by dsimp only;rw [hstep];simpa [g7,iw,cQ,aZ,hul] using h)
 have hil:i=k:=by have:=Ix h;omega
 subst hil
 have hv:jJ s m=iA s i p1.2:=by
  unfold jJ co
  rw [e1]
  dsimp only
  rw [hkk]
  rfl
 rw [hv]
 generalize iA s i p1.2=st
 repeat' (first|refine go ?_|(apply bK;first|refine HO a6 0 HG ?_|refine HO a6 1 HG ?_|refine HO a6 2 HG ?_|refine HO a6 3 HG ?_|refine HP a6 0 HG ?_|refine HP a6 1 HG ?_|refine HP a6 2 HG ?_|refine HR a6 1 HE (by assumption) rfl ?_|refine HR a6 0 HE (by assumption) rfl ?_|fail)|(apply aG;first|refine HM a6 0 HH ?_|refine HM a6 1 HH ?_|refine HM a6 2 HH ?_|refine HM a6 3 HH ?_|fail))
 refine bc (bD 2 (cs':=[.imm 3 (st.1.1.map cM),.imm 1 (aZ st.1.2)]) rfl fun σ vs h=>nN.vrs (a:=[.vec q1 3 (st.1.1.map cM),.vec q2 1 (aZ st.1.2)]) (b:=[.imm 3 (st.1.1.map cM),.imm 1 (aZ st.1.2)]) ⟨dH.im,dH.im,trivial⟩ h) (jb a6 2 [eF b s F st.2] rfl rfl rfl rfl rfl (List.Sublist.cons_cons _ (List.nil_sublist _)) ⟨rfl,rfl⟩)
end Go.Proofs.YtjjpkibjffmceaaGreat
namespace Go.Proofs.YtjjpkibjffmceaaGreat
open Go.RowKit
attribute [local irreducible] AT bW AX AO Av Kt bA eI DA dl
variable (s:List Int) (hs:s.length≤1000000) (F:MF)
include hs
theorem BD (a:Int) (m:MS) (k:Nat):(fH s a k m).1.length≤1+k:=by
 have _:=hs
 clear hs
 refine (bZ.runs (fun i (l:List Int)=>l.length≤1+i) k (by simp) fun i l _ h=>bZ.ite (fun _=>(bZ.any _).bnd fun z _=>bZ.ret ?_) fun _=>bZ.ret (by omega)) m
 split
 ·simp;omega
 ·omega
theorem yJ (a:Int) (m:MS) {j:Nat} (h:4≤(fH s a j m).1.length):∀k,j≤k→fH s a k m=fH s a j m:=by
 have _:=hs
 clear hs
 intro k hk
 induction k with
 | zero=>rw [show j=0 by omega]
 | succ k ih=>
  by_cases e:j=k+1
  ·rw [e]
  ·have h1:=ih (by omega)
   have h2:fH s a (k+1) m=(if (fH s a k m).1.length < 4 then co (dr s 3) fun z=>cQ (if z=0 then (fH s a k m).1++[a+1+k] else (fH s a k m).1) else cQ (fH s a k m).1) (fH s a k m).2:=rfl
   rw [h2,h1,if_neg (by omega)]
   rfl
def DZ (l:List Int):AV:= .imm 1 (aZ l)
def C4 (l:List (List Int)):AV:= .imm 1 (bv l)
set_option maxHeartbeats 4000000 in
theorem qL {kg:Option (Nat×Nat)} {gl:List (List AV)} (hF:F.gl= .vec kg 9 gl) (n:Nat) (hn:gl.length=n) (h0:0 < n∧n≤1000):rc 153 [] s F (nC s n) DZ:=by
 intro b m
 refine aS Tryz.func153 rfl Tryz.ntmps153 rfl fun B=>?_
 repeat' (first|refine go ?_|refine HK a6 FS ?_|(apply bK;first|refine HO a6 0 HG ?_|refine HO a6 1 HG ?_|refine HO a6 2 HG ?_|refine HO a6 3 HG ?_|refine HP a6 0 HG ?_|refine HP a6 1 HG ?_|refine HP a6 2 HG ?_|refine HR a6 1 HE (by assumption) rfl ?_|refine HR a6 0 HE (by assumption) rfl ?_|fail)|fail)
 rw [hF]
 repeat' (first|refine go ?_|refine HK a6 FS ?_)
 rw [hn]
 refine cS ?_
 have hk:=cB s hs m.a (n:=n) (by omega)
 have hk:0≤(dr s n m).1∧(dr s n m).1 < n:=hk
 generalize e1:dr s n m=p1 at hk ⊢
 repeat' (first|refine go ?_|refine ak ?_|refine HK a6 FS ?_|(apply aW;refine aV ?_)|refine ji (d:=17) a6 fun _=>?_|fail)
 rename_i kb
 refine bH (aK (L':=[eF b s F p1.2]++(tok (some (kb,1)) 3 1 1++[])) (List.perm_append_comm (l₁:=[_]))) ?_
 have hmx:∀j,(fH s p1.1 j p1.2).1.length≤1+j:=fun j=>BD s hs _ _ j
 refine aJ [0,3] (α:=Nat×Option (Nat×Nat)) (fun x=>[(6,aP (p1.1+1+x.1)),(5,.vec x.2 1 (aZ (fH s p1.1 x.1 p1.2).1))]) (fun x=>x.1≤(n - (p1.1+1)).toNat) (fun x=>[eF b s F (fH s p1.1 x.1 p1.2).2]++(tok x.2 3 1 (aZ (fH s p1.1 x.1 p1.2).1).length++[])) (fun x=>(n - (p1.1+1)).toNat - x.1) (0,some (kb,1)) rfl ⟨by simp [cw],rfl,trivial⟩ (Nat.zero_le _) (fun _ _ h=>h) ?_
 rintro ⟨j,q⟩ hj
 dsimp only at hj ⊢
 have hl:=hmx j
 have hstop:=yJ s hs p1.1 p1.2 (j:=j)
 have hstep:fH s p1.1 (j+1) p1.2=(if (fH s p1.1 j p1.2).1.length < 4 then co (dr s 3) fun z=>cQ (if z=0 then (fH s p1.1 j p1.2).1++[p1.1+1+j] else (fH s p1.1 j p1.2).1) else cQ (fH s p1.1 j p1.2).1) (fH s p1.1 j p1.2).2:=rfl
 have hv:nC s n m=fH s p1.1 (n - (p1.1+1)).toNat p1.2:=by
  unfold nC co
  rw [e1]
 generalize e2:fH s p1.1 j p1.2=st at hl hstop hstep ⊢
 have hil:(aZ st.1).length=st.1.length:=aQ _
 try dsimp only [Ir,Iq,Ip,Ij]
 repeat' (first|refine go ?_|refine HK a6 FS ?_)
 by_cases hlt:p1.1+1+(j:Int) < (n:Int)
 ·rw [decide_eq_true hlt]
  repeat' (first|refine go ?_|refine HK a6 FS ?_|refine HV FS ?_)
  refine ay rfl (fun h=>?_) (fun h=>?_)
  ·have h4:st.1.length < 4:=by have:=Iy h;omega
   repeat' (first|refine go ?_|refine ak ?_|refine HK a6 FS ?_)
   rw [if_pos h4] at hstep
   unfold co at hstep
   refine cS ?_
   generalize dr s 3 st.2=z at hstep ⊢
   dsimp only at hstep
   repeat' (first|refine go ?_|refine HK a6 FS ?_)
   refine ay rfl (fun hz=>?_) (fun hz=>?_)
   ·rw [if_pos (Iy hz)] at hstep
    repeat' (first|refine go ?_|refine HK a6 FS ?_|refine bG a6 ?_|fail)
    refine bB a6 _ rfl rfl rfl rfl (fi (A:=[_])) (by simp [aQ];omega) (by simp [aQ];omega) rfl fun q'=>?_
    refine aO (aK (fi (A:=[_])).symm) ?_
    repeat' (first|refine go ?_|refine HK a6 FS ?_|(apply aW;refine aV ?_)|fail)
    exact aB (j+1,q') rfl ⟨by dsimp only;rw [show p1.1+1+((j+1:Nat):Int)=p1.1+1+(j:Int)+1 by omega];rfl,by rw [hstep];dsimp only [cQ];rw [show aZ (st.1++[p1.1+1+(j:Int)])=aZ st.1++[[aP (p1.1+1+(j:Int))]] from List.map_append ..];rfl,trivial⟩ (by dsimp only;omega) (by dsimp only;omega) (fun _ _ h=>by dsimp only;rw [hstep];simpa [cQ,aZ] using h)
   ·rw [if_neg (Ix hz)] at hstep
    repeat' (first|refine go ?_|refine HK a6 FS ?_|(apply aW;refine aV ?_)|fail)
    exact aB (j+1,q) rfl ⟨by dsimp only;rw [show p1.1+1+((j+1:Nat):Int)=p1.1+1+(j:Int)+1 by omega];rfl,by rw [hstep];rfl,trivial⟩ (by dsimp only;omega) (by dsimp only;omega) (fun _ _ h=>by dsimp only;rw [hstep];simpa [cQ] using h)
  ·have h4:¬st.1.length < 4:=by have:=Ix h;omega
   repeat' (first|refine go ?_|refine HK a6 FS ?_)
   refine bc (ck (L':=[eF b s F st.2]) (List.Sublist.cons_cons _ (List.nil_sublist _))) ?_
   refine bc (bf (t:=2) (c':= .imm 1 (aZ st.1)) rfl fun σ v h=>VR.im h) (HS FS ?_)
   rw [hv,hstop (by omega) _ hj]
   exact ⟨rfl,rfl⟩
 ·rw [decide_eq_false hlt]
  repeat' (first|refine go ?_|refine HK a6 FS ?_|refine HW HF ?_|refine bF rfl ?_)
  refine bc (ck (L':=[eF b s F st.2]) (List.Sublist.cons_cons _ (List.nil_sublist _))) ?_
  refine bc (bf (t:=2) (c':= .imm 1 (aZ st.1)) rfl fun σ v h=>VR.im h) (HS FS ?_)
  rw [hv,show (n - (p1.1+1)).toNat=j by omega,e2]
  exact ⟨rfl,rfl⟩
theorem ge (l:List (List Int)):(bv l).length=l.length:=by
 have _:=hs
 clear hs
 simp [bv]
set_option maxHeartbeats 2000000 in
theorem nz {kg:Option (Nat×Nat)} {gl:List (List AV)} (hF:F.gl= .vec kg 9 gl) (n:Nat) (hn:gl.length=n) (h0:0 < n∧n≤1000) (most:Int) (hm:0≤most∧most≤6):rc 154 [aP most] s F (ph s n most) C4:=by
 intro b m
 refine aS Tryz.func154 rfl Tryz.ntmps154 rfl fun B=>?_
 repeat' (first|refine go ?_|refine HK a6 FS ?_|(apply aW;refine aV ?_)|fail)
 refine cS ?_
 have hk:=cB s hs m.a (n:=most+1) (by omega)
 have hk:0≤(dr s (most+1) m).1∧(dr s (most+1) m).1 < most+1:=hk
 generalize e1:dr s (most+1) m=p1 at hk ⊢
 obtain ⟨k,hkk⟩:∃k:Nat,p1.1=k:=⟨p1.1.toNat,by omega⟩
 rw [hkk]
 have hln:∀j,(iB s n j p1.2).1.length=j:=fun j=>by
  induction j with
  | zero=>rfl
  | succ j ih=>
   have:iB s n (j+1) p1.2=((iB s n j p1.2).1++[(nC s n (iB s n j p1.2).2).1],(nC s n (iB s n j p1.2).2).2):=rfl
   rw [this]
   simp [ih]
 repeat' (first|refine go ?_|refine ak ?_|refine HK a6 FS ?_)
 refine bH (bf (t:=5) (c':= .vec none 1 []) rfl fun σ v h=>cq 1 h) ?_
 refine aJ [0,6] (α:=Nat×Option (Nat×Nat)) (fun x=>[(7,aP x.1),(5,.vec x.2 1 (bv (iB s n x.1 p1.2).1))]) (fun x=>x.1≤k) (fun x=>[eF b s F (iB s n x.1 p1.2).2]++(tok x.2 22 1 (bv (iB s n x.1 p1.2).1).length++[])) (fun x=>k - x.1) (0,none) rfl ⟨rfl,rfl,trivial⟩ (Nat.zero_le _) (fun _ _ h=>h) ?_
 rintro ⟨j,q⟩ hj
 dsimp only at hj ⊢
 have hl:=hln j
 have hstep:iB s n (j+1) p1.2=((iB s n j p1.2).1++[(nC s n (iB s n j p1.2).2).1],(nC s n (iB s n j p1.2).2).2):=rfl
 try dsimp only [Ir,Iq,Ip,Ij]
 repeat' (first|refine go ?_|refine HK a6 FS ?_)
 refine ay rfl (fun h=>?_) (fun h=>?_)
 ·have hjl:j < k:=by have:=Iy h;omega
  generalize iB s n j p1.2=st at hl hstep ⊢
  have hrl:=ge s hs st.1
  repeat' (first|refine go ?_|refine ak ?_|refine HK a6 FS ?_)
  refine uC (qL s hs F hF n hn h0) ?_
  generalize nC s n st.2=y at hstep ⊢
  unfold DZ
  repeat' (first|refine bG a6 ?_|fail)
  refine bB a6 _ rfl rfl rfl rfl (fi (A:=[_])) (by simp [ge s hs];omega) (by simp [ge s hs];omega) rfl fun q'=>?_
  refine aO (aK (fi (A:=[_])).symm) ?_
  repeat' (first|refine go ?_|refine HK a6 FS ?_|(apply aW;refine aV ?_)|fail)
  exact aB (j+1,q') rfl ⟨by rw [Iv];rfl,by rw [hstep];dsimp only;rw [show bv (st.1++[y.1])=bv st.1++[[.imm 1 (aZ y.1)]] from List.map_append ..];rfl,trivial⟩ (by dsimp only;omega) (by dsimp only;omega) (fun _ _ h=>by dsimp only;rw [hstep];simpa [bv] using h)
 have hjl:j=k:=by have:=Ix h;omega
 subst hjl
 have hv:ph s n most m=iB s n j p1.2:=by
  unfold ph co
  rw [e1]
  dsimp only
  rw [hkk]
  rfl
 rw [hv]
 generalize iB s n j p1.2=st
 repeat' (first|refine go ?_|refine HK a6 FS ?_)
 refine bc (ck (L':=[eF b s F st.2]) (List.Sublist.cons_cons _ (List.nil_sublist _))) ?_
 exact bc (bf (t:=4) (c':= .imm 1 (bv st.1)) rfl fun σ v h=>VR.im h) (HS FS ⟨rfl,rfl⟩)
end Go.Proofs.YtjjpkibjffmceaaGreat
namespace Go.Proofs.YtjjpkibjffmceaaGreat
open Go.RowKit
attribute [local irreducible] AT bW AX AO Av Kt bA eI DA dl
variable (s:List Int) (hs:s.length≤1000000) (F:MF)
include hs
def EE (r:bX):AV:= .agg (bI r)
def HD (rb:Nat) (b0 b1 b2 b3 b4:AV) (x:Int):Nat×AB:=(rb,.box [b0,b1,b2,b3,b4,aP x] 81)
theorem sf (a:List Int) (l:List (List Int)):bv [a]++bv l=bv (a::l):=by
 have _:=hs
 clear hs
 rfl
theorem uJ (n:Int) (m:MS) (k:Nat):(gu s n k m).1.length=k:=by
 have _:=hs
 clear hs
 induction k with
 | zero=>rfl
 | succ k ih=>
  have:gu s n (k+1) m=((gu s n k m).1++[(dr s n (gu s n k m).2).1],(dr s n (gu s n k m).2).2):=rfl
  rw [this]
  simp [ih]
theorem vG (nn:Int) (calls:List Int) (m:MS) (k:Nat):(fB s nn calls k m).1.length=k:=by
 have _:=hs
 clear hs
 induction k with
 | zero=>rfl
 | succ i ih=>
  have:fB s nn calls (i+1) m=(co (dr s nn) fun a=>co (dr s calls.length) fun z=>cQ ((fB s nn calls i m).1++[(⟨a,calls.getD z.toNat 0⟩:gw)])) (fB s nn calls i m).2:=rfl
  rw [this]
  simp [co,cQ,ih]
set_option maxHeartbeats 16000000 in
theorem zk {kg:Option (Nat×Nat)} {gl:List (List AV)} (hF:F.gl= .vec kg 9 gl) (n:Nat) (hn:gl.length=n) (h0:0 < n∧n≤1000) (kind:Int) (hk:1≤kind∧kind≤6) (calls:List Int) (hcl:calls.length≤1000):rc 97 [aP kind,.imm 1 (aZ calls)] s F (gN s n kind calls) EE:=by
 intro b m
 refine aS Tryz.func97 rfl Tryz.ntmps97 rfl fun B=>?_
 repeat' (first|refine go ?_|refine HK a6 FS ?_|(apply bK;first|refine HO a6 0 HG ?_|refine HO a6 1 HG ?_|refine HO a6 2 HG ?_|refine HO a6 3 HG ?_|refine HP a6 0 HG ?_|refine HP a6 1 HG ?_|refine HP a6 2 HG ?_|refine HR a6 1 HE (by assumption) rfl ?_|refine HR a6 0 HE (by assumption) rfl ?_|fail)|refine aX a6 fun _=>?_|fail)
 rw [hF]
 repeat' (first|refine go ?_|refine HK a6 FS ?_)
 rw [hn]
 rename_i tb rb
 refine aO (aK (L':=[eF b s F m,(rb,.box [bQ,bQ,bQ,bQ,bQ,aP 0] 81),(tb,.box [bQ,bQ,bQ,bQ,bQ,aP 0] 81)]) (List.perm_append_comm (l₁:=[_,_]))) ?_
 refine uC (qL s hs F hF n hn h0) ?_
 have ha:=pw s (n:=n) (by omega) m
 generalize e1:nC s n m=p1 at ha ⊢
 have haf:=ha.few
 unfold DZ
 repeat' (first|refine go ?_|refine HK a6 FS ?_|(apply aG;first|refine HM a6 0 HH ?_|refine HM a6 1 HH ?_|refine HM a6 2 HH ?_|refine HM a6 3 HH ?_|fail)|refine ji (d:=22) a6 fun _=>?_|fail)
 rename_i kb
 refine bH (aK (L':=[eF b s F p1.2,(rb,.box [bQ,.vec (some (kb,1)) 1 (bv [p1.1]),bQ,bQ,bQ,aP 0] 81),(tb,.box [bQ,bQ,bQ,bQ,bQ,aP 0] 81)]++(tok (some (kb,1)) 22 1 1++[])) (List.perm_append_comm (l₁:=[_]))) ?_
 repeat' (first|fail)
 refine ay rfl (fun h6=>?_) (fun h6=>?_)
 ·have h6:=Iy h6
  subst h6
  repeat' (first|refine go ?_|fail)
  refine dz [.cell (rb,1,.vec (some (kb,1)) 1 (bv [p1.1]))] 5 [(0,.v),(1,.k),(2,.v),(3,.f),(4,.v)] none ?_ trivial rfl (by kernel_rfl) (by kernel_rfl) (by kernel_rfl) mixed (by kernel_rfl) rfl
  repeat' (first|refine aC ?_|refine b7 a6 ?_|fail)
  refine eT a6 0 rfl rfl rfl (bU 1 rfl rfl cg) (by first | trivial | rfl) ?_
  repeat' (first|refine aC ?_|refine b7 a6 ?_|fail)
  refine rG (qL s hs F hF n hn h0) (bU 1 rfl rfl cg) ?_
  generalize e2:nC s n p1.2=p2
  unfold DZ
  repeat' (first|refine aC ?_|refine eS a6 ?_|fail)
  refine HU [0,6,7,27,30] FS ?_
  repeat' (first|fail)
  refine bB a6 _ rfl rfl rfl rfl (fi (A:=[_,_,_])) (by simp [ge s hs]) (by simp [ge s hs]) rfl fun q'=>?_
  refine aO (aK (fi (A:=[_,_,_])).symm) ?_
  repeat' (first|refine go ?_|refine HK a6 FS ?_|(apply aG;first|refine HM a6 0 HH ?_|refine HM a6 1 HH ?_|refine HM a6 2 HH ?_|refine HM a6 3 HH ?_|fail))
  refine cS ?_
  have hx:=cB s hs p2.2.a (n:=41) (by omega)
  have hx:0≤(dr s 41 p2.2).1∧(dr s 41 p2.2).1 < 41:=hx
  generalize e3:dr s 41 p2.2=p3 at hx ⊢
  repeat' (first|refine go ?_|refine HK a6 FS ?_|(apply bK;first|refine HO a6 0 HG ?_|refine HO a6 1 HG ?_|refine HO a6 2 HG ?_|refine HO a6 3 HG ?_|refine HP a6 0 HG ?_|refine HP a6 1 HG ?_|refine HP a6 2 HG ?_|refine HR a6 1 HE (by assumption) rfl ?_|refine HR a6 0 HE (by assumption) rfl ?_|fail)|(apply aW;refine aV ?_)|(apply aG;first|refine HM a6 0 HH ?_|refine HM a6 1 HH ?_|refine HM a6 2 HH ?_|refine HM a6 3 HH ?_|fail))
  have hv:gN s n 6 calls m=(⟨[],[p1.1,p2.1],[],[],[],p3.1 * 10 - 200⟩,p3.2):=by simp [gN,EB,co,cQ,e1,e2,e3]
  rw [hv]
  refine bc (bD 2 (cs':=bI ⟨[],[p1.1,p2.1],[],[],[],p3.1 * 10 - 200⟩) rfl fun σ vs h=>nN.vrs (a:=[bQ,.vec q' 1 (bv [p1.1,p2.1]),bQ,bQ,bQ,aP (p3.1 * 10 - 200)]) (b:=bI ⟨[],[p1.1,p2.1],[],[],[],p3.1 * 10 - 200⟩) ⟨dH.nil 1,dH.im,dH.nil 1,dH.nil 1,dH.nil 2,dH.refl _,trivial⟩ h) (jb a6 2 [eF b s F p3.2] rfl rfl rfl rfl rfl (List.Sublist.cons_cons _ (List.nil_sublist _)) ⟨rfl,rfl⟩)
 have h6:=Ix h6
 refine bH (bD 1 (cs':=[.imm 1 [],.vec (some (kb,1)) 1 (bv [p1.1]),.imm 1 [],.vec none 1 [],.vec none 2 [],aP 0]) rfl fun σ vs h=>nN.vrs (a:=[bQ,.vec (some (kb,1)) 1 (bv [p1.1]),bQ,bQ,bQ,aP 0]) (b:=[.imm 1 [],.vec (some (kb,1)) 1 (bv [p1.1]),.imm 1 [],.vec none 1 [],.vec none 2 [],aP 0]) ⟨dH.nil 1,dH.refl _,dH.nil 1,dH.vecN 1,dH.vecN 2,dH.refl _,trivial⟩ h) ?_
 repeat' (first|refine go ?_|refine HK a6 FS ?_)
 refine cS ?_
 generalize e2:dr s 2 p1.2=z
 repeat' (first|refine go ?_|refine HK a6 FS ?_)
 refine sy [0,1,2,6,7,8] ([eF b s F (js s n p1.2).2,(rb,.box [.imm 1 (bv (js s n p1.2).1.1),.vec (some (kb,1)) 1 (bv [p1.1]),.imm 1 (bv (js s n p1.2).1.2),.vec none 1 [],.vec none 2 [],aP 0] 81),(tb,.box [bQ,bQ,bQ,bQ,bQ,aP 0] 81)]++(tok (some (kb,1)) 22 1 1++[])) rfl (fun Q' K=>?_) ?_
 ·refine ay rfl (fun hz=>?_) (fun hz=>?_)
  ·have hz:=Iy hz
   repeat' (first|refine go ?_|refine HK a6 FS ?_)
   refine uC (nz s hs F hF n hn h0 2 (by omega)) ?_
   generalize e3:ph s n 2 z.2=y1
   unfold C4
   repeat' (first|refine go ?_|refine HK a6 FS ?_|(apply aG;first|refine HM a6 0 HH ?_|refine HM a6 1 HH ?_|refine HM a6 2 HH ?_|refine HM a6 3 HH ?_|fail))
   refine uC (nz s hs F hF n hn h0 2 (by omega)) ?_
   generalize e4:ph s n 2 y1.2=y2
   unfold C4
   repeat' (first|refine go ?_|refine HK a6 FS ?_|(apply aG;first|refine HM a6 0 HH ?_|refine HM a6 1 HH ?_|refine HM a6 2 HH ?_|refine HM a6 3 HH ?_|fail))
   have hv:js s n p1.2=((y1.1,y2.1),y2.2):=by simp [js,co,cQ,e2,e3,e4,hz]
   rw [hv] at K
   exact K _ rfl
  ·have hz:=Ix hz
   repeat' (first|refine go ?_|fail)
   have hv:js s n p1.2=(([],[]),z.2):=by simp [js,co,cQ,e2,hz]
   rw [hv] at K
   exact K _ rfl
 generalize e3:js s n p1.2=w
 have ha0:(bv [p1.1])[0]?=some [.imm 1 (aZ p1.1)]:=rfl
 have hial:(aZ p1.1).length=p1.1.length:=aQ _
 by_cases h15:kind=1∨kind=5
 ·have hv:gN s n kind calls m=(⟨w.1.1,[p1.1],w.1.2,(gu s n p1.1.length w.2).1,[],0⟩,(gu s n p1.1.length w.2).2):=by simp [gN,co,cQ,e1,e3,h6,h15]
  rw [hv]
  rcases h15 with rfl | rfl
  all_goals
   repeat' (first|refine go ?_|refine ak ?_|refine HK a6 FS ?_|refine bP rfl ?_|refine bF rfl ?_)
   refine aJ [0,6,7,8] (α:=Nat×Option (Nat×Nat)) (fun x=>[(9,aP x.1)]) (fun x=>x.1≤p1.1.length) (fun x=>[eF b s F (gu s n x.1 w.2).2,(rb,.box [.imm 1 (bv w.1.1),.vec (some (kb,1)) 1 (bv [p1.1]),.imm 1 (bv w.1.2),.vec x.2 1 (aZ (gu s n x.1 w.2).1),.vec none 2 [],aP 0] 81),(tb,.box [bQ,bQ,bQ,bQ,bQ,aP 0] 81)]++(tok x.2 3 1 (aZ (gu s n x.1 w.2).1).length++(tok (some (kb,1)) 22 1 1++[]))) (fun x=>p1.1.length - x.1) (0,none) rfl ⟨rfl,trivial⟩ (Nat.zero_le _) (fun _ _ h=>h) ?_
   rintro ⟨i,q⟩ hi
   dsimp only at hi ⊢
   have hol:=uJ s hs n w.2 i
   have hstep:gu s n (i+1) w.2=((gu s n i w.2).1++[(dr s n (gu s n i w.2).2).1],(dr s n (gu s n i w.2).2).2):=rfl
   try dsimp only [Ir,Iq,Ip,Ij]
   repeat' (first|refine go ?_|refine HK a6 FS ?_|(apply bK;first|refine HO a6 0 HG ?_|refine HO a6 1 HG ?_|refine HO a6 2 HG ?_|refine HO a6 3 HG ?_|refine HP a6 0 HG ?_|refine HP a6 1 HG ?_|refine HP a6 2 HG ?_|refine HR a6 1 HE (by assumption) rfl ?_|refine HR a6 0 HE (by assumption) rfl ?_|fail)|(apply aU;first|refine aT a6 ?_|refine aM a6 ?_)|fail)
   refine ay rfl (fun h=>?_) (fun h=>?_)
   ·have hil:i < p1.1.length:=by have:=Iy h;omega
    generalize gu s n i w.2=st at hol hstep ⊢
    have hoil:(aZ st.1).length=st.1.length:=aQ _
    repeat' (first|refine go ?_|refine ak ?_)
    refine dz [.cell (rb,3,.vec q 1 (aZ st.1))] 6 [(0,.v),(1,.k),(2,.v),(3,.v),(4,.f),(5,.v)] none ?_ trivial rfl (by kernel_rfl) (by kernel_rfl) (by kernel_rfl) mixed (by kernel_rfl) rfl
    repeat' (first|refine aC ?_|refine b7 a6 ?_|fail)
    refine eT a6 0 rfl rfl rfl (bU 1 rfl rfl cg) (by first | trivial | rfl) ?_
    repeat' (first|refine aC ?_|refine b7 a6 ?_|fail)
    refine ff (bU 1 rfl rfl cg) ?_
    generalize dr s n st.2=o at hstep ⊢
    repeat' (first|refine aC ?_|refine eS a6 ?_|fail)
    refine HU [0,6,7,8,9,98,102] FS ?_
    repeat' (first|fail)
    refine bB a6 _ rfl rfl rfl rfl (fi (A:=[_,_,_])) (by simp [aQ];omega) (by simp [aQ];omega) rfl fun q'=>?_
    refine aO (aK (fi (A:=[_,_,_])).symm) ?_
    repeat' (first|refine go ?_|refine HK a6 FS ?_|(apply aW;refine aV ?_)|(apply aG;first|refine HM a6 0 HH ?_|refine HM a6 1 HH ?_|refine HM a6 2 HH ?_|refine HM a6 3 HH ?_|fail))
    exact aB (i+1,q') rfl ⟨by rw [Iv];rfl,trivial⟩ (by dsimp only;omega) (by dsimp only;omega) (fun _ _ h=>by dsimp only;rw [hstep];simpa [g7,iw,aZ] using h)
   have hil:i=p1.1.length:=by have:=Ix h;omega
   subst hil
   generalize gu s n p1.1.length w.2=st
   repeat' (first|refine go ?_|(apply bK;first|refine HO a6 0 HG ?_|refine HO a6 1 HG ?_|refine HO a6 2 HG ?_|refine HO a6 3 HG ?_|refine HP a6 0 HG ?_|refine HP a6 1 HG ?_|refine HP a6 2 HG ?_|refine HR a6 1 HE (by assumption) rfl ?_|refine HR a6 0 HE (by assumption) rfl ?_|fail)|(apply aG;first|refine HM a6 0 HH ?_|refine HM a6 1 HH ?_|refine HM a6 2 HH ?_|refine HM a6 3 HH ?_|fail))
   exact bc (bD 2 (cs':=bI ⟨w.1.1,[p1.1],w.1.2,st.1,[],0⟩) rfl fun σ vs h=>nN.vrs (a:=[.imm 1 (bv w.1.1),.vec (some (kb,1)) 1 (bv [p1.1]),.imm 1 (bv w.1.2),.vec q 1 (aZ st.1),.vec none 2 [],aP 0]) (b:=bI ⟨w.1.1,[p1.1],w.1.2,st.1,[],0⟩) ⟨dH.refl _,dH.im,dH.refl _,dH.im,dH.im,dH.refl _,trivial⟩ h) (jb a6 2 [eF b s F st.2] rfl rfl rfl rfl rfl (List.Sublist.cons_cons _ (List.nil_sublist _)) ⟨rfl,rfl⟩)
 by_cases h2:kind=2
 ·subst h2
  repeat' (first|refine go ?_|refine ak ?_|refine HK a6 FS ?_|refine bP rfl ?_|refine bF rfl ?_)
  refine cS ?_
  have hc:=cB s hs w.2.a (n:=4) (by omega)
  have hc:0≤(dr s 4 w.2).1∧(dr s 4 w.2).1 < 4:=hc
  generalize e4:dr s 4 w.2=y at hc ⊢
  obtain ⟨k,hkk⟩:∃k:Nat,y.1=k:=⟨y.1.toNat,by omega⟩
  have hv:gN s n 2 calls m=(⟨w.1.1,[p1.1],w.1.2,(gu s n k y.2).1,[],0⟩,(gu s n k y.2).2):=by simp [gN,co,cQ,e1,e3,e4,hkk]
  rw [hv,hkk]
  repeat' (first|refine go ?_|refine ak ?_|refine HK a6 FS ?_)
  refine aJ [0,6,7,8,10] (α:=Nat×Option (Nat×Nat)) (fun x=>[(11,aP x.1)]) (fun x=>x.1≤k) (fun x=>[eF b s F (gu s n x.1 y.2).2,(rb,.box [.imm 1 (bv w.1.1),.vec (some (kb,1)) 1 (bv [p1.1]),.imm 1 (bv w.1.2),.vec x.2 1 (aZ (gu s n x.1 y.2).1),.vec none 2 [],aP 0] 81),(tb,.box [bQ,bQ,bQ,bQ,bQ,aP 0] 81)]++(tok x.2 3 1 (aZ (gu s n x.1 y.2).1).length++(tok (some (kb,1)) 22 1 1++[]))) (fun x=>k - x.1) (0,none) rfl ⟨rfl,trivial⟩ (Nat.zero_le _) (fun _ _ h=>h) ?_
  rintro ⟨i,q⟩ hi
  dsimp only at hi ⊢
  have hol:=uJ s hs n y.2 i
  have hstep:gu s n (i+1) y.2=((gu s n i y.2).1++[(dr s n (gu s n i y.2).2).1],(dr s n (gu s n i y.2).2).2):=rfl
  try dsimp only [Ir,Iq,Ip,Ij]
  repeat' (first|refine go ?_|refine HK a6 FS ?_)
  refine ay rfl (fun h=>?_) (fun h=>?_)
  ·have hil:i < k:=by have:=Iy h;omega
   generalize gu s n i y.2=st at hol hstep ⊢
   have hoil:(aZ st.1).length=st.1.length:=aQ _
   repeat' (first|refine go ?_|refine ak ?_)
   refine dz [.cell (rb,3,.vec q 1 (aZ st.1))] 6 [(0,.v),(1,.k),(2,.v),(3,.v),(4,.f),(5,.v)] none ?_ trivial rfl (by kernel_rfl) (by kernel_rfl) (by kernel_rfl) mixed (by kernel_rfl) rfl
   repeat' (first|refine aC ?_|refine b7 a6 ?_|fail)
   refine eT a6 0 rfl rfl rfl (bU 1 rfl rfl cg) (by first | trivial | rfl) ?_
   repeat' (first|refine aC ?_|refine b7 a6 ?_|fail)
   refine ff (bU 1 rfl rfl cg) ?_
   generalize dr s n st.2=o at hstep ⊢
   repeat' (first|refine aC ?_|refine eS a6 ?_|fail)
   refine HU [0,6,7,8,10,11,115,119] FS ?_
   repeat' (first|fail)
   refine bB a6 _ rfl rfl rfl rfl (fi (A:=[_,_,_])) (by simp [aQ];omega) (by simp [aQ];omega) rfl fun q'=>?_
   refine aO (aK (fi (A:=[_,_,_])).symm) ?_
   repeat' (first|refine go ?_|refine HK a6 FS ?_|(apply aW;refine aV ?_)|(apply aG;first|refine HM a6 0 HH ?_|refine HM a6 1 HH ?_|refine HM a6 2 HH ?_|refine HM a6 3 HH ?_|fail))
   exact aB (i+1,q') rfl ⟨by rw [Iv];rfl,trivial⟩ (by dsimp only;omega) (by dsimp only;omega) (fun _ _ h=>by dsimp only;rw [hstep];simpa [g7,iw,aZ] using h)
  have hil:i=k:=by have:=Ix h;omega
  subst hil
  generalize gu s n i y.2=st
  repeat' (first|refine go ?_|(apply bK;first|refine HO a6 0 HG ?_|refine HO a6 1 HG ?_|refine HO a6 2 HG ?_|refine HO a6 3 HG ?_|refine HP a6 0 HG ?_|refine HP a6 1 HG ?_|refine HP a6 2 HG ?_|refine HR a6 1 HE (by assumption) rfl ?_|refine HR a6 0 HE (by assumption) rfl ?_|fail)|(apply aG;first|refine HM a6 0 HH ?_|refine HM a6 1 HH ?_|refine HM a6 2 HH ?_|refine HM a6 3 HH ?_|fail))
  exact bc (bD 2 (cs':=bI ⟨w.1.1,[p1.1],w.1.2,st.1,[],0⟩) rfl fun σ vs h=>nN.vrs (a:=[.imm 1 (bv w.1.1),.vec (some (kb,1)) 1 (bv [p1.1]),.imm 1 (bv w.1.2),.vec q 1 (aZ st.1),.vec none 2 [],aP 0]) (b:=bI ⟨w.1.1,[p1.1],w.1.2,st.1,[],0⟩) ⟨dH.refl _,dH.im,dH.refl _,dH.im,dH.im,dH.refl _,trivial⟩ h) (jb a6 2 [eF b s F st.2] rfl rfl rfl rfl rfl (List.Sublist.cons_cons _ (List.nil_sublist _)) ⟨rfl,rfl⟩)
 have hrow:=ny s (n:=n) (by omega) w.2
 by_cases h3:kind=3
 ·subst h3
  repeat' (first|refine go ?_|refine ak ?_|refine HK a6 FS ?_|refine bP rfl ?_|refine bF rfl ?_)
  refine dz [.cell (rb,1,.vec (some (kb,1)) 1 (bv [p1.1]))] 4 [(0,.v),(1,.k),(2,.v),(3,.f)] none ?_ trivial rfl (by kernel_rfl) (by kernel_rfl) (by kernel_rfl) mixed (by kernel_rfl) rfl
  repeat' (first|refine aC ?_|refine b7 a6 ?_|fail)
  refine eT a6 0 rfl rfl rfl (bU 1 rfl rfl cg) (by first | trivial | rfl) ?_
  repeat' (first|refine aC ?_|refine b7 a6 ?_|fail)
  refine rG (nz s hs F hF n hn h0 2 (by omega)) (bU 1 rfl rfl cg) ?_
  generalize e4:ph s n 2 w.2=y at hrow ⊢
  have hrl:=hrow.1
  unfold C4
  repeat' (first|fail)
  refine HU [0,6,7,8,125,127] FS ?_
  repeat' (first|fail)
  refine bB a6 _ rfl rfl rfl rfl (fi (A:=[_,_,_])) (by simp [ge s hs];omega) (by simp [ge s hs];omega) rfl fun q'=>?_
  refine aO (aK (fi (A:=[_,_,_])).symm) ?_
  rw [sf s hs]
  repeat' (first|refine go ?_|refine HK a6 FS ?_|(apply aG;first|refine HM a6 0 HH ?_|refine HM a6 1 HH ?_|refine HM a6 2 HH ?_|refine HM a6 3 HH ?_|fail))
  refine cS ?_
  generalize e5:dr s n y.2=o
  have hv:gN s n 3 calls m=(⟨w.1.1,p1.1::y.1,w.1.2,[o.1],[],0⟩,o.2):=by simp [gN,co,cQ,e1,e3,e4,e5]
  rw [hv]
  repeat' (first|refine go ?_|refine HK a6 FS ?_|(apply bK;first|refine HO a6 0 HG ?_|refine HO a6 1 HG ?_|refine HO a6 2 HG ?_|refine HO a6 3 HG ?_|refine HP a6 0 HG ?_|refine HP a6 1 HG ?_|refine HP a6 2 HG ?_|refine HR a6 1 HE (by assumption) rfl ?_|refine HR a6 0 HE (by assumption) rfl ?_|fail)|(apply aG;first|refine HM a6 0 HH ?_|refine HM a6 1 HH ?_|refine HM a6 2 HH ?_|refine HM a6 3 HH ?_|fail)|refine bG a6 ?_|fail)
  exact bc (bD 2 (cs':=bI ⟨w.1.1,p1.1::y.1,w.1.2,[o.1],[],0⟩) rfl fun σ vs h=>nN.vrs (a:=[.imm 1 (bv w.1.1),.vec q' 1 (bv (p1.1::y.1)),.imm 1 (bv w.1.2),.imm 1 (aZ [o.1]),.vec none 2 [],aP 0]) (b:=bI ⟨w.1.1,p1.1::y.1,w.1.2,[o.1],[],0⟩) ⟨dH.refl _,dH.im,dH.refl _,dH.refl _,dH.im,dH.refl _,trivial⟩ h) (jb a6 2 [eF b s F o.2] rfl rfl rfl rfl rfl (List.Sublist.cons_cons _ (List.nil_sublist _)) ⟨rfl,rfl⟩)
 have h4:kind=4:=by omega
 subst h4
 repeat' (first|refine go ?_|refine ak ?_|refine HK a6 FS ?_|refine bF rfl ?_)
 refine dz [.cell (rb,1,.vec (some (kb,1)) 1 (bv [p1.1]))] 4 [(0,.v),(1,.k),(2,.v),(3,.f)] none ?_ trivial rfl (by kernel_rfl) (by kernel_rfl) (by kernel_rfl) mixed (by kernel_rfl) rfl
 repeat' (first|refine aC ?_|refine b7 a6 ?_|fail)
 refine eT a6 0 rfl rfl rfl (bU 1 rfl rfl cg) (by first | trivial | rfl) ?_
 repeat' (first|refine aC ?_|refine b7 a6 ?_|fail)
 refine rG (nz s hs F hF n hn h0 2 (by omega)) (bU 1 rfl rfl cg) ?_
 generalize e4:ph s n 2 w.2=y at hrow ⊢
 have hrl:=hrow.1
 unfold C4
 repeat' (first|fail)
 refine HU [0,2,6,7,50,52] FS ?_
 repeat' (first|fail)
 refine bB a6 _ rfl rfl rfl rfl (fi (A:=[_,_,_])) (by simp [ge s hs];omega) (by simp [ge s hs];omega) rfl fun q1=>?_
 refine aO (aK (fi (A:=[_,_,_])).symm) ?_
 rw [sf s hs]
 repeat' (first|refine go ?_|refine HK a6 FS ?_|(apply aG;first|refine HM a6 0 HH ?_|refine HM a6 1 HH ?_|refine HM a6 2 HH ?_|refine HM a6 3 HH ?_|fail))
 refine cS ?_
 have hc:=cB s hs y.2.a (n:=3) (by omega)
 have hc:0≤(dr s 3 y.2).1∧(dr s 3 y.2).1 < 3:=hc
 generalize e5:dr s 3 y.2=o at hc ⊢
 obtain ⟨k,hkk⟩:∃k:Nat,o.1=k:=⟨o.1.toNat,by omega⟩
 have hv:gN s n 4 calls m=(⟨w.1.1,p1.1::y.1,w.1.2,[],(fB s (p1.1::y.1).length calls (if calls.length=0 then 0 else k) o.2).1,0⟩,(fB s (p1.1::y.1).length calls (if calls.length=0 then 0 else k) o.2).2):=by simp [gN,co,cQ,e1,e3,e4,e5,hkk]
 rw [hv,hkk]
 have hrw:(bv (p1.1::y.1)).length=(p1.1::y.1).length:=ge s hs _
 have hrw2:(p1.1::y.1).length=y.1.length+1:=rfl
 have hcal:(aZ calls).length=calls.length:=aQ _
 repeat' (first|refine go ?_|refine ak ?_|refine HK a6 FS ?_)
 have hcon:∀i,(fB s (p1.1::y.1).length calls i o.2).1.length=i:=fun i=>vG s hs _ calls o.2 i
 generalize hKK:(if calls.length=0 then 0 else k)=KK
 have hK:∀i:Nat,i < KK↔i < k∧0 < calls.length:=fun i=>by rw [←hKK];split <;> omega
 refine aJ [0,2,6,7,12] (α:=Nat×Option (Nat×Nat)) (fun x=>[(13,aP x.1)]) (fun x=>x.1≤KK) (fun x=>[eF b s F (fB s (p1.1::y.1).length calls x.1 o.2).2,(rb,.box [.imm 1 (bv w.1.1),.vec q1 1 (bv (p1.1::y.1)),.imm 1 (bv w.1.2),.vec none 1 [],.vec x.2 2 ((fB s (p1.1::y.1).length calls x.1 o.2).1.map dI),aP 0] 81),(tb,.box [bQ,bQ,bQ,bQ,bQ,aP 0] 81)]++(tok x.2 91 2 ((fB s (p1.1::y.1).length calls x.1 o.2).1.map dI).length++(tok q1 22 1 (bv (p1.1::y.1)).length++[]))) (fun x=>KK - x.1) (0,none) rfl ⟨rfl,trivial⟩ (Nat.zero_le _) (fun _ _ h=>h) ?_
 rintro ⟨i,q⟩ hi
 dsimp only at hi ⊢
 have hol:=hcon i
 have hstep:fB s (p1.1::y.1).length calls (i+1) o.2=(co (dr s (p1.1::y.1).length) fun a=>co (dr s calls.length) fun z=>cQ ((fB s (p1.1::y.1).length calls i o.2).1++[(⟨a,calls.getD z.toNat 0⟩:gw)])) (fB s (p1.1::y.1).length calls i o.2).2:=rfl
 try dsimp only [Ir,Iq,Ip,Ij]
 repeat' (first|refine go ?_|refine HK a6 FS ?_)
 by_cases hik:i < KK
 ·have hik2:=(hK i).1 hik
  rw [decide_eq_true (show ((i:Nat):Int) < (k:Int) by omega)]
  repeat' (first|refine go ?_|refine HK a6 FS ?_|refine HV FS ?_)
  rw [decide_eq_true (show (0:Int) < (((aZ calls).length:Nat):Int) by omega)]
  generalize fB s (p1.1::y.1).length calls i o.2=st at hol hstep ⊢
  have hoil:(st.1.map dI).length=st.1.length:=It ..
  repeat' (first|refine go ?_|refine ak ?_|refine bP rfl ?_)
  refine dz [.cell (rb,4,.vec q 2 (st.1.map dI))] 16 [(0,.v),(1,.k),(2,.v),(3,.v),(4,.l),(5,.v),(7,.v),(8,.v),(9,.v),(10,.v),(6,.f),(11,.f),(12,.v),(13,.v),(14,.v),(15,.v)] none ?_ trivial rfl (by kernel_rfl) (by kernel_rfl) (by kernel_rfl) mixed (by kernel_rfl) rfl
  repeat' (first|refine aC ?_|refine b7 a6 ?_|fail)
  refine eT a6 0 rfl rfl rfl (bU 1 rfl rfl cg) (by first | trivial | rfl) ?_
  repeat' (first|refine aC ?_|refine b7 a6 ?_|refine dt a6 1 rfl rfl rfl rfl (by first|trivial|rfl) ?_)
  rw [hrw]
  refine ff (bU 1 rfl rfl cg) ?_
  unfold co at hstep
  generalize dr s (p1.1::y.1).length st.2=g1 at hstep ⊢
  dsimp only at hstep
  repeat' (first|refine aC ?_|fail)
  rw [hcal]
  refine ff (bU 1 rfl rfl cg) ?_
  have hg:=cB s hs g1.2.a (n:=calls.length) (by omega)
  have hg:0≤(dr s calls.length g1.2).1∧(dr s calls.length g1.2).1 < calls.length:=hg
  generalize dr s calls.length g1.2=g2 at hg hstep ⊢
  have hgl:(aZ calls)[g2.1.toNat]?=some [aP (calls.getD g2.1.toNat 0)]:=bT (by rw [List.getD_eq_getElem?_getD,Iz (show g2.1.toNat < calls.length by omega)];rfl)
  dsimp only [cQ] at hstep
  repeat' (first|refine aC ?_|refine b7 a6 ?_|(apply bY;refine cn a6 ?_)|refine eS a6 ?_|fail)
  refine HU [0,2,6,7,12,13,68,82] FS ?_
  repeat' (first|fail)
  refine bB a6 _ rfl rfl rfl rfl (fi (A:=[_,_,_])) (by simp;omega) (by simp;omega) rfl fun q'=>?_
  refine aO (aK (fi (A:=[_,_,_])).symm) ?_
  repeat' (first|refine go ?_|refine HK a6 FS ?_|(apply aW;refine aV ?_)|(apply aG;first|refine HM a6 0 HH ?_|refine HM a6 1 HH ?_|refine HM a6 2 HH ?_|refine HM a6 3 HH ?_|fail))
  exact aB (i+1,q') rfl ⟨by rw [Iv];rfl,trivial⟩ (by dsimp only;omega) (by dsimp only;omega) (fun _ _ h=>by dsimp only;rw [hstep];simpa [g7,iw,dI] using h)
 have hiK:i=KK:=by omega
 subst hiK
 generalize fB s (p1.1::y.1).length calls i o.2=st
 have hno:¬(i < k∧0 < calls.length):=fun h=>absurd ((hK i).2 h) (by omega)
 by_cases hik2:i < k
 ·rw [decide_eq_true (show ((i:Nat):Int) < (k:Int) by omega)]
  repeat' (first|refine go ?_|refine HK a6 FS ?_|refine HV FS ?_)
  rw [decide_eq_false (show ¬(0:Int) < (((aZ calls).length:Nat):Int) by omega)]
  repeat' (first|refine go ?_|(apply bK;first|refine HO a6 0 HG ?_|refine HO a6 1 HG ?_|refine HO a6 2 HG ?_|refine HO a6 3 HG ?_|refine HP a6 0 HG ?_|refine HP a6 1 HG ?_|refine HP a6 2 HG ?_|refine HR a6 1 HE (by assumption) rfl ?_|refine HR a6 0 HE (by assumption) rfl ?_|fail)|(apply aG;first|refine HM a6 0 HH ?_|refine HM a6 1 HH ?_|refine HM a6 2 HH ?_|refine HM a6 3 HH ?_|fail)|refine bF rfl ?_)
  exact bc (bD 2 (cs':=bI ⟨w.1.1,p1.1::y.1,w.1.2,[],st.1,0⟩) rfl fun σ vs h=>nN.vrs (a:=[.imm 1 (bv w.1.1),.vec q1 1 (bv (p1.1::y.1)),.imm 1 (bv w.1.2),.vec none 1 [],.vec q 2 (st.1.map dI),aP 0]) (b:=bI ⟨w.1.1,p1.1::y.1,w.1.2,[],st.1,0⟩) ⟨dH.refl _,dH.im,dH.refl _,dH.im,dH.im,dH.refl _,trivial⟩ h) (jb a6 2 [eF b s F st.2] rfl rfl rfl rfl rfl (List.Sublist.cons_cons _ (List.nil_sublist _)) ⟨rfl,rfl⟩)
 ·rw [decide_eq_false (show ¬((i:Nat):Int) < (k:Int) by omega)]
  repeat' (first|refine go ?_|refine HK a6 FS ?_|refine HW HF ?_|(apply bK;first|refine HO a6 0 HG ?_|refine HO a6 1 HG ?_|refine HO a6 2 HG ?_|refine HO a6 3 HG ?_|refine HP a6 0 HG ?_|refine HP a6 1 HG ?_|refine HP a6 2 HG ?_|refine HR a6 1 HE (by assumption) rfl ?_|refine HR a6 0 HE (by assumption) rfl ?_|fail)|(apply aG;first|refine HM a6 0 HH ?_|refine HM a6 1 HH ?_|refine HM a6 2 HH ?_|refine HM a6 3 HH ?_|fail)|refine bF rfl ?_)
  exact bc (bD 2 (cs':=bI ⟨w.1.1,p1.1::y.1,w.1.2,[],st.1,0⟩) rfl fun σ vs h=>nN.vrs (a:=[.imm 1 (bv w.1.1),.vec q1 1 (bv (p1.1::y.1)),.imm 1 (bv w.1.2),.vec none 1 [],.vec q 2 (st.1.map dI),aP 0]) (b:=bI ⟨w.1.1,p1.1::y.1,w.1.2,[],st.1,0⟩) ⟨dH.refl _,dH.im,dH.refl _,dH.im,dH.im,dH.refl _,trivial⟩ h) (jb a6 2 [eF b s F st.2] rfl rfl rfl rfl rfl (List.Sublist.cons_cons _ (List.nil_sublist _)) ⟨rfl,rfl⟩)
end Go.Proofs.YtjjpkibjffmceaaGreat
