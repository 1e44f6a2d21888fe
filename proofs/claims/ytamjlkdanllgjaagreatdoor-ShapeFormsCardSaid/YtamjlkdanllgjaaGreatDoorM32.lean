/-
  The law Forms.
-/
import Derived.Test.YtamjlkdanllgjaaGreatDoorM31
import Derived.Test.YtamjlkdanllgjaaGreatDoorM13
import Derived.ShutString
import Derived.Below
import Derived.Deep.Slices
import Derived.Deep.SlicePairs
import Derived.Lib.SmallJoins
namespace Go.Proofs.YtamjlkdanllgjaaGreatDoor
open Go.RowKit
attribute [local irreducible] AT bz AX AO Av Kt aZ cY DA cu
set_option maxRecDepth 8000
theorem Kv (i:Nat):(List.range (i+1)).map Dn=(List.range i).map Dn++[Dn i]:=by rw [List.range_succ,List.map_append];rfl
theorem Ku (i:Nat):(List.range (i+1)).map G6=(List.range i).map G6++[G6 i]:=by rw [List.range_succ,List.map_append];rfl
theorem wm {α:Type} {a:α} {W T R:List α}:(a::(W++(T++R))).Perm (T++(a::(W++R))):=by
 refine (List.Perm.cons a (List.perm_append_comm_assoc W T R)).trans ?_
 exact (List.perm_middle (a:=a) (l₁:=T) (l₂:=W++R)).symm
theorem Cr {α:Type} {a:α} {W X T R:List α}:(a::(W++(X++(T++R)))).Perm (T++(a::(W++(X++R)))):=by
 have:=wm (a:=a) (W:=W++X) (T:=T) (R:=R)
 simpa [List.append_assoc] using this
theorem sQ {α:Type} {a t:α} {T:List α}:(T++[a,t]).Perm (t::(T++[a])):=by
 have:=List.perm_append_comm (l₁:=T++[a]) (l₂:=[t])
 simpa using this
theorem BQ {z:Int} (h:0≤z):∃m:Nat,m < 4∧z.tmod 4=m∧([aF 57601,aF 57345,aF 97,aF 57857]:List AV)[m]?=some (aF (je z)):=by
 refine ⟨(z % 4).toNat,by omega,by rw [Int.tmod_eq_emod_of_nonneg h];omega,?_⟩
 have:(z % 4).toNat=0∨(z % 4).toNat=1∨(z % 4).toNat=2∨(z % 4).toNat=3:=by omega
 unfold je
 rcases this with e | e | e | e <;> rw [e] <;> rfl
set_option maxHeartbeats 16000000 in
theorem yJ (l:List Int) (u:AV) (hl:∀z∈l,0≤z∧z≤255) (hu:wO l u) (n:Int) (h0:0≤n) (h255:n≤255):AC Tryz.prog 5 [u,U8 n] [cX] fun c L=>c=cw true∧L=[cX]:=by
 refine aI Tryz.func5 rfl Tryz.ntmps5 rfl fun B=>?_
 haveI i0:=AD.mk zG
 repeat' (first|refine ae ?_|refine a6 ?_|refine ar ?_|refine a8 ?_|refine aa ?_|refine LR a7 LL ?_|(apply aU;first|refine LT 7 a7 0 LQ ?_|refine LT 7 a7 1 LQ ?_|refine LT 7 a7 2 LQ ?_|refine LU a7 0 LP ?_|refine LU a7 1 LP ?_|refine LU a7 2 LP ?_|refine LU a7 3 LP ?_|fail)|refine bf a7 fun _=>?_|refine xB (d:=33) a7 fun _=>?_|refine cA a7 ?_|(apply bk;refine b9 ?_)|fail)
 refine cm (dT 1 (cs':=wF none none 0 0) rfl fun σ vs h=>mQ.vrs ?_ h) ?_
 ·exact ⟨d4.refl _,d4.refl _,d4.refl _,fun σ v h=>eh 3 h,fun σ v h=>eh 2 h,d4.refl _,d4.refl _,d4.refl _,d4.refl _,trivial⟩
 rename_i fb _ wb
 refine aN [0,1,5,6,7] (α:=Nat×Option (Nat×Nat)×Option (Nat×Nat)×Option (Nat×Nat)) (fun s=>[(8,.vec s.2.1 1 (lA (eY n s.1))),(9,aF s.1)]) (fun s=>s.1≤4) (fun s=>(fb,.box (wF s.2.2.1 s.2.2.2 s.1 s.1) 36)::(tok s.2.1 9 1 (eY n s.1).length++(tok s.2.2.1 76 3 s.1++(tok s.2.2.2 78 2 s.1++[cX])))) (fun s=>4 - s.1) (0,some (wb,0),none,none) rfl ⟨rfl,rfl,trivial⟩ (Nat.zero_le _) (fun _ _ h=>h.perm (List.Perm.swap ..)) ?_
 rintro ⟨i,kw,kl,kf⟩ hi
 dsimp only at hi ⊢
 try dsimp only [Mt,Ms,Mr,Mn]
 repeat' (first|refine ae ?_|refine a6 ?_|refine a8 ?_|refine aa ?_|refine LR a7 LL ?_)
 refine aB rfl (fun h=>?_) (fun h=>?_)
 ·have hi4:i < 4:=by have:=Mz h;omega
  clear h
  repeat' (first|refine ae ?_|refine a6 ?_|refine ar ?_|refine aq ?_|refine a8 ?_|refine LR a7 LL ?_|(apply bL;first|refine LV a7 0 LO ?_|refine LV a7 1 LO ?_|refine LV a7 2 LO ?_|refine LV a7 3 LO ?_|refine LW a7 0 LO ?_|refine LW a7 1 LO ?_|refine LW a7 2 LO ?_|refine LZ a7 1 LM (by assumption) rfl ?_|refine LZ a7 0 LM (by assumption) rfl ?_|fail)|(apply aY;refine aX ?_)|refine cA a7 ?_|fail)
  have hrl:((List.range i).map Dn).length=i:=by rw [Mv,List.length_range]
  have hfl:((List.range i).map G6).length=i:=by rw [Mv,List.length_range]
  have hnm:=Jb hi4
  have hwl:=zT n i
  have hws:=hZ n i
  have hsl:=uO (eY n i)
  refine cr a7 ((fb,.box (wF kl kf i i) 36)::(tok kw 9 1 (eY n i).length++(tok kf 78 2 i++[cX]))) rfl rfl rfl rfl (by rw [hrl];exact wm) (by rw [hrl];simp;omega) (by rw [hrl];simp;omega) rfl fun kl'=>?_
  rw [show ((List.range i).map Dn++_).length=i+1 by rw [List.length_append,hrl];rfl]
  refine bq (b8 (wm (W:=tok kw 9 1 (eY n i).length)).symm) ?_
  repeat' (first|refine ae ?_|refine a8 ?_|refine aa ?_|refine LR a7 LL ?_|(apply aU;first|refine LT 7 a7 0 LQ ?_|refine LT 7 a7 1 LQ ?_|refine LT 7 a7 2 LQ ?_|refine LU a7 0 LP ?_|refine LU a7 1 LP ?_|refine LU a7 2 LP ?_|refine LU a7 3 LP ?_|fail))
  refine bB 9 [(0,.v),(1,.l),(2,.v),(3,.v),(4,.v),(5,.v),(6,.v),(7,.v),(8,.v)] none ?_ trivial rfl (by kernel_rfl) (by kernel_rfl) (by kernel_rfl) mixed (by kernel_rfl) rfl
  repeat' (first|refine aJ ?_|refine bw a7 ?_|refine cn a7 0 rfl rfl rfl rfl (by first|trivial|rfl) ?_)
  refine IJ a7 i ?_ (hk:=by rw [Nat.blt_eq];exact hi4) (hl:=by rw [Nat.ble_eq];show i * 1≤4;omega)
  rw [hnm]
  repeat' (first|refine aJ ?_|refine bw a7 ?_|refine kU a7 ?_|fail)
  refine MG [0,1,5,6,7,8,9,52,59] LL ?_
  repeat' (first|fail)
  refine cr a7 ((fb,.box (wF kl' kf (i+1) i) 36)::(tok kw 9 1 (eY n i).length++(tok kl' 76 3 (i+1)++[cX]))) rfl rfl rfl rfl ?_ (by rw [hfl];simp;omega) (by rw [hfl];simp;omega) rfl fun kf'=>?_
  ·rw [hfl,show wF kl' kf (i+1) i=(wF kl kf i i).set 3 (.vec kl' 3 ((List.range i).map Dn++[Dn i])) by unfold wF;rw [Kv];rfl]
   exact Cr
  rw [show ((List.range i).map G6++_).length=i+1 by rw [List.length_append,hfl];rfl]
  refine bq (b8 (Cr (W:=tok kw 9 1 (eY n i).length)).symm) ?_
  repeat' (first|refine ae ?_|refine a6 ?_|refine a8 ?_|refine aa ?_|refine LR a7 LL ?_|(apply aU;first|refine LT 7 a7 0 LQ ?_|refine LT 7 a7 1 LQ ?_|refine LT 7 a7 2 LQ ?_|refine LU a7 0 LP ?_|refine LU a7 1 LP ?_|refine LU a7 2 LP ?_|refine LU a7 3 LP ?_|fail))
  refine pS i rfl rfl rfl rfl ?_
  repeat' (first|fail)
  refine lq rfl rfl rfl ?_
  repeat' (first|refine a8 ?_|refine aa ?_|refine LR a7 LL ?_)
  have hF:wF kl' kf' (i+1) (i+1)=(wF kl' kf (i+1) i).set 4 (.vec kf' 2 ((List.range i).map G6++[G6 i])):=by unfold wF;rw [Ku];rfl
  refine aB rfl (fun h=>?_) (fun h=>?_)
  ·rw [if_pos (show dY n i=true from h)] at hws
   clear h
   repeat' (first|refine a6 ?_|refine LR a7 LL ?_)
   refine FZ a7 i ?_ (hk:=by rw [Nat.blt_eq];exact hi4) (hl:=by rw [Nat.ble_eq];show i * 1≤4;omega)
   rw [hnm]
   repeat' (first|refine LR a7 LL ?_|refine cA a7 ?_|fail)
   refine cr a7 ((fb,.box (wF kl' kf' (i+1) (i+1)) 36)::(tok kl' 76 3 (i+1)++(tok kf' 78 2 (i+1)++[cX]))) rfl rfl rfl rfl ?_ (by rw [hsl];simp;omega) (by rw [hsl];simp;omega) rfl fun kw'=>?_
   ·rw [hF,hsl]
    exact List.perm_middle.symm
   rw [show ((lA (eY n i))++_).length=(eY n i).length+1 by rw [List.length_append,hsl];rfl]
   repeat' (first|refine a6 ?_|refine a8 ?_|refine aP ?_|refine aa ?_|refine LR a7 LL ?_|(apply aY;refine aX ?_)|fail)
   have hst:lA (eY n (i+1))=lA (eY n i)++[[mP (Ib i)]]:=by rw [hws];unfold lA;rw [List.map_append];rfl
   have hwl2:(eY n (i+1)).length=(eY n i).length+1:=by rw [hws,List.length_append];rfl
   exact aE (i+1,kw',kl',kf') rfl ⟨by dsimp only;rw [hst];rfl,by rw [Mw];rfl,trivial⟩ hi4 (by dsimp only;omega) (fun _ _ h=>by dsimp only;rw [hwl2];exact h.perm List.perm_middle)
  ·rw [if_neg (show ¬dY n i=true from fun e=>by unfold dY at e;rw [h] at e;cases e),List.append_nil] at hws
   clear h
   repeat' (first|refine a6 ?_|refine aq ?_|refine a8 ?_|refine aP ?_|refine aa ?_|refine LR a7 LL ?_|(apply aY;refine aX ?_)|fail)
   exact aE (i+1,kw,kl',kf') rfl ⟨by dsimp only;rw [hws];rfl,by rw [Mw];rfl,trivial⟩ hi4 (by dsimp only;omega) (fun _ _ h=>by dsimp only;rw [hws,hF];exact h)
 have hi4:i=4:=by have:=My h;omega
 subst hi4
 clear h
 refine cm (bE (t:=8) (c':= .imm 1 (lA (eY n 4))) rfl fun σ v h=>VR.im h) ?_
 refine oF (L':=(fb,.box (wF kl kf 4 4) 36)::[cX]) (List.Sublist.cons_cons _ (((List.sublist_append_right _ _).trans (List.sublist_append_right _ _)).trans (List.sublist_append_right _ _))) ?_
 repeat' (first|refine ae ?_|refine a6 ?_|refine aO ?_|refine a8 ?_|refine av ?_|refine aC ?_|refine aA ?_|refine aa ?_|refine LR a7 LL ?_|refine xB (d:=73) a7 fun _=>?_|fail)
 refine oG (α:=List Int×Option (Nat×Nat)) [1,5,6,8,10] (fun s=>[(1,U8 n),(5,cw true),(6,.sc (.pointer (some ⟨fb,0,none⟩))),(8,.imm 1 (lA (eY n 4))),(10,.vec s.2 1 (aT s.1))]) (fun s=>tok s.2 3 1 s.1.length++[(fb,.box (wF kl kf 4 4) 36),cX]) (fun s=>to s.1) (fun Q' K=>?_) ?_
 ·refine ar ?_
  refine aN [0,1,5,6,8] (α:=Nat×Option (Nat×Nat)) (fun s=>[(10,.vec s.2 1 (aT ((l.take s.1).map je))),(11,aF s.1)]) (fun s=>s.1≤l.length∧s.1≤20) (fun s=>tok s.2 3 1 s.1++[(fb,.box (wF kl kf 4 4) 36),cX]) (fun s=>l.length - s.1) (0,some (_,0)) rfl ⟨rfl,rfl,trivial⟩ ⟨Nat.zero_le _,Nat.zero_le _⟩ (fun _ _ h=>h) ?_
  rintro ⟨j,kt⟩ ⟨hj,hj20⟩
  dsimp only at hj hj20 ⊢
  try dsimp only [Mt,Ms,Mr,Mn]
  have hbl:=vu l
  have htl:((l.take j).map je).length=j:=by rw [Mv,List.length_take];omega
  have hil:=b7 ((l.take j).map je)
  have hK:=fun fr'=>K ((l.take j).map je,kt) fr' ⟨by rw [htl];exact hj20,fun r hr=>by obtain ⟨z,_,rfl⟩:=List.mem_map.1 hr;exact EN z⟩
  simp only [htl] at hK
  rcases hu with rfl | ⟨off,cap,rfl,ht⟩
  ·repeat' (first|refine ae ?_|refine a6 ?_|refine LR a7 LL ?_)
   refine bN [0,1,5,6,8,10,11] (j < l.length∧j < 20) rfl (fun Q' K=>?_) (fun hC=>?_) (fun hC=>?_)
   ·clear hK
    repeat' (first|refine aa ?_|refine LR a7 LL ?_|refine MB LL ?_|refine MC LN ?_|refine MD LM (fun _=>?_) (fun _=>?_))
    all_goals exact K _ _ rfl rfl (by clear K;simp_all <;> omega)
   ·obtain ⟨z,hz⟩:∃z,l[j]?=some z:=⟨_,Ia hC.1⟩
    have hzb:=hl z (Mx hz)
    have hts:aT ((l.take (j+1)).map je)=aT ((l.take j).map je)++[[aF (je z)]]:=by
     rw [List.take_add_one,hz]
     simp [aT]
    obtain ⟨m,hm4,hmz,hml⟩:=BQ hzb.1
    clear hK K
    have hbg:=vt hz
    repeat' (first|refine ae ?_|refine a6 ?_|refine ar ?_|refine aq ?_|refine a8 ?_|refine LR a7 LL ?_|(apply aL;first|refine aK a7 ?_|refine aH a7 ?_)|fail)
    refine c5 (FQ rfl rfl (by decide)) rfl rfl ?_
    rw [hmz]
    repeat' (first|fail)
    refine wa a7 m rfl rfl rfl rfl rfl hm4 hml rfl ?_
    repeat' (first|refine cA a7 ?_|fail)
    refine cr a7 [(fb,.box (wF kl kf 4 4) 36),cX] rfl rfl rfl rfl (by rw [hil,htl]) (by rw [hil,htl];simp;omega) (by rw [hil,htl];simp;omega) rfl fun kt'=>?_
    rw [←hts,show (aT ((l.take (j+1)).map je)).length=j+1 by rw [b7,Mv,List.length_take];omega]
    repeat' (first|refine a6 ?_|refine a8 ?_|refine aP ?_|refine aa ?_|refine LR a7 LL ?_|(apply aY;refine aX ?_)|fail)
    exact aE (j+1,kt') rfl ⟨rfl,by rw [Mw];rfl,trivial⟩ ⟨hC.1,hC.2⟩ (by dsimp only;omega) (fun _ _ h=>h)
   ·repeat' (first|refine aO ?_|refine av ?_|refine aC ?_|refine aA ?_)
    exact hK _ rfl
  ·refine cm (b8 (L':=cX::(tok kt 3 1 j++[(fb,.box (wF kl kf 4 4) 36)])) sQ) ?_
   repeat' (first|refine ae ?_|refine a6 ?_|refine LR a7 LL ?_)
   refine bN [0,1,5,6,8,10,11] (j < l.length∧j < 20) rfl (fun Q' K=>?_) (fun hC=>?_) (fun hC=>?_)
   ·clear hK
    repeat' (first|refine aa ?_|refine LR a7 LL ?_|refine MB LL ?_|refine MC LN ?_|refine MD LM (fun _=>?_) (fun _=>?_))
    all_goals exact K _ _ rfl rfl (by clear K;simp_all <;> omega)
   ·obtain ⟨z,hz⟩:∃z,l[j]?=some z:=⟨_,Ia hC.1⟩
    have hzb:=hl z (Mx hz)
    have hts:aT ((l.take (j+1)).map je)=aT ((l.take j).map je)++[[aF (je z)]]:=by
     rw [List.take_add_one,hz]
     simp [aT]
    obtain ⟨m,hm4,hmz,hml⟩:=BQ hzb.1
    clear hK K
    have hbg:=ht j z hz
    repeat' (first|refine ae ?_|refine a6 ?_|refine ar ?_|refine aq ?_|refine a8 ?_|refine LR a7 LL ?_|(apply aL;first|refine aK a7 ?_|refine aH a7 ?_)|fail)
    refine EV a7 0 (off+j) rfl rfl (by omega) rfl hbg rfl ?_
    repeat' (first|fail)
    refine c5 (FQ rfl rfl (by decide)) rfl rfl ?_
    rw [hmz]
    repeat' (first|fail)
    refine wa a7 m rfl rfl rfl rfl rfl hm4 hml rfl ?_
    repeat' (first|refine cA a7 ?_|fail)
    refine cr a7 [(fb,.box (wF kl kf 4 4) 36),cX] rfl rfl rfl rfl (by rw [hil,htl];exact sQ.symm) (by rw [hil,htl];simp;omega) (by rw [hil,htl];simp;omega) rfl fun kt'=>?_
    rw [←hts,show (aT ((l.take (j+1)).map je)).length=j+1 by rw [b7,Mv,List.length_take];omega]
    repeat' (first|refine a6 ?_|refine a8 ?_|refine aP ?_|refine aa ?_|refine LR a7 LL ?_|(apply aY;refine aX ?_)|fail)
    exact aE (j+1,kt') rfl ⟨rfl,by rw [Mw];rfl,trivial⟩ ⟨hC.1,hC.2⟩ (by dsimp only;omega) (fun _ _ h=>h)
   ·repeat' (first|refine aO ?_|refine av ?_|refine aC ?_|refine aA ?_)
    refine br (b8 sQ.symm) ?_
    exact hK _ rfl
 rintro ⟨T,kt⟩ hT
 dsimp only at hT ⊢
 have hTl:=hT.1
 have hsh:=Bx hT (dY n 0) (dY n 1) (dY n 2) (dY n 3)
 rw [←FE] at hsh
 haveI i1:=AD.mk (rk T (by omega))
 refine cm (bE (t:=10) (c':= .imm 1 (aT T)) rfl fun σ v h=>VR.im h) ?_
 refine oF (L':=(fb,.box (wF kl kf 4 4) 36)::[cX]) (List.sublist_append_right _ _) ?_
 repeat' (first|refine ae ?_|refine a6 ?_|refine LR a7 LL ?_|(apply bL;first|refine LV a7 0 LO ?_|refine LV a7 1 LO ?_|refine LV a7 2 LO ?_|refine LV a7 3 LO ?_|refine LW a7 0 LO ?_|refine LW a7 1 LO ?_|refine LW a7 2 LO ?_|refine LZ a7 1 LM (by assumption) rfl ?_|refine LZ a7 0 LM (by assumption) rfl ?_|fail)|fail)
 refine aW [cX] [(fb,.box (wF kl kf 4 4) 36)] (AC.args hsh ?_) rfl rfl (List.Perm.swap ..) rfl fun c L1 ⟨hc,hL⟩=>?_
 ·exact ⟨d4.agg (JA kl kf),d4.refl _,d4.refl _,d4.nil 1,trivial⟩
 subst hc;subst hL
 have hfo:=Bt T (dY n 0) (dY n 1) (dY n 2) (dY n 3)
 have hRl:(((nu T (dY n 0) (dY n 1) (dY n 2) (dY n 3)).map (jA cN)).map cg).length=T.length:=by rw [Mv,Mv,hfo]
 have hTi:=b7 T
 have hfm:=rl T
 have hFi:=b7 (ei T)
 have hok:=iN T
 have hout:∀{i a:Nat},(dv T)[i]?=some a→∃v,(((nu T (dY n 0) (dY n 1) (dY n 2) (dY n 3)).map (jA cN)).map cg)[i]?=some [aF (if (ei T).getD a 0 - 1∈wk (dY n 0) (dY n 1) (dY n 2) (dY n 3) then (ei T).getD a 0+1 else 1),aF a,aF ((ei T).getD a 0),aF v,aF 0,aF 0]:=fun ha=>HD hT _ _ _ _ ha
 clear hsh
 generalize ((nu T (dY n 0) (dY n 1) (dY n 2) (dY n 3)).map (jA cN)).map cg=run at *
 repeat' (first|refine ae ?_|refine a6 ?_|refine a8 ?_|refine aa ?_|refine LR a7 LL ?_|refine MB LL ?_|(apply bk;refine b9 ?_)|fail)
 refine bN [1,10,12,14] False rfl (fun Q' K=>?_) (fun hC=>hC.elim) (fun _=>?_)
 ·repeat' (first|refine aa ?_|refine LR a7 LL ?_|refine MB LL ?_|refine MC LN ?_|refine MD LM (fun _=>?_) (fun _=>?_))
  all_goals exact K _ _ rfl rfl (by simp_all <;> omega)
 repeat' (first|refine ae ?_|refine a6 ?_|refine ar ?_|refine aq ?_|refine a8 ?_|refine aa ?_|refine LR a7 LL ?_)
 refine aN [1,10,12,14] (α:=Nat) (fun i=>[(15,aF i)]) (fun i=>i≤T.length) (fun _=>[cX]++[(fb,.box (wF kl kf 4 4) 36)]) (fun i=>T.length - i) 0 rfl ⟨rfl,trivial⟩ (Nat.zero_le _) (fun _ _ h=>h) fun i hi=>?_
 try dsimp only [Mt,Ms,Mr,Mn]
 repeat' (first|refine ae ?_|refine a6 ?_|refine a8 ?_|refine aa ?_|refine LR a7 LL ?_)
 rw [hRl]
 refine aB rfl (fun h=>?_) (fun h=>?_)
 ·have hil:i < T.length:=by have:=Mz h;omega
  clear h
  obtain ⟨a,ha⟩:∃z,(dv T)[i]?=some z:=⟨_,Ia (by rw [hok.1];exact hil)⟩
  have halt:a < T.length:=hok.2 a (Mx ha)
  obtain ⟨v,hxg⟩:=hout ha
  have hfg:=bH (ea (l:=ei T) (i:=a) (by omega))
  have hfob:=yK (rs:=T) ((ei T).getD a 0) (Mx (ea (l:=ei T) (i:=a) (by omega)))
  have hmem:=HC n ((ei T).getD a 0)
  simp only [hmem] at hxg
  clear hmem hout
  generalize (ei T).getD a 0=fo at *
  repeat' (first|refine ae ?_|refine a6 ?_|refine ar ?_|refine aq ?_|refine a8 ?_|refine aa ?_|refine LR a7 LL ?_|refine MB LL ?_|(apply aL;first|refine aK a7 ?_|refine aH a7 ?_)|fail)
  refine aB rfl (fun h=>by have:=Mz h;rw [hTi] at this;omega) (fun _=>?_)
  repeat' (first|refine ae ?_|refine a6 ?_|refine aq ?_|refine a8 ?_|refine aa ?_|refine LR a7 LL ?_|(apply aL;first|refine aK a7 ?_|refine aH a7 ?_)|fail)
  refine bN [1,10,12,14,15,16,17] (1≤fo∧fo≤4∧dY n (fo - 1).toNat=true) rfl (fun Q' K=>?_) (fun hC=>?_) (fun hC=>?_)
  ·repeat' (first|refine aa ?_|refine LR a7 LL ?_|refine MB LL ?_|refine MC LN ?_|(apply aY;refine aX ?_)|(apply aL;first|refine aK a7 ?_|refine aH a7 ?_)|refine MD LM (fun _=>?_) (fun _=>?_))
   ·refine pS (fo - 1).toNat rfl rfl (Int.toNat_of_nonneg (by simp_all)).symm rfl ?_
    repeat' (first|refine MB LL ?_)
    refine lq rfl rfl rfl ?_
    repeat' (first|refine aa ?_|refine LR a7 LL ?_|refine MB LL ?_)
    exact K _ _ rfl rfl (by clear K;unfold dY;simp_all)
   all_goals exact K _ _ rfl rfl (by clear K;simp_all <;> omega)
  ·rw [if_pos hC] at hxg
   repeat' (first|refine ae ?_|refine a6 ?_|refine a8 ?_|refine aa ?_|refine LR a7 LL ?_|(apply aY;refine aX ?_)|(apply aL;first|refine aK a7 ?_|refine aH a7 ?_)|fail)
   refine bB 17 [(0,.v),(1,.v),(2,.v),(3,.v),(4,.v),(5,.v),(6,.v),(7,.v),(8,.v),(9,.v),(10,.v),(11,.v),(12,.v),(13,.v),(14,.v),(15,.v),(16,.v)] none ?_ trivial rfl (by kernel_rfl) (by kernel_rfl) (by kernel_rfl) mixed (by kernel_rfl) rfl
   repeat' (first|refine aJ ?_|refine bw a7 ?_|(apply cq;refine cQ a7 ?_)|fail)
   rw [show decide (fo+1≠1+fo)=false from decide_eq_false (by omega)]
   repeat' (first|refine aJ ?_|refine bw a7 ?_|(apply cq;refine cQ a7 ?_)|fail)
   refine MG [1,10,12,14,15,177,182,186] LL ?_
   repeat' (first|refine a8 ?_|refine aa ?_|refine LR a7 LL ?_|refine MB LL ?_)
   rw [show decide (fo≠fo)=false from decide_eq_false (by omega)]
   repeat' (first|refine a6 ?_|refine aq ?_|refine a8 ?_|refine aP ?_|refine aa ?_|refine LR a7 LL ?_|(apply aY;refine aX ?_)|refine bo rfl ?_)
   exact aE (i+1) rfl ⟨by rw [Mw];rfl,trivial⟩ hil (by omega) (fun _ _ h=>h)
  ·rw [if_neg hC] at hxg
   repeat' (first|refine ae ?_|refine aq ?_|refine a8 ?_)
   refine bB 17 [(0,.v),(1,.v),(2,.v),(3,.v),(4,.v),(5,.v),(6,.v),(7,.v),(8,.v),(9,.v),(10,.v),(11,.v),(12,.v),(13,.v),(14,.v),(15,.v),(16,.v)] none ?_ trivial rfl (by kernel_rfl) (by kernel_rfl) (by kernel_rfl) mixed (by kernel_rfl) rfl
   repeat' (first|refine aJ ?_|refine bw a7 ?_|(apply cq;refine cQ a7 ?_)|fail)
   rw [show decide ((1:Int)≠1)=false from decide_eq_false (by omega)]
   repeat' (first|fail)
   refine MG [1,10,12,14,15,177,182,186] LL ?_
   repeat' (first|refine a8 ?_|refine aa ?_|refine LR a7 LL ?_|refine MB LL ?_)
   rw [show decide (fo≠fo)=false from decide_eq_false (by omega)]
   repeat' (first|refine a6 ?_|refine aq ?_|refine a8 ?_|refine aP ?_|refine aa ?_|refine LR a7 LL ?_|(apply aY;refine aX ?_)|refine bo rfl ?_)
   exact aE (i+1) rfl ⟨by rw [Mw];rfl,trivial⟩ hil (by omega) (fun _ _ h=>h)
 ·clear h
  repeat' (first|refine ae ?_|refine a6 ?_|refine am ?_|refine aO ?_|refine a8 ?_|refine av ?_|refine aC ?_|refine aA ?_|refine aa ?_|refine LR a7 LL ?_)
  refine cL (L':=[cX]) (List.sublist_append_left _ _) ?_
  exact MA LL ⟨rfl,rfl⟩
end Go.Proofs.YtamjlkdanllgjaaGreatDoor
namespace Go.Proofs.YtamjlkdanllgjaaGreatDoor
open Go.ChangeShapes Go.WideShapes Go.ChangeAt Go.RowKit Go.Deep Go.Joins
section
variable {H:Type} {enc:TypeId×Value→H} {P:Program} {W:World}
def L9 (enc:TypeId×Value→H) (P:Program) (W:World) (t:TypeId) {α:Type} (c:α→List AV):Prop:=
 ∀fuel cs x,DataW.trod enc P W 0 (fun _=>true) true fuel t cs=some x→∃a,cR (qE W) (c a) cs∧(∀u∈cs,u.oneCell'=true)∧∀u k,cs[0]?=some u→u≠ .int .u8 k
end
end Go.Proofs.YtamjlkdanllgjaaGreatDoor
namespace Go.Proofs.YtamjlkdanllgjaaGreatDoor
open Go.ChangeShapes Go.WideShapes Go.ChangeAt Go.RowKit Go.Deep Go.Joins
section
variable {H:Type} {enc:TypeId×Value→H} {W:World}
set_option maxRecDepth 100000 in
theorem ur (hT:W.heap[2]?=some (.cells (jD.map (Value.int .u8)).toArray 481 (0,0))) {base:Nat} {v:Value} {d:DataW H} {p:List MemPlace} (hok:Value.okWide Tryz.prog W .any base 69 v) (h:DataW.Trod enc Tryz.prog W 0 (fun _=>true) true 69 v d p):∃l u,(∀z∈l,0≤z∧z≤255)∧wO l u∧VR (qE W) u v:=by
 obtain ⟨a0,len0,cap0,rfl⟩:=okWide_slice Tryz.underlying69 hok
 obtain ⟨fuel,hf⟩:=h
 have hf:DataW.trod enc Tryz.prog W 0 (fun _=>true) true fuel 69 [.slice a0 len0 cap0]=some (d,p):=by simpa [Value.cells] using hf
 have cells5:Tryz.prog.cellsOf 5=1:=by kernel_rfl
 rcases open_slice Tryz.underlying69 hf with ⟨he,_⟩ | ⟨a,len,cap,m,n,D,Pl,he,_,hlc,hm,hmm,_,hx⟩
 ·injection he with he _
  rw [he]
  exact ⟨[],.imm 1 [],by simp,.inl rfl,dW 1 (.sc _)⟩
 injection he with he _
 rw [he]
 have hmle:len≤m:=by rw [hmm];split <;> omega
 have each:∀i,i < len→∃z:Int,W.cells? 0 (a.add (i * 1)) 1=some [.int .u8 z]∧0≤z∧z≤255:=by
  intro i hi
  obtain ⟨cs',h1,h2⟩:=hx i (by omega)
  rw [cells5] at h1
  obtain ⟨z,rfl,_,hw⟩:=DataW.trod_int Tryz.underlying5 h2
  exact ⟨z,h1,G5 hw⟩
 obtain ⟨f,hf2⟩:=choose_lt each
 have hcell:∀i,i < len→W.cell? (a.add i)=some (.int .u8 (f i)):=by
  intro i hi
  have:=(World.cells?_some (hf2 i hi).1).2.2 0 Nat.one_pos
  rw [add_add,Nat.mul_one,Nat.add_zero] at this
  exact this
 have hll:((List.range len).map f).length=len:=by simp
 have hnone:0 < len→∃b off,a=⟨b,off,none⟩:=by
  intro hp
  have h1:=hcell 0 hp
  obtain ⟨b,off,sp⟩:=a
  have e:(⟨b,off,sp⟩:Addr).add 0=⟨b,off,sp⟩:=by simp [Addr.add]
  rw [e] at h1
  cases sp with
  | some s=>
   simp only [World.cell?] at h1
   split at h1
   ·simp at h1
   ·cases h1
  | none=>exact ⟨b,off,rfl⟩
 have hadd:∀b off i,(⟨b,off,none⟩:Addr).add i=⟨b,off+i,none⟩:=by
  intro b off i
  unfold Addr.add
  by_cases h:i=0
  ·rw [if_pos h,h,Nat.add_zero]
  ·rw [if_neg h]
 refine ⟨(List.range len).map f,?_⟩
 have hr:∀z∈(List.range len).map f,0≤z∧z≤255:=fun z hz=>by
  obtain ⟨i,hi,rfl⟩:=List.mem_map.1 hz
  exact (hf2 i (List.mem_range.1 hi)).2
 by_cases hb:0 < len∧a.block=2
 ·obtain ⟨b,off,rfl⟩:=hnone hb.1
  obtain rfl:b=2:=hb.2
  refine ⟨.sc (.slice (some ⟨2,off,none⟩) len cap),hr,.inr ⟨off,cap,by rw [hll],fun i z hz=>?_⟩,.sc _⟩
  have hil:i < len:=by have:=(Mq hz).1;omega
  rw [List.getElem?_map,List.getElem?_range hil] at hz
  simp only [Option.map_some,Option.some.injEq] at hz
  subst hz
  have h1:=hcell i hil
  rw [hadd,cI hT,List.getElem?_toArray,List.getElem?_map] at h1
  unfold td
  rw [List.getElem?_map]
  cases hk:jD[off+i]? with
  | none=>rw [hk] at h1;cases h1
  | some k=>
   rw [hk] at h1
   injection h1 with h1
   injection h1 with _ h1
   rw [h1]
   rfl
 ·refine ⟨.imm 1 (io ((List.range len).map f)),hr,.inl rfl,?_⟩
  have hbl:(io ((List.range len).map f)).length=len:=by unfold io;simp
  have hne:∀b off,a=⟨b,off,none⟩→0 < len→b≠2:=fun b off ha hp e=>hb ⟨hp,by rw [ha];exact e⟩
  have hmem:∀b off,a=⟨b,off,none⟩→∀i,i < len→qE W b (off+i)=some (.int .u8 (f i)):=by
   intro b off ha i hi
   have:=hcell i hi
   rw [ha,hadd] at this
   unfold qE
   rw [if_neg (hne b off ha (by omega)),this]
  have hgo:=VR.imm (σ:=qE W) 1 (io ((List.range len).map f)) (some a) cap (by rw [hbl];exact hlc) hm (fun e he=>by
    obtain ⟨y,_,rfl⟩:=List.mem_map.1 he
    rfl) (fun hne2=>by
    have:0 < len:=by
     rcases Nat.eq_zero_or_pos len with h | h
     ·subst h;exact absurd rfl hne2
     ·exact h
    obtain ⟨b,off,rfl⟩:=hnone this
    exact ⟨b,off,rfl⟩) (fun i b off j hA hi hj=>by
    rw [hbl] at hi
    injection hA with hA
    obtain rfl:j=0:=by omega
    rw [Nat.mul_one,Nat.add_zero,hmem b off hA i hi]
    exact ⟨_,rfl,rfl⟩) (fun i e b off j c' u hi hA hj hu=>by
    injection hA with hA
    have hil:i < len:=by have:=(Mq hi).1;omega
    unfold io at hi
    rw [List.getElem?_map,List.getElem?_map,List.getElem?_range hil] at hi
    simp only [Option.map_some,Option.some.injEq] at hi
    subst hi
    have hjs:j < 1:=(Mq hj).1
    obtain rfl:j=0:=by omega
    rw [Nat.mul_one,Nat.add_zero,hmem b off hA i hil] at hu
    injection hu with hu
    subst hu
    injection hj with hj
    subst hj
    exact .sc _)
  rw [hbl] at hgo
  exact hgo
end
end Go.Proofs.YtamjlkdanllgjaaGreatDoor
