/-
  The maker: fonts, of which glyphs and lookups are rows of its own.
-/
import Derived.Test.YtpmdfoaadejmkaaGreatDoorM28
import Derived.Test.YtpmdfoaadejmkaaGreatDoorM31
import Derived.Test.YtpmdfoaadejmkaaGreatDoorM29
namespace Go.Proofs.YtpmdfoaadejmkaaGreatDoor
open Go.RowKit
attribute [local irreducible] AT br AX AO Av Kt b7 dm DA cA
def kB (q:Nat→Prop) (f:aY):List AV:=[aI f.Unit,.new q 9 (f.Glyphs.map bI),.imm 2 (f.Chars.map ep),.new q 3 (f.Lookups.map (cU q)),.imm 2 (f.Features.map cj),.imm 4 (f.Axes.map cM),.imm 1 (f.Regions.map bN),.imm 1 (f.Funcs.map dG),.imm 1 (aQ f.Cvt)]
theorem nL (l:List aO):d6 fun σ=> .new (bG σ) 3 (l.map (cU (bG σ))):=d6.rows (r:=fun σ l=>cU (bG σ) l) (fun _ _ l h=>ww h l) l
theorem Cz {P:Program} {r:Option Nat} {ops:Array Oper} {Q:Exit→Act→World→Prop} {nt:Nat} {D:List Deferred} {rest:List Oper} {fr:bT} {B:Bs} {L:AL} {Φ:Prop} (h:∀σ w,cL B σ L w→Φ) (k:Φ→br P r ops Q nt D rest fr B L):br P r ops Q nt D rest fr B L:=by
 unfold br
 intro σ a w ha hw
 have:=k (h σ w hw)
 unfold br at this
 exact this σ a w ha hw
theorem GH {B:Bs} {σ:Mem} {w:World} {A:AL} {b cap e sz n:Nat} (hw:cL B σ (A++tok (some (b,cap)) e sz n) w) (hX:B.X=[]):B.w.heap.size≤b:=by
 rcases hw.mine (b,.vec e sz n cap) (List.mem_append_right _ (List.mem_cons_self ..)) with h | h
 ·exact h
 ·rw [hX] at h
  simp at h
theorem EO {σ:Mem} {w:World} {k:Option (Nat×Nat)} {sz:Nat} {l:List (List AV)} {v:Value} {q:Nat→Prop} (hn:∀b cap,k=some (b,cap)→w.heap.size≤b) (hq:∀b,w.heap.size≤b→q b) (h:VR σ (.vec k sz l) v):VR σ (.new q sz l) v:=by
 refine .new q sz l v h.im fun b off n' cap' hv' hne=>?_
 subst hv'
 cases h with
 | vec b cap sz l hc hm hs hx h=>exact ⟨rfl,hq b (hn b _ rfl)⟩
variable (s:List Int) (hs:s.length≤1000000)
include hs
set_option maxHeartbeats 32000000 in
theorem DH:ES Tryz.prog 32 [.imm 1 (aQ s)] [] fun σ r _=>r= .agg (kB (bG σ) (pv s)):=by
 refine iU Tryz.func32 rfl Tryz.ntmps32 rfl fun B hBX hBq=>?_
 repeat' (first|refine a9 ?_|refine a4 ?_|refine a6 ?_|refine a7 ?_|refine LG a5 KZ ?_|refine t3 (d:=22) fun _=>?_|refine bf a5 fun _=>?_|refine bQ a5 ?_|fail)
 rename_i tb b
 refine aE (aH (L':=[dA b s ⟨aI 0,bO,bO,bO,bO,bO,bO,bO,bO⟩ ⟨0,0⟩,tB tb]) (Lm _)) ?_
 refine aE (bC 0 (cs':=Jg s ⟨aI 0,.vec none 9 [],.vec none 2 [],bO,.vec none 2 [],.vec none 4 [],.vec none 1 [],.vec none 1 [],.vec none 1 []⟩ ⟨0,0⟩) rfl fun σ vs h=>cz (k:=3) (cz (k:=4) (cz (k:=6) (cz (k:=7) (cz (k:=8) (cz (k:=9) (cz (k:=10) h rfl fun v hv=>cC 1 hv) rfl fun v hv=>cC 1 hv) rfl fun v hv=>cC 1 hv) rfl fun v hv=>cC 4 hv) rfl fun v hv=>cC 2 hv) rfl fun v hv=>cC 2 hv) rfl fun v hv=>cC 9 hv) ?_
 refine cF ?_
 have hu:=cq s hs 0 (n:=4) (by omega)
 have hu:0≤(dr s 4 ⟨0,0⟩).1∧(dr s 4 ⟨0,0⟩).1 < 4:=hu
 generalize e1:dr s 4 ⟨0,0⟩=u at hu ⊢
 have hul:(aQ n7)[u.1.toNat]?=some [aI (n7.getD u.1.toNat 0)]:=bW (mi (by simp only [n7,List.length_cons,List.length_nil];omega) 0)
 generalize hU:n7.getD u.1.toNat 0=U at hul
 repeat' (first|refine a9 ?_|refine a4 ?_|refine a6 ?_|refine a7 ?_|refine LG a5 KZ ?_|(apply aL;first|refine aJ a5 ?_|refine aF a5 ?_)|(apply aM;first|refine LI 6 a5 0 LF ?_|refine LI 6 a5 1 LF ?_|refine LI 6 a5 2 LF ?_|refine LH a5 0 LE ?_|refine LH a5 1 LE ?_|refine LH a5 2 LE ?_|refine LH a5 3 LE ?_|fail))
 refine aE (aH (L':=[dA b s ⟨aI U,.vec none 9 [],.vec none 2 [],bO,.vec none 2 [],.vec none 4 [],.vec none 1 [],.vec none 1 [],.vec none 1 []⟩ u.2,tB tb]) (Lm _)) ?_
 refine cF ?_
 have hk:=cq s hs u.2.a (n:=3) (by omega)
 have hk:0≤(dr s 3 u.2).1∧(dr s 3 u.2).1 < 3:=hk
 generalize e2:dr s 3 u.2=k1 at hk ⊢
 obtain ⟨k,hkk⟩:∃k:Nat,k1.1=k:=⟨k1.1.toNat,by omega⟩
 rw [hkk]
 refine W04 ?_
 refine aN [2,3,4] (α:=Nat×Option (Nat×Nat)) (fun x=>[(5,aI x.1)]) (fun x=>x.1≤k) (fun x=>[dA b s ⟨aI U,.vec none 9 [],.vec none 2 [],bO,.vec none 2 [],.vec x.2 4 ((ly s x.1 k1.2).1.map cM),.vec none 1 [],.vec none 1 [],.vec none 1 []⟩ (ly s x.1 k1.2).2,tB tb]++tok x.2 123 4 ((ly s x.1 k1.2).1.map cM).length) (fun x=>k - x.1) (0,none) rfl ⟨rfl,trivial⟩ (Nat.zero_le _) (fun _ _ h=>h) ?_
 rintro ⟨i,q⟩ hi
 dsimp only at hi ⊢
 have hal:=sD s i k1.2
 have hstep:ly s (i+1) k1.2=(cg (dr s 3) fun a=>cg (dr s 4) fun b=>ret ((ly s i k1.2).1++[(⟨jE vf i,0 - a * 100,0,b * 100⟩:eR)])) (ly s i k1.2).2:=rfl
 try dsimp only [Lr,Lq,Lp,Li]
 refine W01 ?_
 refine ar rfl (fun h=>?_) (fun h=>?_)
 ·have hil:i < k:=by have:=Lz h;omega
  generalize ly s i k1.2=A at hal hstep ⊢
  have halm:(A.1.map cM).length=A.1.length:=Lu ..
  refine W0K ?_
  refine bz 15 [(0,.v),(1,.v),(2,.v),(3,.v),(4,.v),(5,.v),(6,.v),(10,.v),(7,.e),(8,.v),(9,.v),(11,.e),(12,.v),(13,.v)] (some (14,.box _ 123)) ?_ ⟨_,rfl,rfl,fun _ _ _=>nd (f5 a5 rfl) rfl⟩ rfl (by kernel_rfl) (by kernel_rfl) (by kernel_rfl) bX (by kernel_rfl) rfl
  refine W1i ?_
  refine CT a5 ?_
  rw [vQ i (by omega)]
  refine W1e ?_
  refine yG a5 ?_
  rw [yX i (by omega)]
  repeat' (first|refine aD ?_|fail)
  refine GX (hs:=Nat.le_of_ble_eq_true rfl) ?_
  rw [zZ]
  refine W0a ?_
  refine tL ?_
  have ha:=cq s hs A.2.a (n:=3) (by omega)
  have ha:0≤(dr s 3 A.2).1∧(dr s 3 A.2).1 < 3:=ha
  unfold cg at hstep
  generalize dr s 3 A.2=a at ha hstep ⊢
  dsimp only at hstep
  refine W1U ?_
  refine tL ?_
  have hc:=cq s hs a.2.a (n:=4) (by omega)
  have hc:0≤(dr s 4 a.2).1∧(dr s 4 a.2).1 < 4:=hc
  generalize dr s 4 a.2=c at hc hstep ⊢
  try dsimp only [ret] at hstep
  refine W1i ?_
  refine yL [2,3,4,5,6,52] (fun _=>_) (fun _=>rfl) rfl fun _=>?_
  rename_i ab
  refine aE (aH (Jl (A:=[_,_]))) ?_
  repeat' (first|refine a6 ?_|refine a7 ?_|(apply aM;first|refine LI 6 a5 0 LF ?_|refine LI 6 a5 1 LF ?_|refine LI 6 a5 2 LF ?_|refine LH a5 0 LE ?_|refine LH a5 1 LE ?_|refine LH a5 2 LE ?_|refine LH a5 3 LE ?_|fail))
  refine bz 9 [(0,.v),(1,.v),(2,.v),(3,.v),(4,.v),(5,.l),(6,.v),(7,.v),(8,.e)] none ?_ trivial rfl (by kernel_rfl) (by kernel_rfl) (by kernel_rfl) bX (by kernel_rfl) rfl
  refine W1C ?_
  refine eS a5 _ rfl rfl rfl rfl (List.perm_append_comm (l₁:=[_,_])) (by simp;omega) (by simp;omega) (by first | trivial | rfl) fun q'=>?_
  refine LQ [2,3,4,5,53,61] KZ ?_
  refine aE (aH (List.perm_append_comm (l₂:=[_,_]))) ?_
  refine W0j ?_
  exact aC (i+1,q') rfl ⟨by rw [Lv];rfl,trivial⟩ (by dsimp only;omega) (by dsimp only;omega) (fun _ _ h=>by dsimp only;rw [hstep];dsimp only;rw [List.map_append];exact h)
 have hil:i=k:=by have:=Ly h;omega
 subst hil
 clear hstep
 have hal:=sD s i k1.2
 generalize e3:ly s i k1.2=A at hal ⊢
 repeat' (first|refine a9 ?_|refine a4 ?_|refine aP ?_|refine a6 ?_|refine aq ?_|refine ay ?_|refine au ?_|refine a7 ?_|refine LG a5 KZ ?_)
 refine bM (bC 0 rfl fun σ vs h=>cz (k:=7) (c':= .imm 4 (A.1.map cM)) h rfl fun v hv=>VR.im hv) ?_
 refine bM (bP (L':=[dA b s ⟨aI U,.vec none 9 [],.vec none 2 [],bO,.vec none 2 [],.imm 4 (A.1.map cM),.vec none 1 [],.vec none 1 [],.vec none 1 []⟩ A.2,tB tb]) (List.Sublist.cons_cons _ (List.Sublist.cons_cons _ (List.nil_sublist _)))) ?_
 refine qz [2,3,4] ([dA b s ⟨aI U,.vec none 9 [],.vec none 2 [],bO,.vec none 2 [],.imm 4 (A.1.map cM),.imm 1 ((fW s i A.2).1.map bN),.vec none 1 [],.vec none 1 []⟩ (fW s i A.2).2,tB tb]) rfl (fun Q' K=>?_) ?_
 ·refine ar rfl (fun h=>?_) (fun h=>?_)
  ·have hi0:¬i=0:=by have:=Lz h;omega
   refine W0k ?_
   refine cF ?_
   have hn:=cq s hs A.2.a (n:=4) (by omega)
   have hn:0≤(dr s 4 A.2).1∧(dr s 4 A.2).1 < 4:=hn
   generalize e4:dr s 4 A.2=n1 at hn ⊢
   obtain ⟨n,hnn⟩:∃k:Nat,n1.1=k:=⟨n1.1.toNat,by omega⟩
   have hv:fW s i A.2=lh s i n n1.2:=by
    unfold fW
    rw [if_neg hi0]
    unfold cg
    rw [e4]
    dsimp only
    rw [hnn,Int.toNat_natCast]
   rw [hv] at K
   rw [hnn]
   refine W04 ?_
   refine aN [2,3,4,7] (α:=Nat×Option (Nat×Nat)) (fun x=>[(8,aI x.1)]) (fun x=>x.1≤n) (fun x=>[dA b s ⟨aI U,.vec none 9 [],.vec none 2 [],bO,.vec none 2 [],.imm 4 (A.1.map cM),.vec x.2 1 ((lh s i x.1 n1.2).1.map bN),.vec none 1 [],.vec none 1 []⟩ (lh s i x.1 n1.2).2,tB tb]++tok x.2 128 1 ((lh s i x.1 n1.2).1.map bN).length) (fun x=>n - x.1) (0,none) rfl ⟨rfl,trivial⟩ (Nat.zero_le _) (fun _ _ h=>h) ?_
   rintro ⟨j,q⟩ hj
   dsimp only at hj ⊢
   have hrl:=tc s i j n1.2
   have hstep:lh s i (j+1) n1.2=((lh s i j n1.2).1++[(iB s i (lh s i j n1.2).2).1],(iB s i (lh s i j n1.2).2).2):=rfl
   try dsimp only [Lr,Lq,Lp,Li]
   refine W01 ?_
   refine ar rfl (fun h=>?_) (fun h=>?_)
   ·have hjn:j < n:=by have:=Lz h;omega
    generalize lh s i j n1.2=Rg at hrl hstep ⊢
    have hrlm:(Rg.1.map bN).length=Rg.1.length:=Lu ..
    repeat' (first|refine a9 ?_|refine a4 ?_|refine ai ?_|refine aj ?_|refine a6 ?_|refine a7 ?_|refine LG a5 KZ ?_|refine bf a5 fun _=>?_|fail)
    rename_i rb
    refine bM (bC 0 (cs':=[.vec none 3 []]) rfl fun σ vs h=>cz (k:=0) h rfl fun v hv=>cC 3 hv) ?_
    refine bM (aH (List.perm_middle (l₁:=[_,_])).symm) ?_
    refine aN [2,3,4,7,8,9] (α:=Nat×Option (Nat×Nat)) (fun x=>[(10,aI x.1)]) (fun x=>x.1≤i) (fun x=>[dA b s ⟨aI U,.vec none 9 [],.vec none 2 [],bO,.vec none 2 [],.imm 4 (A.1.map cM),.vec q 1 (Rg.1.map bN),.vec none 1 [],.vec none 1 []⟩ (iB s x.1 Rg.2).2,tB tb,(rb,.box [.vec x.2 3 ((iB s x.1 Rg.2).1.map ld)] 128)]++(tok x.2 125 3 ((iB s x.1 Rg.2).1.map ld).length++tok q 128 1 (Rg.1.map bN).length)) (fun x=>i - x.1) (0,none) rfl ⟨rfl,trivial⟩ (Nat.zero_le _) (fun _ _ h=>h) ?_
    rintro ⟨a,qt⟩ ha
    dsimp only at ha ⊢
    have htl:=yb s a Rg.2
    have hstt:iB s (a+1) Rg.2=(cg (dr s 5) fun z=>ret ((iB s a Rg.2).1++[l9.getD z.toNat ⟨0,0,0⟩])) (iB s a Rg.2).2:=rfl
    try dsimp only [Lr,Lq,Lp,Li]
    refine W01 ?_
    refine ar rfl (fun h=>?_) (fun h=>?_)
    ·have hai:a < i:=by have:=Lz h;omega
     generalize iB s a Rg.2=Tn at htl hstt ⊢
     have htlm:(Tn.1.map ld).length=Tn.1.length:=Lu ..
     refine W0K ?_
     refine dx [.cell (rb,0,.vec qt 3 (Tn.1.map ld))] 13 [(0,.v),(1,.k),(2,.v),(3,.v),(4,.v),(5,.v),(6,.v),(7,.v),(8,.v),(9,.f),(10,.v),(11,.v),(12,.v)] none ?_ trivial rfl (by kernel_rfl) (by kernel_rfl) (by kernel_rfl) bX (by kernel_rfl) rfl
     refine W0a ?_
     refine dP a5 0 rfl rfl rfl (bL 2 rfl rfl c8) (by first | trivial | rfl) ?_
     refine W1E ?_
     refine f4 (bL 2 rfl rfl c8) ?_
     have hz:=cq s hs Tn.2.a (n:=5) (by omega)
     have hz:0≤(dr s 5 Tn.2).1∧(dr s 5 Tn.2).1 < 5:=hz
     unfold cg at hstt
     generalize dr s 5 Tn.2=z at hz hstt ⊢
     dsimp only [ret] at hstt
     have hzt:(l9.map ld)[z.1.toNat]?=some (ld (l9.getD z.1.toNat ⟨0,0,0⟩)):=by
      rw [List.getElem?_map,mi (l:=l9) (i:=z.1.toNat) (by simp only [l9,List.length_cons,List.length_nil];omega) ⟨0,0,0⟩]
      rfl
     generalize l9.getD z.1.toNat ⟨0,0,0⟩=tn at hzt hstt
     refine W2g ?_
     refine LQ [2,3,4,7,8,9,10,80,91] KZ ?_
     repeat' (first|fail)
     refine bE a5 _ rfl rfl rfl rfl (eK (A:=[_,_,_])) (by simp;omega) (by simp;omega) rfl fun q'=>?_
     refine aE (aH (eK (A:=[_,_,_])).symm) ?_
     refine W0j ?_
     exact aC (a+1,q') rfl ⟨by rw [Lv];rfl,trivial⟩ (by dsimp only;omega) (by dsimp only;omega) (fun _ _ h=>by dsimp only;rw [hstt];dsimp only;rw [List.map_append];exact h)
    have hai:a=i:=by have:=Ly h;omega
    subst hai
    clear hstt htl
    generalize iB s a Rg.2=Tn at hstep ⊢
    refine W21 ?_
    refine bM (bC 2 (cs':=[.imm 3 (Tn.1.map ld)]) rfl fun σ vs h=>cz (k:=0) h rfl fun v hv=>VR.im hv) ?_
    refine bM (bP (L':=[dA b s ⟨aI U,.vec none 9 [],.vec none 2 [],bO,.vec none 2 [],.imm 4 (A.1.map cM),.vec q 1 (Rg.1.map bN),.vec none 1 [],.vec none 1 []⟩ Tn.2,tB tb,(rb,.box (bN Tn.1) 128)]++tok q 128 1 (Rg.1.map bN).length) (List.Sublist.cons_cons _ (List.Sublist.cons_cons _ (List.Sublist.cons_cons _ (List.sublist_append_right _ _))))) ?_
    refine bz 9 [(0,.v),(1,.v),(2,.v),(3,.v),(4,.v),(5,.l),(6,.l),(7,.v),(8,.e)] none ?_ trivial rfl (by kernel_rfl) (by kernel_rfl) (by kernel_rfl) bX (by kernel_rfl) rfl
    refine W0t ?_
    refine nl a5 2 rfl rfl rfl rfl (by first | trivial | rfl) ?_
    refine W1e ?_
    refine eS a5 _ rfl rfl rfl rfl (List.perm_append_comm (l₁:=[_,_,_])) (by simp;omega) (by simp;omega) (by first | trivial | rfl) fun q'=>?_
    refine LQ [2,3,4,7,8,94,102] KZ ?_
    refine aE (aH (List.perm_append_comm (l₂:=[_,_,_]))) ?_
    refine W0j ?_
    exact aC (j+1,q') rfl ⟨by rw [Lv];rfl,trivial⟩ (by dsimp only;omega) (by dsimp only;omega) (fun _ _ h=>by dsimp only;rw [hstep];dsimp only;rw [List.map_append];exact h.sublist (List.Sublist.cons_cons _ (List.Sublist.cons_cons _ (List.sublist_cons_self ..))))
   have hjn:j=n:=by have:=Ly h;omega
   subst hjn
   generalize lh s i j n1.2=Rg at K ⊢
   refine W19 ?_
   refine bc (bC 0 rfl fun σ vs h=>cz (k:=8) (c':= .imm 1 (Rg.1.map bN)) h rfl fun v hv=>VR.im hv) ?_
   refine bc (bP (L':=[dA b s ⟨aI U,.vec none 9 [],.vec none 2 [],bO,.vec none 2 [],.imm 4 (A.1.map cM),.imm 1 (Rg.1.map bN),.vec none 1 [],.vec none 1 []⟩ Rg.2,tB tb]) (List.Sublist.cons_cons _ (List.Sublist.cons_cons _ (List.nil_sublist _)))) ?_
   exact K _ rfl
  ·have hi0:i=0:=by have:=Ly h;omega
   have hv:fW s i A.2=([],A.2):=by
    unfold fW
    rw [if_pos hi0]
    rfl
   rw [hv] at K
   repeat' (first|refine aj ?_)
   refine bc (bC 0 rfl fun σ vs h=>cz (k:=8) (c':= .imm 1 []) h rfl fun v hv=>VR.im hv) ?_
   exact K _ rfl
 generalize e4:fW s i A.2=rg
 refine W0k ?_
 refine cF ?_
 have hk2:=cq s hs rg.2.a (n:=3) (by omega)
 have hk2:0≤(dr s 3 rg.2).1∧(dr s 3 rg.2).1 < 3:=hk2
 generalize e5:dr s 3 rg.2=k2 at hk2 ⊢
 obtain ⟨k',hkk2⟩:∃k:Nat,k2.1=k:=⟨k2.1.toNat,by omega⟩
 rw [hkk2]
 refine W04 ?_
 refine aN [2,3,4] (α:=Nat×Option (Nat×Nat)) (fun x=>[(11,aI x.1)]) (fun x=>x.1≤k') (fun x=>[dA b s ⟨aI U,.vec none 9 [],.vec none 2 [],bO,.vec none 2 [],.imm 4 (A.1.map cM),.imm 1 (rg.1.map bN),.vec x.2 1 ((j4 s x.1 k2.2).1.map dG),.vec none 1 []⟩ (j4 s x.1 k2.2).2,tB tb]++tok x.2 74 1 ((j4 s x.1 k2.2).1.map dG).length) (fun x=>k' - x.1) (0,none) rfl ⟨rfl,trivial⟩ (Nat.zero_le _) (fun _ _ h=>h) ?_
 rintro ⟨j,q2⟩ hj
 dsimp only at hj ⊢
 have hfl:=xm s j k2.2
 have hstep:j4 s (j+1) k2.2=(cg (il 0) fun _=>cg (nE s 6 j 4) fun h=>ret ((j4 s j k2.2).1++[h])) (j4 s j k2.2).2:=rfl
 try dsimp only [Lr,Lq,Lp,Li]
 refine W01 ?_
 refine ar rfl (fun h=>?_) (fun h=>?_)
 ·have hjk:j < k':=by have:=Lz h;omega
  generalize j4 s j k2.2=Fu at hfl hstep ⊢
  have hflm:(Fu.1.map dG).length=Fu.1.length:=Lu ..
  unfold cg at hstep
  repeat' (first|refine a9 ?_|refine a4 ?_|refine ai ?_|refine aj ?_|refine a6 ?_|refine a7 ?_|refine LG a5 KZ ?_|(apply aM;first|refine LI 6 a5 0 LF ?_|refine LI 6 a5 1 LF ?_|refine LI 6 a5 2 LF ?_|refine LH a5 0 LE ?_|refine LH a5 1 LE ?_|refine LH a5 2 LE ?_|refine LH a5 3 LE ?_|fail))
  refine bM (aH (L':=[dA b s ⟨aI U,.vec none 9 [],.vec none 2 [],bO,.vec none 2 [],.imm 4 (A.1.map cM),.imm 1 (rg.1.map bN),.vec q2 1 (Fu.1.map dG),.vec none 1 []⟩ (il 0 Fu.2).2,tB tb]++tok q2 74 1 (Fu.1.map dG).length) (Lm _)) ?_
  generalize (il 0 Fu.2).2=w at hstep ⊢
  dsimp only at hstep
  refine dx [.cell (b,9,.vec q2 1 (Fu.1.map dG))] 11 [(0,.v),(1,.v),(2,.v),(3,.v),(4,.v),(5,.k),(6,.v),(7,.v),(8,.f),(9,.v),(10,.e)] none ?_ trivial rfl (by kernel_rfl) (by kernel_rfl) (by kernel_rfl) bX (by kernel_rfl) rfl
  refine W0a ?_
  refine dP a5 0 rfl rfl rfl (bL 0 rfl rfl c8) (by first | trivial | rfl) ?_
  refine W0a ?_
  refine GY (sW s hs _ (n:=6) (fn:=(j:Int)) (most:=4) (by omega) (by omega) (by omega)) (bL 0 rfl rfl c8) ?_
  generalize nE s 6 j 4 w=hi at hstep ⊢
  try dsimp only [ret] at hstep
  unfold jR
  refine W1e ?_
  refine eS a5 _ rfl rfl rfl rfl (List.perm_append_comm (l₁:=[_,_])) (by simp;omega) (by simp;omega) (by first | trivial | rfl) fun q'=>?_
  refine LQ [2,3,4,11,116,126] KZ ?_
  refine aE (aH (List.perm_append_comm (l₂:=[_,_]))) ?_
  refine W0j ?_
  exact aC (j+1,q') rfl ⟨by rw [Lv];rfl,trivial⟩ (by dsimp only;omega) (by dsimp only;omega) (fun _ _ h=>by dsimp only;rw [hstep];dsimp only;rw [List.map_append];exact h)
 have hjk:j=k':=by have:=Ly h;omega
 subst hjk
 clear hstep
 generalize e6:j4 s j k2.2=fu at hfl ⊢
 refine W0R ?_
 refine aE (bC 0 rfl fun σ vs h=>cz (k:=9) (c':= .imm 1 (fu.1.map dG)) h rfl fun v hv=>VR.im hv) ?_
 refine aE (bP (L':=[dA b s ⟨aI U,.vec none 9 [],.vec none 2 [],bO,.vec none 2 [],.imm 4 (A.1.map cM),.imm 1 (rg.1.map bN),.imm 1 (fu.1.map dG),.vec none 1 []⟩ fu.2,tB tb]) (List.Sublist.cons_cons _ (List.Sublist.cons_cons _ (List.nil_sublist _)))) ?_
 refine cF ?_
 have hk3:=cq s hs fu.2.a (n:=4) (by omega)
 have hk3:0≤(dr s 4 fu.2).1∧(dr s 4 fu.2).1 < 4:=hk3
 generalize e7:dr s 4 fu.2=k3 at hk3 ⊢
 obtain ⟨k'',hkk3⟩:∃k:Nat,k3.1=k:=⟨k3.1.toNat,by omega⟩
 rw [hkk3]
 refine W04 ?_
 refine aN [2,3,4] (α:=Nat×Option (Nat×Nat)) (fun x=>[(12,aI x.1)]) (fun x=>x.1≤k'') (fun x=>[dA b s ⟨aI U,.vec none 9 [],.vec none 2 [],bO,.vec none 2 [],.imm 4 (A.1.map cM),.imm 1 (rg.1.map bN),.imm 1 (fu.1.map dG),.vec x.2 1 (aQ (qN s x.1 k3.2).1)⟩ (qN s x.1 k3.2).2,tB tb]++tok x.2 3 1 (aQ (qN s x.1 k3.2).1).length) (fun x=>k'' - x.1) (0,none) rfl ⟨rfl,trivial⟩ (Nat.zero_le _) (fun _ _ h=>h) ?_
 rintro ⟨jc,q3⟩ hjc
 dsimp only at hjc ⊢
 have hcl:=CP s jc k3.2
 have hstep:qN s (jc+1) k3.2=(cg (dr s 500) fun z=>ret ((qN s jc k3.2).1++[z - 100])) (qN s jc k3.2).2:=rfl
 try dsimp only [Lr,Lq,Lp,Li]
 refine W01 ?_
 refine ar rfl (fun h=>?_) (fun h=>?_)
 ·have hjk:jc < k'':=by have:=Lz h;omega
  generalize qN s jc k3.2=C at hcl hstep ⊢
  have hclm:(aQ C.1).length=C.1.length:=aX _
  unfold cg at hstep
  refine W0K ?_
  refine dx [.cell (b,10,.vec q3 1 (aQ C.1))] 11 [(0,.v),(1,.v),(2,.v),(3,.v),(4,.v),(5,.k),(6,.v),(7,.f),(8,.v),(9,.v),(10,.e)] none ?_ trivial rfl (by kernel_rfl) (by kernel_rfl) (by kernel_rfl) bX (by kernel_rfl) rfl
  refine W0a ?_
  refine dP a5 0 rfl rfl rfl (bL 0 rfl rfl c8) (by first | trivial | rfl) ?_
  refine W0a ?_
  refine f4 (bL 0 rfl rfl c8) ?_
  have hz:=cq s hs C.2.a (n:=500) (by omega)
  have hz:0≤(dr s 500 C.2).1∧(dr s 500 C.2).1 < 500:=hz
  generalize dr s 500 C.2=z at hz hstep ⊢
  try dsimp only [ret] at hstep
  repeat' (first|refine aD ?_|(apply eU;refine gk ?_)|refine ei a5 ?_|fail)
  refine eS a5 _ rfl rfl rfl rfl (List.perm_append_comm (l₁:=[_,_])) (by simp [aX];omega) (by simp [aX];omega) (by first | trivial | rfl) fun q'=>?_
  refine LQ [2,3,4,12,137,147] KZ ?_
  refine aE (aH (List.perm_append_comm (l₂:=[_,_]))) ?_
  refine W0j ?_
  exact aC (jc+1,q') rfl ⟨by rw [Lv];rfl,trivial⟩ (by dsimp only;omega) (by dsimp only;omega) (fun _ _ h=>by dsimp only;rw [hstep];dsimp only;rw [show aQ (C.1++[z.1 - 100])=aQ C.1++[[aI (z.1 - 100)]] from List.map_append ..];exact h)
 have hjk:jc=k'':=by have:=Ly h;omega
 subst hjk
 clear hstep
 generalize e8:qN s jc k3.2=cv at hcl ⊢
 refine W0R ?_
 refine aE (bC 0 rfl fun σ vs h=>cz (k:=10) (c':= .imm 1 (aQ cv.1)) h rfl fun v hv=>VR.im hv) ?_
 refine aE (bP (L':=[dA b s ⟨aI U,.vec none 9 [],.vec none 2 [],bO,.vec none 2 [],.imm 4 (A.1.map cM),.imm 1 (rg.1.map bN),.imm 1 (fu.1.map dG),.imm 1 (aQ cv.1)⟩ cv.2,tB tb]) (List.Sublist.cons_cons _ (List.Sublist.cons_cons _ (List.nil_sublist _)))) ?_
 refine cF ?_
 have hk4:=cq s hs cv.2.a (n:=9) (by omega)
 have hk4:0≤(dr s 9 cv.2).1∧(dr s 9 cv.2).1 < 9:=hk4
 generalize e9:dr s 9 cv.2=k4 at hk4 ⊢
 obtain ⟨n,hkk4⟩:∃k:Nat,2+k4.1=k:=⟨(2+k4.1).toNat,by omega⟩
 refine W1c ?_
 rw [hkk4]
 have hrgl:(rg.1.map bN).length=rg.1.length:=Lu ..
 have hful:(fu.1.map dG).length=fu.1.length:=Lu ..
 have hrg3:rg.1.length≤1000:=by
  have hR:bU (fW s A.1.length) fun l=>l.length≤3:=bU.ite (fun _=>bU.ret (Nat.zero_le _)) fun _=>(cT s (by omega)).bnd fun n hn m=>by rw [tc];omega
  have:=hR A.2
  rw [hal] at this
  rw [←e4]
  omega
 refine aN [2,3,4] (α:=Nat×Option (Nat×Nat)) (fun x=>[(13,aI x.1)]) (fun x=>x.1≤n) (fun x=>[dA b s ⟨aI U,.vec x.2 9 ((gF s rg.1.length fu.1.length x.1 k4.2).1.map bI),.vec none 2 [],bO,.vec none 2 [],.imm 4 (A.1.map cM),.imm 1 (rg.1.map bN),.imm 1 (fu.1.map dG),.imm 1 (aQ cv.1)⟩ (gF s rg.1.length fu.1.length x.1 k4.2).2,tB tb]++tok x.2 76 9 ((gF s rg.1.length fu.1.length x.1 k4.2).1.map bI).length) (fun x=>n - x.1) (0,none) rfl ⟨rfl,trivial⟩ (Nat.zero_le _) (fun _ _ h=>h) ?_
 rintro ⟨jg,q4⟩ hjg
 dsimp only at hjg ⊢
 have hgl:=vJ s rg.1.length fu.1.length jg k4.2
 have hstep:gF s rg.1.length fu.1.length (jg+1) k4.2=(cg (kR s rg.1.length fu.1.length jg) fun g=>ret ((gF s rg.1.length fu.1.length jg k4.2).1++[g])) (gF s rg.1.length fu.1.length jg k4.2).2:=rfl
 try dsimp only [Lr,Lq,Lp,Li]
 refine W01 ?_
 refine ar rfl (fun h=>?_) (fun h=>?_)
 ·have hjn:jg < n:=by have:=Lz h;omega
  generalize gF s rg.1.length fu.1.length jg k4.2=Gs at hgl hstep ⊢
  have hglm:(Gs.1.map bI).length=Gs.1.length:=Lu ..
  unfold cg at hstep
  refine W0v ?_
  refine b9 ([dA b s ⟨aI U,.vec q4 9 (Gs.1.map bI),.vec none 2 [],bO,.vec none 2 [],.imm 4 (A.1.map cM),.imm 1 (rg.1.map bN),.imm 1 (fu.1.map dG),.imm 1 (aQ cv.1)⟩ Gs.2]++(tok q4 76 9 (Gs.1.map bI).length++[])) [tB tb] (Di s hs ⟨aI U,.vec q4 9 (Gs.1.map bI),.vec none 2 [],bO,.vec none 2 [],.imm 4 (A.1.map cM),.imm 1 (rg.1.map bN),.imm 1 (fu.1.map dG),.imm 1 (aQ cv.1)⟩ rfl rfl rfl rg.1.length fu.1.length jg hrgl hful (by omega) (by omega) (by omega) (by omega) b Gs.2) rfl rfl Eb rfl fun c L1 ⟨q',hL1⟩=>?_
  subst hL1
  refine aE (aH Eb.symm) ?_
  generalize kR s rg.1.length fu.1.length jg Gs.2=g at hstep ⊢
  try dsimp only [ret] at hstep
  refine W05 ?_
  exact aC (jg+1,q') rfl ⟨by rw [Lv];rfl,trivial⟩ (by dsimp only;omega) (by dsimp only;omega) (fun _ _ h=>by dsimp only;rw [hstep];dsimp only;rw [List.map_append];exact h)
 have hjn:jg=n:=by have:=Ly h;omega
 subst hjn
 clear hstep
 generalize e10:gF s rg.1.length fu.1.length jg k4.2=gl at hgl ⊢
 have hglm:(gl.1.map bI).length=gl.1.length:=Lu ..
 refine W1p ?_
 refine bn (hc:=⟨Bu⟩) ?_
 refine Cz (Φ:=∀b cap,q4=some (b,cap)→B.w.heap.size≤b) (fun σ w hw b cap e=>by subst e;exact GH (A:=[_,_]) hw hBX) fun hn4=>?_
 refine aE (bP (L':=[dA b s ⟨aI U,.vec q4 9 (gl.1.map bI),.vec none 2 [],bO,.vec none 2 [],.imm 4 (A.1.map cM),.imm 1 (rg.1.map bN),.imm 1 (fu.1.map dG),.imm 1 (aQ cv.1)⟩ gl.2,tB tb]) (List.Sublist.cons_cons _ (List.Sublist.cons_cons _ (List.nil_sublist _)))) ?_
 refine W04 ?_
 have hr16:(aQ ge).length=16:=rfl
 refine aN [2,3,14] (α:=Nat×Option (Nat×Nat)) (fun x=>[(15,aI x.1)]) (fun x=>x.1≤16) (fun x=>[dA b s ⟨aI U,.vec q4 9 (gl.1.map bI),.vec x.2 2 ((iv s gl.1.length x.1 gl.2).1.map ep),bO,.vec none 2 [],.imm 4 (A.1.map cM),.imm 1 (rg.1.map bN),.imm 1 (fu.1.map dG),.imm 1 (aQ cv.1)⟩ (iv s gl.1.length x.1 gl.2).2,tB tb]++tok x.2 119 2 ((iv s gl.1.length x.1 gl.2).1.map ep).length) (fun x=>16 - x.1) (0,none) rfl ⟨rfl,trivial⟩ (Nat.zero_le _) (fun _ _ h=>h) ?_
 rintro ⟨jr,q5⟩ hjr
 dsimp only at hjr ⊢
 have hcl2:=x7 s gl.1.length jr gl.2
 have hstep:iv s gl.1.length (jr+1) gl.2=(cg (dr s 4) fun z=>if 0 < z then cg (dr s gl.1.length) fun g=>ret ((iv s gl.1.length jr gl.2).1++[(⟨ge.getD jr 0,g⟩:gB)]) else ret (iv s gl.1.length jr gl.2).1) (iv s gl.1.length jr gl.2).2:=rfl
 try dsimp only [Lr,Lq,Lp,Li]
 refine W01 ?_
 refine ar rfl (fun h=>?_) (fun h=>?_)
 ·have hj16:jr < 16:=by have:=Lz h;rw [hr16] at this;omega
  have hrn:(aQ ge)[jr]?=some [aI (ge.getD jr 0)]:=bW (mi hj16 0)
  generalize ge.getD jr 0=rn at hrn hstep
  generalize iv s gl.1.length jr gl.2=Ch at hcl2 hstep ⊢
  have hchm:(Ch.1.map ep).length=Ch.1.length:=Lu ..
  unfold cg at hstep
  refine W0v ?_
  refine cF ?_
  generalize dr s 4 Ch.2=z at hstep ⊢
  dsimp only at hstep
  refine W0r ?_
  refine ar rfl (fun hz=>?_) (fun hz=>?_)
  ·rw [if_pos (Lz hz)] at hstep
   repeat' (first|fail)
   refine dx [.cell (b,4,.vec q5 2 (Ch.1.map ep))] 21 [(0,.v),(1,.v),(2,.v),(3,.v),(4,.v),(5,.k),(6,.v),(7,.v),(8,.v),(9,.v),(10,.v),(11,.v),(12,.v),(13,.v),(14,.v),(15,.l),(16,.v),(17,.f),(18,.v),(19,.v),(20,.e)] none ?_ trivial rfl (by kernel_rfl) (by kernel_rfl) (by kernel_rfl) bX (by kernel_rfl) rfl
   refine W0a ?_
   refine dP a5 0 rfl rfl rfl (bL 0 rfl rfl c8) (by first | trivial | rfl) ?_
   refine W0Z ?_
   rw [hglm]
   refine f4 (bL 0 rfl rfl c8) ?_
   generalize dr s gl.1.length z.2=g at hstep ⊢
   try dsimp only [ret] at hstep
   refine W1E ?_
   refine eS a5 _ rfl rfl rfl rfl (List.perm_append_comm (l₁:=[_,_])) (by simp;omega) (by simp;omega) (by first | trivial | rfl) fun q'=>?_
   refine LQ [2,3,14,15,172,192] KZ ?_
   refine aE (aH (List.perm_append_comm (l₂:=[_,_]))) ?_
   refine W0j ?_
   exact aC (jr+1,q') rfl ⟨by rw [Lv];rfl,trivial⟩ (by dsimp only;omega) (by dsimp only;omega) (fun _ _ h=>by dsimp only;rw [hstep];dsimp only;rw [List.map_append];exact h)
  ·rw [if_neg (Ly hz)] at hstep
   try dsimp only [ret] at hstep
   refine W06 ?_
   exact aC (jr+1,q5) rfl ⟨by rw [Lv];rfl,trivial⟩ (by dsimp only;omega) (by dsimp only;omega) (fun _ _ h=>by dsimp only;rw [hstep];exact h)
 have hj16:jr=16:=by have:=Ly h;rw [hr16] at this;omega
 subst hj16
 clear hstep
 generalize e11:iv s gl.1.length 16 gl.2=ch at hcl2 ⊢
 refine W0R ?_
 refine aE (bC 0 rfl fun σ vs h=>cz (k:=4) (c':= .imm 2 (ch.1.map ep)) h rfl fun v hv=>VR.im hv) ?_
 refine aE (bP (L':=[dA b s ⟨aI U,.vec q4 9 (gl.1.map bI),.imm 2 (ch.1.map ep),bO,.vec none 2 [],.imm 4 (A.1.map cM),.imm 1 (rg.1.map bN),.imm 1 (fu.1.map dG),.imm 1 (aQ cv.1)⟩ ch.2]++[tB tb]) (List.Sublist.cons_cons _ (List.Sublist.cons_cons _ (List.nil_sublist _)))) ?_
 refine nM [dA b s ⟨aI U,.vec q4 9 (gl.1.map bI),.imm 2 (ch.1.map ep),bO,.vec none 2 [],.imm 4 (A.1.map cM),.imm 1 (rg.1.map bN),.imm 1 (fu.1.map dG),.imm 1 (aQ cv.1)⟩ ch.2] [tB tb] (vV s hs ⟨aI U,.vec q4 9 (gl.1.map bI),.imm 2 (ch.1.map ep),bO,.vec none 2 [],.imm 4 (A.1.map cM),.imm 1 (rg.1.map bN),.imm 1 (fu.1.map dG),.imm 1 (aQ cv.1)⟩ rfl rfl gl.1.length hglm (by omega) b ch.2) rfl rfl (Lm _) rfl fun σ1 c L1 hle hL1=>?_
 subst hL1
 refine aE (bC 0 rfl fun σ vs h=>cz (k:=5) (c':= .new (bG B.σ) 3 ((ij s gl.1.length ch.2).1.map (cU (bG B.σ)))) h rfl fun v hv=>nL _ B.σ σ1 hle _ v hv) ?_
 have hlk6:=(pu s (n:=gl.1.length) (by omega) ch.2).len
 generalize e12:ij s gl.1.length ch.2=lk at hlk6 ⊢
 have hlkm:(lk.1.map (cU (bG B.σ))).length=lk.1.length:=Lu ..
 repeat' (first|refine a9 ?_|refine a4 ?_|refine a6 ?_|refine a7 ?_)
 refine bn (hc:=⟨w1⟩) ?_
 refine aE (aH (L':=[dA b s ⟨aI U,.vec q4 9 (gl.1.map bI),.imm 2 (ch.1.map ep),.new (bG B.σ) 3 (lk.1.map (cU (bG B.σ))),.vec none 2 [],.imm 4 (A.1.map cM),.imm 1 (rg.1.map bN),.imm 1 (fu.1.map dG),.imm 1 (aQ cv.1)⟩ lk.2,tB tb]) (Lm _)) ?_
 refine W04 ?_
 have hn8:(EB gc).length=8:=rfl
 refine aN [2,3,16] (α:=Nat×Option (Nat×Nat)) (fun x=>[(17,aI x.1)]) (fun x=>x.1≤8) (fun x=>[dA b s ⟨aI U,.vec q4 9 (gl.1.map bI),.imm 2 (ch.1.map ep),.new (bG B.σ) 3 (lk.1.map (cU (bG B.σ))),.vec x.2 2 ((ix s lk.1.length x.1 lk.2).1.map cj),.imm 4 (A.1.map cM),.imm 1 (rg.1.map bN),.imm 1 (fu.1.map dG),.imm 1 (aQ cv.1)⟩ (ix s lk.1.length x.1 lk.2).2,tB tb]++tok x.2 121 2 ((ix s lk.1.length x.1 lk.2).1.map cj).length) (fun x=>8 - x.1) (0,none) rfl ⟨rfl,trivial⟩ (Nat.zero_le _) (fun _ _ h=>h) ?_
 rintro ⟨jf,q6⟩ hjf
 dsimp only at hjf ⊢
 have hftl:=xh s lk.1.length jf lk.2
 have hstep:ix s lk.1.length (jf+1) lk.2=(cg (oy s lk.1.length) fun r=>cg (dr s 2) fun z=>ret (if z=0 then (ix s lk.1.length jf lk.2).1++[(⟨gc.getD jf ByteArray.empty,r⟩:c9)] else (ix s lk.1.length jf lk.2).1)) (ix s lk.1.length jf lk.2).2:=rfl
 try dsimp only [Lr,Lq,Lp,Li]
 refine W01 ?_
 refine ar rfl (fun h=>?_) (fun h=>?_)
 ·have hj8:jf < 8:=by have:=Lz h;rw [hn8] at this;omega
  have hnm:(EB gc)[jf]?=some [wG (gc.getD jf ByteArray.empty)]:=EC (mi hj8 ByteArray.empty)
  generalize gc.getD jf ByteArray.empty=nm at hnm hstep
  generalize ix s lk.1.length jf lk.2=Ft at hftl hstep ⊢
  have hftm:(Ft.1.map cj).length=Ft.1.length:=Lu ..
  unfold cg at hstep
  refine W0x ?_
  refine bM (bA (t:=18) (c':= .vec none 1 []) rfl fun σ v h=>cC 1 h) ?_
  refine aN [2,3,16,17] (α:=Nat×Option (Nat×Nat)) (fun x=>[(19,aI x.1),(18,.vec x.2 1 (aQ (oy s x.1 Ft.2).1))]) (fun x=>x.1≤lk.1.length) (fun x=>[dA b s ⟨aI U,.vec q4 9 (gl.1.map bI),.imm 2 (ch.1.map ep),.new (bG B.σ) 3 (lk.1.map (cU (bG B.σ))),.vec q6 2 (Ft.1.map cj),.imm 4 (A.1.map cM),.imm 1 (rg.1.map bN),.imm 1 (fu.1.map dG),.imm 1 (aQ cv.1)⟩ (oy s x.1 Ft.2).2,tB tb]++(tok x.2 3 1 (aQ (oy s x.1 Ft.2).1).length++tok q6 121 2 (Ft.1.map cj).length)) (fun x=>lk.1.length - x.1) (0,none) rfl ⟨rfl,rfl,trivial⟩ (Nat.zero_le _) (fun _ _ h=>h) ?_
  rintro ⟨a,q7⟩ ha
  dsimp only at ha ⊢
  have hal7:=Cv s a Ft.2
  have hst7:oy s (a+1) Ft.2=(cg (dr s 3) fun z=>ret (if z=0 then (oy s a Ft.2).1++[(a:Int)] else (oy s a Ft.2).1)) (oy s a Ft.2).2:=rfl
  try dsimp only [Lr,Lq,Lp,Li]
  refine W0o ?_
  refine aE (bA (t:=210) (c':= .imm 3 (lk.1.map (cU (bG B.σ)))) rfl fun _ _ h=>VR.newIm h) ?_
  refine W0r ?_
  refine ar rfl (fun h=>?_) (fun h=>?_)
  ·have hal:a < lk.1.length:=by have:=Lz h;rw [hlkm] at this;omega
   generalize oy s a Ft.2=As at hal7 hst7 ⊢
   have hasm:(aQ As.1).length=As.1.length:=aX _
   unfold cg at hst7
   refine W0v ?_
   refine cF ?_
   generalize dr s 3 As.2=z at hst7 ⊢
   dsimp only [ret] at hst7
   refine W0r ?_
   refine ar rfl (fun hz=>?_) (fun hz=>?_)
   ·rw [if_pos (Lz hz)] at hst7
    refine W1W ?_
    refine bE a5 _ rfl rfl rfl rfl (eK (A:=[_,_])) (by simp [aX];omega) (by simp [aX];omega) rfl fun q'=>?_
    refine aE (aH (eK (A:=[_,_])).symm) ?_
    refine W05 ?_
    exact aC (a+1,q') rfl ⟨by rw [Lv];rfl,by rw [hst7];dsimp only;rw [show aQ (As.1++[(a:Int)])=aQ As.1++[[aI (a:Int)]] from List.map_append ..];rfl,trivial⟩ (by dsimp only;omega) (by dsimp only;omega) (fun _ _ h=>by dsimp only;rw [hst7];dsimp only;rw [show aQ (As.1++[(a:Int)])=aQ As.1++[[aI (a:Int)]] from List.map_append ..];exact h)
   ·rw [if_neg (Ly hz)] at hst7
    refine W06 ?_
    exact aC (a+1,q7) rfl ⟨by rw [Lv];rfl,by rw [hst7];rfl,trivial⟩ (by dsimp only;omega) (by dsimp only;omega) (fun _ _ h=>by dsimp only;rw [hst7];exact h)
  have hal:a=lk.1.length:=by have:=Ly h;rw [hlkm] at this;omega
  subst hal
  clear hst7
  generalize oy s lk.1.length Ft.2=As at hal7 hstep ⊢
  dsimp only at hstep
  refine W0R ?_
  refine aE (bA (t:=18) (c':= .imm 1 (aQ As.1)) rfl fun σ v h=>VR.im h) ?_
  refine aE (bP (L':=[dA b s ⟨aI U,.vec q4 9 (gl.1.map bI),.imm 2 (ch.1.map ep),.new (bG B.σ) 3 (lk.1.map (cU (bG B.σ))),.vec q6 2 (Ft.1.map cj),.imm 4 (A.1.map cM),.imm 1 (rg.1.map bN),.imm 1 (fu.1.map dG),.imm 1 (aQ cv.1)⟩ As.2,tB tb]++tok q6 121 2 (Ft.1.map cj).length) (List.Sublist.cons_cons _ (List.Sublist.cons_cons _ (List.sublist_append_right _ _)))) ?_
  refine cF ?_
  generalize dr s 2 As.2=z at hstep ⊢
  dsimp only [ret] at hstep
  refine W0r ?_
  refine ar rfl (fun hz=>?_) (fun hz=>?_)
  ·rw [if_pos (Lz hz)] at hstep
   repeat' (first|fail)
   refine bz 14 [(0,.v),(1,.v),(2,.v),(3,.v),(4,.v),(5,.l),(6,.v),(7,.v),(8,.v),(9,.v),(10,.v),(11,.v),(12,.v),(13,.e)] none ?_ trivial rfl (by kernel_rfl) (by kernel_rfl) (by kernel_rfl) bX (by kernel_rfl) rfl
   repeat' (first|refine aD ?_|refine b6 a5 ?_|(apply cK;refine df a5 ?_)|refine ei a5 ?_|refine cf a5 0 rfl rfl rfl rfl (by first|trivial|rfl) ?_)
   refine eS a5 _ rfl rfl rfl rfl (List.perm_append_comm (l₁:=[_,_])) (by simp;omega) (by simp;omega) (by first | trivial | rfl) fun q'=>?_
   refine LQ [2,3,16,17,225,238] KZ ?_
   refine aE (aH (List.perm_append_comm (l₂:=[_,_]))) ?_
   refine W0j ?_
   exact aC (jf+1,q') rfl ⟨by rw [Lv];rfl,trivial⟩ (by dsimp only;omega) (by dsimp only;omega) (fun _ _ h=>by dsimp only;rw [hstep];dsimp only;rw [List.map_append];exact h)
  ·rw [if_neg (Ly hz)] at hstep
   refine W06 ?_
   exact aC (jf+1,q6) rfl ⟨by rw [Lv];rfl,trivial⟩ (by dsimp only;omega) (by dsimp only;omega) (fun _ _ h=>by dsimp only;rw [hstep];exact h)
 have hj8:jf=8:=by have:=Ly h;rw [hn8] at this;omega
 subst hj8
 clear hstep
 generalize e13:ix s lk.1.length 8 lk.2=ft at hftl ⊢
 repeat' (first|refine a9 ?_|refine a4 ?_|refine am ?_|refine aP ?_|refine a6 ?_|refine aq ?_|refine ay ?_|refine au ?_|refine a7 ?_|refine LG a5 KZ ?_|(apply bq;first|refine LJ a5 0 LC ?_|refine LJ a5 1 LC ?_|refine LJ a5 2 LC ?_|refine LJ a5 3 LC ?_|refine LK a5 0 LC ?_|refine LK a5 1 LC ?_|refine LK a5 2 LC ?_|refine LL a5 1 LA (by assumption) rfl ?_|refine LL a5 0 LA (by assumption) rfl ?_|fail)|(apply aM;first|refine LI 6 a5 0 LF ?_|refine LI 6 a5 1 LF ?_|refine LI 6 a5 2 LF ?_|refine LH a5 0 LE ?_|refine LH a5 1 LE ?_|refine LH a5 2 LE ?_|refine LH a5 3 LE ?_|fail))
 have hv:pv s=⟨U,gl.1,ch.1,lk.1,ft.1,A.1,rg.1,fu.1,cv.1⟩:=by
  unfold pv DF cg
  rw [e1]
  try dsimp only
  rw [e2]
  try dsimp only
  rw [hkk,Int.toNat_natCast,e3]
  try dsimp only
  rw [e4,e5]
  try dsimp only
  rw [hkk2,Int.toNat_natCast,e6]
  try dsimp only
  rw [e7]
  try dsimp only
  rw [hkk3,Int.toNat_natCast,e8]
  try dsimp only
  rw [e9]
  try dsimp only
  rw [hkk4,Int.toNat_natCast,e10]
  try dsimp only
  rw [e11]
  try dsimp only
  rw [e12]
  try dsimp only
  rw [e13,hU]
  rfl
 rw [hv]
 exact bc (eE 1 (cs':=kB (bG B.σ) ⟨U,gl.1,ch.1,lk.1,ft.1,A.1,rg.1,fu.1,cv.1⟩) rfl fun σ _ vs _ h=>wH.vrs (a:=[aI U,.vec q4 9 (gl.1.map bI),.imm 2 (ch.1.map ep),.new (bG B.σ) 3 (lk.1.map (cU (bG B.σ))),.vec q6 2 (ft.1.map cj),.imm 4 (A.1.map cM),.imm 1 (rg.1.map bN),.imm 1 (fu.1.map dG),.imm 1 (aQ cv.1)]) (b:=kB (bG B.σ) ⟨U,gl.1,ch.1,lk.1,ft.1,A.1,rg.1,fu.1,cv.1⟩) ⟨fun _ h=>h,fun _ h=>EO hn4 hBq h,fun _ h=>h,fun _ h=>h,fun _ h=>VR.im h,fun _ h=>h,fun _ h=>h,fun _ h=>h,fun _ h=>h,trivial⟩ h) (iH a5 1 [] rfl rfl rfl rfl rfl (List.nil_sublist _) rfl)
end Go.Proofs.YtpmdfoaadejmkaaGreatDoor
namespace Go.Proofs.YtpmdfoaadejmkaaGreatDoor
open Go.RowKit
attribute [local irreducible] AT br AX AO Av Kt b7 dm DA cA
theorem BR {σ τ:Mem} (h:σ.le τ) (f:aY):iS (kB (bG τ) f) (kB (bG σ) f):=⟨c6.refl _,d6.new 9 _ σ τ h,c6.refl _,nL f.Lookups σ τ h,c6.refl _,c6.refl _,c6.refl _,c6.refl _,c6.refl _,trivial⟩
theorem xF (l:List Int):Jy Tryz.prog 14 [.imm 1 (aQ l)] fun σ c=>c= .agg (kB (bG σ) (pv (l.take 300))):=by
 refine HJ Tryz.func14 rfl Tryz.ntmps14 rfl fun B=>?_
 refine cW 0 rfl rfl fun hl=>?_
 have hil:=aX l
 refine W25 ?_
 intros
 refine G4 a5 (min l.length 300) rfl rfl rfl rfl rfl (by omega) (by omega) rfl ?_
 have ht:l.take (min l.length 300)=l.take 300:=by
  rcases Nat.le_total l.length 300 with h | h
  ·rw [Nat.min_eq_left h,List.take_length,List.take_of_length_le h]
  ·rw [Nat.min_eq_right h]
 rw [show (aQ l).take (min l.length 300)=aQ (l.take 300) from by rw [←ht];unfold aQ;rw [List.map_take]]
 refine nM [] _ (DH (l.take 300) (by rw [List.length_take];omega)) rfl rfl (Lm _) rfl fun σ1 c L1 hle hc=>?_
 subst hc
 refine aE (bP (List.sublist_append_right ..)) ?_
 refine aE (bA (t:=8) (c':= .agg (kB (bG B.σ) (pv (l.take 300)))) rfl fun σ v h=>c6.agg (BR hle _) σ v h) ?_
 repeat' (first|refine am ?_|refine a6 ?_|refine a7 ?_|(apply aM;first|refine LH a5 0 LE ?_|refine LH a5 1 LE ?_|refine LH a5 2 LE ?_|refine LH a5 3 LE ?_|fail))
 exact iH a5 0 [] rfl rfl rfl rfl rfl (List.nil_sublist _) ⟨rfl,rfl⟩
end Go.Proofs.YtpmdfoaadejmkaaGreatDoor
