/-
  What is kept of a glyph, and of characters.
-/
import Derived.Test.YtjjpkibjffmceaaGreatM31
import Derived.Test.YtjjpkibjffmceaaGreatM35
import Derived.Test.YtjjpkibjffmceaaGreatM25
import Derived.Test.YtjjpkibjffmceaaGreatM30
import Derived.Test.YtjjpkibjffmceaaGreatM23
import Derived.Test.YtjjpkibjffmceaaGreatM08
import Derived.Test.YtjjpkibjffmceaaGreatM21
import Derived.Test.YtjjpkibjffmceaaGreatM33
namespace Go.Proofs.YtjjpkibjffmceaaGreat
open Go.RowKit
attribute [local irreducible] AT bW AX AO Av Kt bA eI DA dl
theorem E0 (l:List Int) (n:Nat):(mw l n).Pairwise (· < ·):=by
  unfold mw
  refine List.Pairwise.filter _ (List.pairwise_map.2 ?_)
  exact List.pairwise_lt_range.imp fun h=>Int.ofNat_lt.2 h
theorem Bh (f:aL) (rs:List Int) (fs:List ByteArray):(i8 f rs fs).Pairwise (· < ·):=by
  unfold i8
  rw [mx (sS (f:=f) rs fs).ok]
  exact E0 _ _
section
variable {f:aL} (h:fc f) {rs:List Int} {fs:List ByteArray}
include h
end
end Go.Proofs.YtjjpkibjffmceaaGreat
namespace Go.Proofs.YtjjpkibjffmceaaGreat
open Go.RowKit
attribute [local irreducible] AT bW AX AO Av Kt bA eI DA dl
theorem sh (l k:List Int):bV Tryz.prog 15 [.imm 1 (aZ l),.imm 1 (aZ k)] (.sc (.bool (l==k))):=by
 refine aS Tryz.func15 rfl Tryz.ntmps15 rfl fun B=>?_
 refine cH 0 rfl rfl fun hlen=>?_
 rw [aQ] at hlen
 repeat' (first|refine go ?_|refine HK a6 FS ?_)
 refine ay rfl (fun h=>?_) (fun h=>?_)
 ·have h':=Iy h
  simp only [aQ] at h'
  repeat' (first|refine go ?_|refine HK a6 FS ?_)
  refine HS FS ?_
  rw [show (l==k)=false by rw [beq_eq_false_iff_ne];intro e;subst e;simp at h']
 ·have h':=Ix h
  simp only [aQ] at h'
  have hlk:l.length=k.length:=by omega
  repeat' (first|refine go ?_|refine ak ?_|refine HK a6 FS ?_)
  refine aJ [0,1] (α:=Nat) (fun i=>[(5,.sc (.int .i64 i))]) (fun i=>i≤l.length∧l.take i=k.take i) (fun _=>[]) (fun i=>l.length - i) 0 rfl ⟨rfl,trivial⟩ ⟨Nat.zero_le _,by simp⟩ (fun _ _ h=>h) fun i hi=>?_
  try dsimp only [Ir,Iq,Ip,Ij]
  repeat' (first|refine go ?_|refine HK a6 FS ?_)
  refine ay rfl (fun h=>?_) (fun h=>?_)
  ·have hil:i < l.length:=by have:=Iy h;rw [aQ] at this;omega
   obtain ⟨z,hz⟩:∃z,l[i]?=some z:=⟨_,Iz hil⟩
   obtain ⟨y,hy⟩:∃z,k[i]?=some z:=⟨_,Iz (by omega)⟩
   have hzg:=bT hz
   have hyg:=bT hy
   repeat' (first|refine go ?_|refine ak ?_)
   refine bn 8 [(0,.v),(1,.v),(2,.v),(3,.v),(4,.v),(5,.v),(6,.v),(7,.v)] none ?_ trivial rfl (by kernel_rfl) (by kernel_rfl) (by kernel_rfl) mixed (by kernel_rfl) rfl
   repeat' (first|refine aC ?_|refine b7 a6 ?_|(apply bY;refine cn a6 ?_)|fail)
   refine HU [0,1,5,20,24] FS ?_
   repeat' (first|refine go ?_|refine aa ?_|refine HK a6 FS ?_)
   refine ay rfl (fun h2=>?_) (fun h2=>?_)
   ·have h2':=Iy h2
    repeat' (first|refine go ?_|refine HK a6 FS ?_)
    refine HS FS ?_
    rw [show (l==k)=false by rw [beq_eq_false_iff_ne];intro e;subst e;rw [hz] at hy;injection hy with hy;exact h2' hy]
   ·have h2':=Ix h2
    repeat' (first|refine go ?_|refine HK a6 FS ?_|(apply aW;refine aV ?_)|fail)
    refine aB (i+1) rfl ⟨by rw [Iv];rfl,trivial⟩ ⟨by omega,?_⟩ (by omega) (fun _ _ h=>h)
    rw [List.take_add_one,List.take_add_one,hz,hy,hi.2,Decidable.not_not.1 h2']
  ·have hil:i=l.length:=by have:=Ix h;rw [aQ] at this;omega
   subst hil
   rw [List.take_length,hlk,List.take_length] at hi
   repeat' (first|refine go ?_|refine HK a6 FS ?_)
   refine HS FS ?_
   rw [hi.2,beq_self_eq_true]
theorem uU (l:List Int) (n:Int) (hu:l.Pairwise (· < ·)) (hd:∀z∈l,0≤z∧z < n):bV Tryz.prog 14 [.imm 1 (aZ l),aP n] (cx true):=by
  refine aS Tryz.func14 rfl Tryz.ntmps14 rfl fun B=>?_
  have hil:=aQ l
  refine cH 0 rfl rfl fun hlen=>?_
  repeat' (first|refine go ?_|refine ak ?_|refine HK a6 FS ?_)
  refine aJ [0,1] (α:=Nat) (fun i=>[(5,aP i)]) (fun i=>i≤l.length) (fun _=>[]) (fun i=>l.length - i) 0 rfl ⟨rfl,trivial⟩ (Nat.zero_le _) (fun _ _ h=>h) fun i hi=>?_
  try dsimp only [Ir,Iq,Ip,Ij]
  repeat' (first|refine go ?_|refine HK a6 FS ?_)
  refine ay rfl (fun h=>?_) (fun h=>?_)
  · have hil:i < l.length:=by have:=Iy h;omega
    obtain ⟨z,hz⟩:∃z,l[i]?=some z:=⟨_,Iz hil⟩
    have hzg:=bT hz
    have hzd:=hd z (Iw hz)
    clear h
    repeat' (first|refine go ?_|refine ak ?_)
    by_cases h0:i=0
    · subst h0
      refine bn 27 [(0,.v),(1,.v),(2,.v),(3,.v),(4,.v),(5,.v),(6,.v),(7,.v),(8,.v),(9,.v),(10,.v),(11,.v),(12,.v),(13,.v),(14,.v),(15,.v),(16,.v),(17,.v),(18,.v),(19,.v),(20,.v),(21,.v),(22,.v),(23,.v),(24,.v),(25,.v),(26,.v)] none ?_ trivial rfl (by kernel_rfl) (by kernel_rfl) (by kernel_rfl) mixed (by kernel_rfl) rfl
      repeat' (first|refine aC ?_|refine b7 a6 ?_|(apply bY;refine cn a6 ?_)|fail)
      rw [decide_eq_false (show ¬z < 0 by omega)]
      repeat' (first|refine aC ?_|refine b7 a6 ?_|(apply bY;refine cn a6 ?_)|fail)
      rw [decide_eq_false (show ¬n≤z by omega)]
      repeat' (first|refine aC ?_|refine b7 a6 ?_|refine lK rfl rfl ?_)
      refine HU [0,1,5,25,28,38] FS ?_
      repeat' (first|refine go ?_|refine aa ?_|refine HK a6 FS ?_|refine HV FS ?_|(apply aW;refine aV ?_)|refine bF rfl ?_)
      exact aB 1 rfl ⟨rfl,trivial⟩ (by omega) (by omega) (fun _ _ h=>h)
    · obtain ⟨y,hy⟩:∃z,l[((i:Int) - 1).toNat]?=some z:=⟨_,Iz (by omega)⟩
      have hyg:=bT hy
      have hyz:y < z:=by
        obtain ⟨a1,a2⟩:=Io hz
        obtain ⟨b1,b2⟩:=Io hy
        have:=List.pairwise_iff_getElem.1 hu _ _ b1 a1 (by omega)
        rwa [a2,b2] at this
      refine bn 27 [(0,.v),(1,.v),(2,.v),(3,.v),(4,.v),(5,.v),(6,.v),(7,.v),(8,.v),(9,.v),(10,.v),(11,.v),(12,.v),(13,.v),(14,.v),(15,.v),(16,.v),(17,.v),(18,.v),(19,.v),(20,.v),(21,.v),(22,.v),(23,.v),(24,.v),(25,.v),(26,.v)] none ?_ trivial rfl (by kernel_rfl) (by kernel_rfl) (by kernel_rfl) mixed (by kernel_rfl) rfl
      repeat' (first|refine aC ?_|refine b7 a6 ?_|(apply bY;refine cn a6 ?_)|fail)
      rw [decide_eq_false (show ¬z < 0 by omega)]
      repeat' (first|refine aC ?_|refine b7 a6 ?_|(apply bY;refine cn a6 ?_)|fail)
      rw [decide_eq_false (show ¬n≤z by omega)]
      repeat' (first|refine aC ?_|refine b7 a6 ?_|fail)
      rw [decide_eq_true (show (0:Int) < (i:Int) by omega)]
      repeat' (first|refine aC ?_|refine b7 a6 ?_|(apply fq;refine gK ?_)|(apply bY;refine cn a6 ?_)|fail)
      rw [decide_eq_false (show ¬z≤y by omega)]
      repeat' (first|fail)
      refine HU [0,1,5,25,28,38] FS ?_
      repeat' (first|refine go ?_|refine aa ?_|refine HK a6 FS ?_|refine HV FS ?_|(apply aW;refine aV ?_)|refine bF rfl ?_)
      exact aB (i+1) rfl ⟨by rw [Iv];rfl,trivial⟩ (by omega) (by omega) (fun _ _ h=>h)
  have hil:i=l.length:=by have:=Ix h;omega
  subst hil
  repeat' (first|refine go ?_|refine HK a6 FS ?_)
  exact HT HE
theorem zo (f g:aL) (hf:lW f) (hg:lW g):bV Tryz.prog 16 [cr f,cr g] (cx (decide (x4 f=x4 g))):=by
 refine aS Tryz.func16 rfl Tryz.ntmps16 rfl fun B=>?_
 haveI:H5 f:=⟨hf⟩
 haveI:H5 g:=⟨hg⟩
 repeat' (first|refine go ?_|refine HK a6 FS ?_|refine bh ?_|fail)
 refine bn 3 [(0,.v),(1,.v),(2,.v)] none ?_ trivial rfl (by kernel_rfl) (by kernel_rfl) (by kernel_rfl) mixed (by kernel_rfl) rfl
 repeat' (first|refine aC ?_|refine b7 a6 ?_|(apply bE;refine bS ?_)|fail)
 refine HU [6,7] FS ?_
 repeat' (first|refine go ?_|refine aa ?_|refine HK a6 FS ?_|(apply bq;refine bg ?_)|fail)
 exact HT HE
def FK (c:UInt8):br:=⟨⟨#[c]⟩,0,false,[],[],[],[],[],[]⟩
def px:aL:=⟨1000,[FK 97,FK 98,FK 99],[⟨97,2⟩],[],[],[],[],[],[]⟩
theorem xv:ev px:=by
 unfold ev
 decide
theorem GO (z:Int):prt px z=[]:=by
 unfold prt px
 dsimp only
 generalize z.toNat=n
 rcases n with _ | _ | _ | n <;> rfl
theorem Cf:kG px.Glyphs.length (prt px):=⟨fun _=>0,fun g _ _ p hp=>by rw [GO] at hp;cases hp⟩
theorem va:(cE 400 px.Glyphs (eE px)).1=0:=by decide
theorem FL:n9 px=0:=by decide
theorem E1:(cE 1000 px.Chars (iE px)).1=0:=by decide
theorem FJ:jO px (fun _=>0) (fun _=>0):=by
 intro z h0 h1 gl hgl
 have h1:z < 3:=h1
 have:z=0∨z=1∨z=2:=by omega
 rcases this with rfl | rfl | rfl <;> (injection hgl with e;subst e;exact ⟨by decide,by decide⟩)
theorem E2:(lL px).1=0:=by
 refine ek.2 fun x hx=>?_
 have hc:(mR px).1=0:=by
  rw [pS (jp va) Cf FJ]
  decide
 simp only [B8,List.mem_cons,List.not_mem_nil,or_false] at hx
 rcases hx with rfl | rfl | rfl | rfl | rfl | rfl | rfl | rfl | rfl | rfl
 ·exact FL
 ·exact va
 ·exact hc
 ·exact E1
 ·rfl
 ·rfl
 ·rfl
 ·rfl
 ·rfl
 ·rfl
theorem xu (fs:List ByteArray):cW px fs=[]:=rfl
theorem FM:dW (nd px [97] [])=[0,2]:=by
 rw [mx (sS (f:=px) [97] []).ok]
 unfold nd
 rw [xu]
 decide
theorem GN:lW px:=by
 have hn:NB 0:=⟨by decide,by decide⟩
 have hG:∀c,tA (FK c):=fun c=>⟨by show 1≤50;decide,hn,⟨Nat.zero_le _,fun p hp=>by cases hp⟩,⟨Nat.zero_le _,fun p hp=>by cases hp⟩,⟨Nat.zero_le _,fun p hp=>by cases hp⟩,⟨Nat.zero_le _,fun p hp=>by cases hp⟩,⟨Nat.zero_le _,fun p hp=>by cases hp⟩,⟨Nat.zero_le _,fun p hp=>by cases hp⟩⟩
 refine ⟨⟨by decide,by decide⟩,⟨by decide,fun g hg=>?_⟩,⟨by decide,fun c hc=>?_⟩,⟨Nat.zero_le _,fun p hp=>by cases hp⟩,⟨Nat.zero_le _,fun p hp=>by cases hp⟩,⟨Nat.zero_le _,fun p hp=>by cases hp⟩,⟨Nat.zero_le _,fun p hp=>by cases hp⟩,⟨Nat.zero_le _,fun p hp=>by cases hp⟩,⟨Nat.zero_le _,fun p hp=>by cases hp⟩⟩
 ·simp only [px,List.mem_cons,List.not_mem_nil,or_false] at hg
  rcases hg with rfl | rfl | rfl <;> exact hG _
 ·rw [Ik hc]
  exact ⟨⟨by decide,by decide⟩,⟨by decide,by decide⟩⟩
def xt:aL:=⟨1000,[FK 97,FK 99],[⟨97,1⟩],[],[],[],[],[],[]⟩
theorem Cg:pV px [97] [] [0,2] (cW px [])=xt:=by
 rw [xu]
 rfl
theorem FN:bV Tryz.prog 11 [cr px,jR [97] []] (.tup [cr xt,.imm 1 (aZ [0,2]),aP 0]):=by
 have hg:=rp px xv (fun _=>Cf) [97] []
 unfold n5 at hg
 rw [if_pos E2,if_neg (by decide),FM] at hg
 have h:=qU px GN xv [97] [] [0,2] ⟨by decide,by decide⟩ hg
 rw [Cg] at h
 exact h
theorem GR:ju Tryz.prog 68:=⟨⟨_,_,Tryz.underlying68,⟨by decide,by decide⟩,⟨rfl,rfl⟩,Tryz.underlying3,Tryz.underlying3⟩,by kernel_rfl⟩
set_option maxHeartbeats 2000000 in
theorem zr:bV Tryz.prog 7 [] (cx true):=by
 refine aS Tryz.func7 rfl Tryz.ntmps7 rfl fun B=>?_
 repeat' (first|refine go ?_|refine HK a6 FS ?_|(apply aG;first|refine HN 1 a6 0 HJ ?_|refine HN 1 a6 1 HJ ?_|refine HN 1 a6 2 HJ ?_|refine HN 2 a6 0 HJ ?_|refine HN 2 a6 1 HJ ?_|refine HN 2 a6 2 HJ ?_|refine HM a6 0 HH ?_|refine HM a6 1 HH ?_|refine HM a6 2 HH ?_|refine HM a6 3 HH ?_|fail)|refine aX a6 fun _=>?_|refine bG a6 ?_|fail)
 refine aO (bf (t:=13) (c':=cr px) rfl fun σ v h=>?_) ?_
 ·refine dH.agg ?_ σ v h
  repeat' first | exact dH.refl _ | exact dH.nil _ | exact True.intro | refine dH.agg ?_ | refine dH.imm ?_ | refine And.intro ?_ ?_
 refine aO (bf (t:=15) (c':=jR [97] []) rfl fun σ v h=>?_) ?_
 ·refine dH.agg ?_ σ v h
  repeat' first | exact dH.refl _ | exact dH.nil _ | exact True.intro | refine dH.agg ?_ | refine dH.imm ?_ | refine And.intro ?_ ?_
 refine bg (hc:=⟨FN⟩) ?_
 have g1:(xt.Glyphs.map bC)[1]?=some (bC (FK 99)):=rfl
 have g2:(xt.Chars.map cy)[0]?=some (cy ⟨97,1⟩):=rfl
 repeat' (first|refine go ?_|refine HK a6 FS ?_|refine HV FS ?_|(apply aU;first|refine aT a6 ?_|refine aM a6 ?_)|(apply aG;first|refine HN 1 a6 0 HJ ?_|refine HN 1 a6 1 HJ ?_|refine HN 1 a6 2 HJ ?_|refine HN 2 a6 0 HJ ?_|refine HN 2 a6 1 HJ ?_|refine HN 2 a6 2 HJ ?_|refine HM a6 0 HH ?_|refine HM a6 1 HH ?_|refine HM a6 2 HH ?_|refine HM a6 3 HH ?_|fail)|refine aX a6 fun _=>?_|fail)
 refine BK GR (by kernel_rfl) rfl rfl rfl ?_
 repeat' (first|refine HK a6 FS ?_|refine HV FS ?_|refine bG a6 ?_|fail)
 refine bg (u:=cx true) (hc:=⟨sh [0,2] [0,2]⟩) ?_
 repeat' (first|refine go ?_|refine HK a6 FS ?_)
 exact HT HE
theorem uA {f:aL} (h:fc f) (rs:List Int) (fs:List ByteArray) (hr:rs.any nU=false):bV Tryz.prog 11 [cr f,jR rs fs] (.tup [cr (pV f rs fs (i8 f rs fs) (cW f fs)),.imm 1 (aZ (i8 f rs fs)),aP 0]):=by
 have hg:=rp f h.small (fun _=>h.acyc) rs fs
 unfold n5 at hg
 rw [if_pos h.right,if_neg (by rw [hr];exact fun e=>by cases e)] at hg
 exact qU f h.fpr h.small rs fs (i8 f rs fs) (jA f rs fs) hg
end Go.Proofs.YtjjpkibjffmceaaGreat
namespace Go.Proofs.YtjjpkibjffmceaaGreat
open Go.RowKit
attribute [local irreducible] AT bW AX AO Av Kt bA eI DA dl
open Go.MapKept
theorem gU {q:Nat→Prop} {τ:ce} {L1:AL} (hRaw:∀b off u,q b→τ b off=some u→(b,AB.raw (i9 τ b))∈L1) {b k:Nat} (hq:q b) {us:List Value} (hp:0 < us.length) (hc:∀(j:Nat) (w:Value),us[j]?=some w→τ b (k+j)=some w∧w.oneCell'=true):(b,AB.raw (i9 τ b))∈L1:=
 hRaw b _ _ hq (hc 0 _ (Iz hp)).1
theorem By {f:aL} (h:fc f) (rs:List Int) (fs:List ByteArray) (hr:rs.any nU=false):Cw Tryz.prog 11 [cr f,jR rs fs] fun σ c=>c= .tup [.agg (pR (dp σ) (pV f rs fs (i8 f rs fs) (cW f fs))),.new (dp σ) 1 (aZ (i8 f rs fs)),aP 0]:=by
 have hR:=uT f (fun _=>h.acyc)
 rw [h.right] at hR
 exact wE f h.fpr h.small rs fs (i8 f rs fs) (jA f rs fs) (vm f h.small hR rs hr fs)
theorem y6 {f:aL} {rs:List Int} {fs:List ByteArray} {G K:List Int}:∀l∈(pV f rs fs G K).Lookups,∀r∈l.Rules,∀s∈r.In,0 < s.length:=by
 intro l hl r hr s hs
 obtain ⟨n,_,hn⟩:=List.mem_filterMap.1 hl
 obtain ⟨l0,_,rfl⟩:=Option.map_eq_some_iff.1 hn
 obtain ⟨r0,_,h⟩:=List.mem_filterMap.1 hr
 unfold eh at h
 split at h
 ·cases h
 ·rename_i hh
  cases h
  refine Nat.pos_of_ne_zero fun e=>hh (.inl (.inr (.inl ?_)))
  exact List.any_eq_true.2 ⟨s,hs,by simpa using e⟩
set_option maxHeartbeats 8000000 in
theorem wD (a:CD):bV Tryz.prog 6 [.agg (Aq a)] (cx true):=by
 refine aS Tryz.func6 rfl Tryz.ntmps6 rfl fun B=>?_
 haveI c1:AD Tryz.prog 7 [] (cx true):=⟨zr⟩
 haveI c2:AD Tryz.prog 8 [.imm 1 (aZ a.Font)] (cr (nh (a.Font.take 300))):=⟨yG _⟩
 haveI c3:AD Tryz.prog 9 [.agg (Aq a)] (jR (vC a.Runes) (Aj a.Features)):=⟨uS a⟩
 have hG:=DJ (a.Font.take 300)
 have hrt:∀z∈vC a.Runes,z∈gJ:=fun z hz=>xP hz
 generalize nh (a.Font.take 300)=f at hG c2 ⊢
 generalize vC a.Runes=rs at hrt c3 ⊢
 generalize Aj a.Features=fs at c3 ⊢
 have hb1:rs.any nU=false:=xR fun z hz=> .inl (hrt z hz)
 have hnew:=By hG rs fs hb1
 have hd1:=uA hG rs fs hb1
 have hpr:lW (pV f rs fs (i8 f rs fs) (cW f fs)):=D1 hG.fpr (rX f rs fs) (wr f fs)
 have hsets:=y6 (f:=f) (rs:=rs) (fs:=fs) (G:=i8 f rs fs) (K:=cW f fs)
 have hup:bV Tryz.prog 14 [.imm 1 (aZ (i8 f rs fs)),aP ((f.Glyphs.map bC).length:Nat)] (cx true):=by
  rw [It]
  exact uU (i8 f rs fs) f.Glyphs.length (Bh f rs fs) (jA f rs fs).dom
 have hkl:=rX f rs fs
 have n0:=hG.fpr.glyphs.1
 have e1:=zo f f hG.fpr hG.fpr
 have e2:=sh rs rs
 rw [decide_eq_true rfl] at e1
 rw [beq_self_eq_true] at e2
 generalize pV f rs fs (i8 f rs fs) (cW f fs)=g at hnew hd1 hpr hsets
 generalize i8 f rs fs=G at hnew hd1 hup hkl
 repeat' (first|refine go ?_|refine HK a6 FS ?_|(apply aG;first|refine HN 4 a6 0 HJ ?_|refine HN 4 a6 1 HJ ?_|refine HN 4 a6 2 HJ ?_|refine HN 5 a6 0 HJ ?_|refine HN 5 a6 1 HJ ?_|refine HN 5 a6 2 HJ ?_|refine HN 6 a6 0 HJ ?_|refine HN 6 a6 1 HJ ?_|refine HN 6 a6 2 HJ ?_|refine HN 10 a6 0 HJ ?_|refine HN 10 a6 1 HJ ?_|refine HN 10 a6 2 HJ ?_|refine HN 16 a6 0 HJ ?_|refine HN 16 a6 1 HJ ?_|refine HN 16 a6 2 HJ ?_|refine HN 23 a6 0 HJ ?_|refine HN 23 a6 1 HJ ?_|refine HN 23 a6 2 HJ ?_|refine HM a6 0 HH ?_|refine HM a6 1 HH ?_|refine HM a6 2 HH ?_|refine HM a6 3 HH ?_|fail)|refine bh ?_|refine aX a6 fun _=>?_|(apply bq;refine bg ?_)|fail)
 unfold cr jR at *
 repeat' (first|fail)
 refine yN hnew rfl rfl rfl fun σ1 τ v c0 L1 hc0 hv hRaw=>?_
 subst hc0
 refine aO (ck (L':=L1) (List.sublist_append_left ..)) ?_
 obtain ⟨A1,k1,u2,A3,k3,A4,k4,u5,u6,u7,A8,k8,A9,k9,hT,r1,r3,r4,r8,r9⟩:=Ck hv
 refine aO (bf (t:=35) rfl hT) ?_
 repeat' (first|refine go ?_|refine ak ?_|refine HK a6 FS ?_|(apply aG;first|refine HN 4 a6 0 HJ ?_|refine HN 4 a6 1 HJ ?_|refine HN 4 a6 2 HJ ?_|refine HN 5 a6 0 HJ ?_|refine HN 5 a6 1 HJ ?_|refine HN 5 a6 2 HJ ?_|refine HN 6 a6 0 HJ ?_|refine HN 6 a6 1 HJ ?_|refine HN 6 a6 2 HJ ?_|refine HN 10 a6 0 HJ ?_|refine HN 10 a6 1 HJ ?_|refine HN 10 a6 2 HJ ?_|refine HN 16 a6 0 HJ ?_|refine HN 16 a6 1 HJ ?_|refine HN 16 a6 2 HJ ?_|refine HN 23 a6 0 HJ ?_|refine HN 23 a6 1 HJ ?_|refine HN 23 a6 2 HJ ?_|refine HM a6 0 HH ?_|refine HM a6 1 HH ?_|refine HM a6 2 HH ?_|refine HM a6 3 HH ?_|fail)|refine aX a6 fun _=>?_|fail)
 have n1:=hpr.glyphs.1
 have n3:=hpr.looks.1
 have n4:=hpr.feats.1
 have n8:=hpr.cvt.1
 refine aJ [1,3,4,5,6,7,8] (α:=Nat) (fun i=>[(9,aP i)]) (fun i=>i≤g.Glyphs.length) (fun _=>L1) (fun i=>g.Glyphs.length - i) 0 rfl ⟨rfl,trivial⟩ (Nat.zero_le _) (fun _ _ h=>h) fun i hi=>?_
 try dsimp only [Ir,Iq,Ip,Ij]
 repeat' (first|refine go ?_|refine HK a6 FS ?_)
 refine ay rfl (fun h=>?_) (fun h=>?_)
 ·have hil:i < g.Glyphs.length:=by have:=Iy h;omega
  clear h
  obtain ⟨x,hx⟩:∃w0,g.Glyphs[i]?=some w0:=⟨_,Iz hil⟩
  obtain ⟨b1,off1,us1,rfl,hq1,hl1,hu1,hc1⟩:=r1 i (eR (dp σ1) x) (by rw [List.getElem?_map,hx];rfl)
  have hr1:=gU hRaw hq1 (by omega) hc1
  have hx1:=hpr.glyphs.2 x (Iw hx)
  have m1:=hx1.pts.1
  have m2:=hx1.parts.1
  have m3:=hx1.hint.1
  repeat' (first|refine go ?_|refine ak ?_|refine HK a6 FS ?_|(apply aU;first|refine aT a6 ?_|refine aM a6 ?_)|fail)
  refine qr a6 us1 rfl rfl hr1 hl1 hc1 rfl fun vs hvs=>?_
  obtain ⟨y0,y1,y2,P3,d3,P4,z4,d4,P5,d5,P6,z6,d6,P7,z7,d7,P8,d8,rfl,hs0,p3,p5,p8⟩:=zB hu1 hvs
  repeat' (first|refine go ?_|refine ak ?_|refine HK a6 FS ?_|(apply aG;first|refine HN 4 a6 0 HJ ?_|refine HN 4 a6 1 HJ ?_|refine HN 4 a6 2 HJ ?_|refine HN 5 a6 0 HJ ?_|refine HN 5 a6 1 HJ ?_|refine HN 5 a6 2 HJ ?_|refine HN 6 a6 0 HJ ?_|refine HN 6 a6 1 HJ ?_|refine HN 6 a6 2 HJ ?_|refine HN 10 a6 0 HJ ?_|refine HN 10 a6 1 HJ ?_|refine HN 10 a6 2 HJ ?_|refine HN 16 a6 0 HJ ?_|refine HN 16 a6 1 HJ ?_|refine HN 16 a6 2 HJ ?_|refine HN 23 a6 0 HJ ?_|refine HN 23 a6 1 HJ ?_|refine HN 23 a6 2 HJ ?_|refine HM a6 0 HH ?_|refine HM a6 1 HH ?_|refine HM a6 2 HH ?_|refine HM a6 3 HH ?_|fail)|refine aX a6 fun _=>?_|fail)
  refine aJ [1,3,4,5,6,7,8,9,10] (α:=Nat) (fun i=>[(11,aP i)]) (fun i=>i≤x.Points.length) (fun _=>L1) (fun i=>x.Points.length - i) 0 rfl ⟨rfl,trivial⟩ (Nat.zero_le _) (fun _ _ h=>h) fun k hk=>?_
  try dsimp only [Ir,Iq,Ip,Ij]
  repeat' (first|refine go ?_|refine HK a6 FS ?_)
  refine ay rfl (fun h=>?_) (fun h=>?_)
  ·have hkl:k < x.Points.length:=by have:=Iy h;omega
   clear h
   obtain ⟨e,he⟩:∃w0,x.Points[k]?=some w0:=⟨_,Iz hkl⟩
   obtain ⟨b2,off2,us2,rfl,hq2,hl2,hu2,hc2⟩:=p3 k (cM e) (by rw [List.getElem?_map,he];rfl)
   have hr2:=gU hRaw hq2 (by omega) hc2
   repeat' (first|refine go ?_|refine ak ?_|refine HK a6 FS ?_|(apply aU;first|refine aT a6 ?_|refine aM a6 ?_)|fail)
   refine fh a6 rfl rfl rfl rfl hr2 ((hc2 0 _ (il hu2)).1) ⟨_,rfl⟩ ?_
   repeat' (first|refine go ?_|refine HK a6 FS ?_|(apply aW;refine aV ?_)|fail)
   exact aB (k+1) rfl ⟨by rw [Iv];rfl,trivial⟩ (by omega) (by omega) (fun _ _ h=>h)
  clear h hk
  repeat' (first|refine go ?_|refine ak ?_|refine HK a6 FS ?_)
  refine aJ [1,3,4,5,6,7,8,9,10] (α:=Nat) (fun i=>[(12,aP i)]) (fun i=>i≤x.Parts.length) (fun _=>L1) (fun i=>x.Parts.length - i) 0 rfl ⟨rfl,trivial⟩ (Nat.zero_le _) (fun _ _ h=>h) fun k hk=>?_
  try dsimp only [Ir,Iq,Ip,Ij]
  repeat' (first|refine go ?_|refine HK a6 FS ?_)
  refine ay rfl (fun h=>?_) (fun h=>?_)
  ·have hkl:k < x.Parts.length:=by have:=Iy h;omega
   clear h
   obtain ⟨e,he⟩:∃w0,x.Parts[k]?=some w0:=⟨_,Iz hkl⟩
   obtain ⟨b2,off2,us2,rfl,hq2,hl2,hu2,hc2⟩:=p5 k (cm e) (by rw [List.getElem?_map,he];rfl)
   have hr2:=gU hRaw hq2 (by omega) hc2
   repeat' (first|refine go ?_|refine ak ?_|refine HK a6 FS ?_|(apply aU;first|refine aT a6 ?_|refine aM a6 ?_)|fail)
   refine fh a6 rfl rfl rfl rfl hr2 ((hc2 0 _ (il hu2)).1) ⟨_,rfl⟩ ?_
   repeat' (first|refine go ?_|refine HK a6 FS ?_|(apply aW;refine aV ?_)|fail)
   exact aB (k+1) rfl ⟨by rw [Iv];rfl,trivial⟩ (by omega) (by omega) (fun _ _ h=>h)
  clear h hk
  repeat' (first|refine go ?_|refine ak ?_|refine HK a6 FS ?_)
  refine aJ [1,3,4,5,6,7,8,9,10] (α:=Nat) (fun i=>[(13,aP i)]) (fun i=>i≤x.Hint.length) (fun _=>L1) (fun i=>x.Hint.length - i) 0 rfl ⟨rfl,trivial⟩ (Nat.zero_le _) (fun _ _ h=>h) fun k hk=>?_
  try dsimp only [Ir,Iq,Ip,Ij]
  repeat' (first|refine go ?_|refine HK a6 FS ?_)
  refine ay rfl (fun h=>?_) (fun h=>?_)
  ·have hkl:k < x.Hint.length:=by have:=Iy h;omega
   clear h
   obtain ⟨e,he⟩:∃w0,x.Hint[k]?=some w0:=⟨_,Iz hkl⟩
   obtain ⟨b2,off2,us2,rfl,hq2,hl2,hu2,hc2⟩:=p8 k (dQ e) (by rw [List.getElem?_map,he];rfl)
   have hr2:=gU hRaw hq2 (by omega) hc2
   repeat' (first|refine go ?_|refine ak ?_|refine HK a6 FS ?_|(apply aU;first|refine aT a6 ?_|refine aM a6 ?_)|fail)
   refine fh a6 rfl rfl rfl rfl hr2 ((hc2 0 _ (il hu2)).1) ⟨_,rfl⟩ ?_
   repeat' (first|refine go ?_|refine HK a6 FS ?_|(apply aW;refine aV ?_)|fail)
   exact aB (k+1) rfl ⟨by rw [Iv];rfl,trivial⟩ (by omega) (by omega) (fun _ _ h=>h)
  clear h hk
  repeat' (first|refine go ?_|refine HK a6 FS ?_|(apply aU;first|refine aT a6 ?_|refine aM a6 ?_)|fail)
  refine fh a6 rfl rfl rfl rfl hr1 ((hc1 0 _ hs0).1) ⟨_,rfl⟩ ?_
  repeat' (first|refine go ?_|refine HK a6 FS ?_|(apply aW;refine aV ?_)|fail)
  exact aB (i+1) rfl ⟨by rw [Iv];rfl,trivial⟩ (by omega) (by omega) (fun _ _ h=>h)
 clear h hi
 repeat' (first|refine go ?_|refine ak ?_|refine HK a6 FS ?_)
 refine aJ [1,3,4,5,6,7,8] (α:=Nat) (fun i=>[(14,aP i)]) (fun i=>i≤g.Lookups.length) (fun _=>L1) (fun i=>g.Lookups.length - i) 0 rfl ⟨rfl,trivial⟩ (Nat.zero_le _) (fun _ _ h=>h) fun i hi=>?_
 try dsimp only [Ir,Iq,Ip,Ij]
 repeat' (first|refine go ?_|refine HK a6 FS ?_)
 refine ay rfl (fun h=>?_) (fun h=>?_)
 ·have hil:i < g.Lookups.length:=by have:=Iy h;omega
  clear h
  obtain ⟨x,hx⟩:∃w0,g.Lookups[i]?=some w0:=⟨_,Iz hil⟩
  obtain ⟨b1,off1,us1,rfl,hq1,hl1,hu1,hc1⟩:=r3 i (ec (dp σ1) x) (by rw [List.getElem?_map,hx];rfl)
  have hr1:=gU hRaw hq1 (by omega) hc1
  have hx1:=hpr.looks.2 x (Iw hx)
  have m1:=hx1.rules.1
  obtain ⟨R,dR,hs2,rR⟩:=Cl hu1
  repeat' (first|refine go ?_|refine ak ?_|refine HK a6 FS ?_)
  refine aJ [1,3,4,5,6,7,8,14] (α:=Nat) (fun k=>[(15,aP k)]) (fun k=>k≤x.Rules.length) (fun _=>L1) (fun k=>x.Rules.length - k) 0 rfl ⟨rfl,trivial⟩ (Nat.zero_le _) (fun _ _ h=>h) fun k hk=>?_
  try dsimp only [Ir,Iq,Ip,Ij]
  repeat' (first|refine go ?_|refine HK a6 FS ?_|(apply aU;first|refine aT a6 ?_|refine aM a6 ?_)|fail)
  refine jD a6 rfl rfl hr1 ((hc1 2 _ hs2).1) rfl ?_
  repeat' (first|refine go ?_|refine HK a6 FS ?_)
  refine ay rfl (fun h=>?_) (fun h=>?_)
  ·have hkl:k < x.Rules.length:=by have:=Iy h;omega
   clear h
   obtain ⟨y,hy⟩:∃w0,x.Rules[k]?=some w0:=⟨_,Iz hkl⟩
   obtain ⟨b2,off2,us2,rfl,hq2,hl2,hu2,hc2⟩:=rR k (eD (dp σ1) y) (by rw [List.getElem?_map,hy];rfl)
   have hr2:=gU hRaw hq2 (by omega) hc2
   have hy1:=hx1.rules.2 y (Iw hy)
   have m2:=hy1.ins.1
   have m3:=hy1.out.1
   repeat' (first|refine go ?_|refine ak ?_|refine HK a6 FS ?_|(apply aU;first|refine aT a6 ?_|refine aM a6 ?_)|fail)
   refine jD a6 rfl rfl hr1 ((hc1 2 _ hs2).1) rfl ?_
   repeat' (first|refine HK a6 FS ?_|(apply aU;first|refine aT a6 ?_|refine aM a6 ?_)|fail)
   refine qr a6 us2 rfl rfl hr2 hl2 hc2 rfl fun vs hvs=>?_
   obtain ⟨P0,z0,d0,P1,d1,P2,z2,d2,P3,d3,P4,z4,d4,y5,rfl,p1,p3⟩:=Cm hu2 hvs
   repeat' (first|refine go ?_|refine ak ?_|refine HK a6 FS ?_|(apply aG;first|refine HN 4 a6 0 HJ ?_|refine HN 4 a6 1 HJ ?_|refine HN 4 a6 2 HJ ?_|refine HN 5 a6 0 HJ ?_|refine HN 5 a6 1 HJ ?_|refine HN 5 a6 2 HJ ?_|refine HN 6 a6 0 HJ ?_|refine HN 6 a6 1 HJ ?_|refine HN 6 a6 2 HJ ?_|refine HN 10 a6 0 HJ ?_|refine HN 10 a6 1 HJ ?_|refine HN 10 a6 2 HJ ?_|refine HN 16 a6 0 HJ ?_|refine HN 16 a6 1 HJ ?_|refine HN 16 a6 2 HJ ?_|refine HN 23 a6 0 HJ ?_|refine HN 23 a6 1 HJ ?_|refine HN 23 a6 2 HJ ?_|refine HM a6 0 HH ?_|refine HM a6 1 HH ?_|refine HM a6 2 HH ?_|refine HM a6 3 HH ?_|fail)|refine aX a6 fun _=>?_|fail)
   refine aJ [1,3,4,5,6,7,8,14,15,16] (α:=Nat) (fun i=>[(17,aP i)]) (fun i=>i≤y.In.length) (fun _=>L1) (fun i=>y.In.length - i) 0 rfl ⟨rfl,trivial⟩ (Nat.zero_le _) (fun _ _ h=>h) fun j hj=>?_
   try dsimp only [Ir,Iq,Ip,Ij]
   repeat' (first|refine go ?_|refine HK a6 FS ?_)
   refine ay rfl (fun h=>?_) (fun h=>?_)
   ·have hjl:j < y.In.length:=by have:=Iy h;omega
    clear h
    obtain ⟨s,hs⟩:∃w0,y.In[j]?=some w0:=⟨_,Iz hjl⟩
    obtain ⟨b3,off3,us3,rfl,hq3,hl3,hu3,hc3⟩:=p1 j (fA (dp σ1) s) (by rw [List.getElem?_map,hs];rfl)
    have hr3:=gU hRaw hq3 (by omega) hc3
    obtain ⟨S,dS,hs3,rS⟩:=Eg hu3
    have hsl:=hsets x (Iw hx) y (Iw hy) s (Iw hs)
    obtain ⟨t,ht⟩:∃t,s[0]?=some t:=⟨_,Iz hsl⟩
    obtain ⟨b4,off4,us4,rfl,hq4,hl4,hu4,hc4⟩:=rS 0 [aP t] (bT ht)
    have hr4:=gU hRaw hq4 (by omega) hc4
    repeat' (first|refine go ?_|refine ak ?_|refine HK a6 FS ?_|(apply aU;first|refine aT a6 ?_|refine aM a6 ?_)|fail)
    refine jD a6 rfl rfl hr3 ((hc3 0 _ hs3).1) rfl ?_
    repeat' (first|(apply aU;first|refine aT a6 ?_|refine aM a6 ?_)|fail)
    refine fh a6 rfl rfl rfl rfl hr4 ((hc4 0 _ (il hu4)).1) ⟨_,rfl⟩ ?_
    repeat' (first|refine go ?_|refine HK a6 FS ?_|(apply aW;refine aV ?_)|fail)
    exact aB (j+1) rfl ⟨by rw [Iv];rfl,trivial⟩ (by omega) (by omega) (fun _ _ h=>h)
   clear h hj
   repeat' (first|refine go ?_|refine ak ?_|refine HK a6 FS ?_)
   refine aJ [1,3,4,5,6,7,8,14,15,16] (α:=Nat) (fun i=>[(18,aP i)]) (fun i=>i≤y.Out.length) (fun _=>L1) (fun i=>y.Out.length - i) 0 rfl ⟨rfl,trivial⟩ (Nat.zero_le _) (fun _ _ h=>h) fun j hj=>?_
   try dsimp only [Ir,Iq,Ip,Ij]
   repeat' (first|refine go ?_|refine HK a6 FS ?_)
   refine ay rfl (fun h=>?_) (fun h=>?_)
   ·have hjl:j < y.Out.length:=by have:=Iy h;omega
    clear h
    obtain ⟨t,ht⟩:∃w0,y.Out[j]?=some w0:=⟨_,Iz hjl⟩
    obtain ⟨b3,off3,us3,rfl,hq3,hl3,hu3,hc3⟩:=p3 j [aP t] (bT ht)
    have hr3:=gU hRaw hq3 (by omega) hc3
    repeat' (first|refine go ?_|refine ak ?_|refine HK a6 FS ?_|(apply aU;first|refine aT a6 ?_|refine aM a6 ?_)|fail)
    refine fh a6 rfl rfl rfl rfl hr3 ((hc3 0 _ (il hu3)).1) ⟨_,rfl⟩ ?_
    repeat' (first|refine go ?_|refine HK a6 FS ?_|(apply aW;refine aV ?_)|fail)
    exact aB (j+1) rfl ⟨by rw [Iv];rfl,trivial⟩ (by omega) (by omega) (fun _ _ h=>h)
   clear h hj
   repeat' (first|refine go ?_|refine HK a6 FS ?_|(apply aW;refine aV ?_)|fail)
   exact aB (k+1) rfl ⟨by rw [Iv];rfl,trivial⟩ (by omega) (by omega) (fun _ _ h=>h)
  clear h hk
  repeat' (first|refine go ?_|refine HK a6 FS ?_|(apply aW;refine aV ?_)|fail)
  exact aB (i+1) rfl ⟨by rw [Iv];rfl,trivial⟩ (by omega) (by omega) (fun _ _ h=>h)
 clear h hi
 repeat' (first|refine go ?_|refine ak ?_|refine HK a6 FS ?_)
 refine aJ [1,3,4,5,6,7,8] (α:=Nat) (fun i=>[(19,aP i)]) (fun i=>i≤g.Cvt.length) (fun _=>L1) (fun i=>g.Cvt.length - i) 0 rfl ⟨rfl,trivial⟩ (Nat.zero_le _) (fun _ _ h=>h) fun i hi=>?_
 try dsimp only [Ir,Iq,Ip,Ij]
 repeat' (first|refine go ?_|refine HK a6 FS ?_)
 refine ay rfl (fun h=>?_) (fun h=>?_)
 ·have hil:i < g.Cvt.length:=by have:=Iy h;omega
  clear h
  obtain ⟨t,ht⟩:∃w0,g.Cvt[i]?=some w0:=⟨_,Iz hil⟩
  obtain ⟨b1,off1,us1,rfl,hq1,hl1,hu1,hc1⟩:=r8 i [aP t] (bT ht)
  have hr1:=gU hRaw hq1 (by omega) hc1
  repeat' (first|refine go ?_|refine ak ?_|refine HK a6 FS ?_|(apply aU;first|refine aT a6 ?_|refine aM a6 ?_)|fail)
  refine fh a6 rfl rfl rfl rfl hr1 ((hc1 0 _ (il hu1)).1) ⟨_,rfl⟩ ?_
  repeat' (first|refine go ?_|refine HK a6 FS ?_|(apply aW;refine aV ?_)|fail)
  exact aB (i+1) rfl ⟨by rw [Iv];rfl,trivial⟩ (by omega) (by omega) (fun _ _ h=>h)
 clear h hi
 repeat' (first|refine go ?_|refine ak ?_|refine HK a6 FS ?_)
 refine aJ [1,3,4,5,6,7,8] (α:=Nat) (fun i=>[(20,aP i)]) (fun i=>i≤g.Features.length) (fun _=>L1) (fun i=>g.Features.length - i) 0 rfl ⟨rfl,trivial⟩ (Nat.zero_le _) (fun _ _ h=>h) fun i hi=>?_
 try dsimp only [Ir,Iq,Ip,Ij]
 repeat' (first|refine go ?_|refine HK a6 FS ?_)
 refine ay rfl (fun h=>?_) (fun h=>?_)
 ·have hil:i < g.Features.length:=by have:=Iy h;omega
  clear h
  obtain ⟨x,hx⟩:∃w0,g.Features[i]?=some w0:=⟨_,Iz hil⟩
  obtain ⟨b1,off1,us1,rfl,hq1,hl1,hu1,hc1⟩:=r4 i (dL (dp σ1) x) (by rw [List.getElem?_map,hx];rfl)
  have hr1:=gU hRaw hq1 (by omega) hc1
  have hx1:=hpr.feats.2 x (Iw hx)
  have m1:=hx1.2.1
  obtain ⟨R,dR,hs2,rR⟩:=Cj hu1
  repeat' (first|refine go ?_|refine ak ?_|refine HK a6 FS ?_)
  refine aJ [1,3,4,5,6,7,8,20] (α:=Nat) (fun k=>[(21,aP k)]) (fun k=>k≤x.Lookups.length) (fun _=>L1) (fun k=>x.Lookups.length - k) 0 rfl ⟨rfl,trivial⟩ (Nat.zero_le _) (fun _ _ h=>h) fun k hk=>?_
  try dsimp only [Ir,Iq,Ip,Ij]
  repeat' (first|refine go ?_|refine HK a6 FS ?_|(apply aU;first|refine aT a6 ?_|refine aM a6 ?_)|fail)
  refine jD a6 rfl rfl hr1 ((hc1 1 _ hs2).1) rfl ?_
  repeat' (first|refine go ?_|refine HK a6 FS ?_)
  refine ay rfl (fun h=>?_) (fun h=>?_)
  ·have hkl:k < x.Lookups.length:=by have:=Iy h;omega
   clear h
   obtain ⟨t,ht⟩:∃w0,x.Lookups[k]?=some w0:=⟨_,Iz hkl⟩
   obtain ⟨b2,off2,us2,rfl,hq2,hl2,hu2,hc2⟩:=rR k [aP t] (bT ht)
   have hr2:=gU hRaw hq2 (by omega) hc2
   repeat' (first|refine go ?_|refine ak ?_|refine HK a6 FS ?_|(apply aU;first|refine aT a6 ?_|refine aM a6 ?_)|fail)
   refine jD a6 rfl rfl hr1 ((hc1 1 _ hs2).1) rfl ?_
   repeat' (first|refine HK a6 FS ?_|(apply aU;first|refine aT a6 ?_|refine aM a6 ?_)|fail)
   refine fh a6 rfl rfl rfl rfl hr2 ((hc2 0 _ (il hu2)).1) ⟨_,rfl⟩ ?_
   repeat' (first|refine go ?_|refine HK a6 FS ?_|(apply aW;refine aV ?_)|fail)
   exact aB (k+1) rfl ⟨by rw [Iv];rfl,trivial⟩ (by omega) (by omega) (fun _ _ h=>h)
  clear h hk
  repeat' (first|refine go ?_|refine HK a6 FS ?_|(apply aW;refine aV ?_)|fail)
  exact aB (i+1) rfl ⟨by rw [Iv];rfl,trivial⟩ (by omega) (by omega) (fun _ _ h=>h)
 clear h hi
 repeat' (first|refine go ?_|refine ak ?_|refine HK a6 FS ?_)
 refine aJ [1,3,4,5,7,8] (α:=Nat) (fun i=>[(22,aP i)]) (fun i=>i≤G.length) (fun _=>L1) (fun i=>G.length - i) 0 rfl ⟨rfl,trivial⟩ (Nat.zero_le _) (fun _ _ h=>h) fun i hi=>?_
 try dsimp only [Ir,Iq,Ip,Ij]
 repeat' (first|refine go ?_|refine HK a6 FS ?_)
 refine ay rfl (fun h=>?_) (fun h=>?_)
 ·have hil:i < G.length:=by have:=Iy h;omega
  clear h
  obtain ⟨t,ht⟩:∃w0,G[i]?=some w0:=⟨_,Iz hil⟩
  obtain ⟨b1,off1,us1,rfl,hq1,hl1,hu1,hc1⟩:=r9 i [aP t] (bT ht)
  have hr1:=gU hRaw hq1 (by omega) hc1
  repeat' (first|refine go ?_|refine ak ?_|refine HK a6 FS ?_|(apply aU;first|refine aT a6 ?_|refine aM a6 ?_)|fail)
  refine fh a6 rfl rfl rfl rfl hr1 ((hc1 0 _ (il hu1)).1) ⟨_,rfl⟩ ?_
  repeat' (first|refine go ?_|refine HK a6 FS ?_|(apply aW;refine aV ?_)|fail)
  exact aB (i+1) rfl ⟨by rw [Iv];rfl,trivial⟩ (by omega) (by omega) (fun _ _ h=>h)
 clear h hi
 haveI:=AD.mk hd1
 haveI:=AD.mk hup
 haveI:=AD.mk e1
 haveI:=AD.mk e2
 refine bH (ck (L':=[]) (List.nil_sublist _)) ?_
 repeat' (first|refine go ?_|refine HK a6 FS ?_|(apply aG;first|refine HN 4 a6 0 HJ ?_|refine HN 4 a6 1 HJ ?_|refine HN 4 a6 2 HJ ?_|refine HN 5 a6 0 HJ ?_|refine HN 5 a6 1 HJ ?_|refine HN 5 a6 2 HJ ?_|refine HN 6 a6 0 HJ ?_|refine HN 6 a6 1 HJ ?_|refine HN 6 a6 2 HJ ?_|refine HN 10 a6 0 HJ ?_|refine HN 10 a6 1 HJ ?_|refine HN 10 a6 2 HJ ?_|refine HN 16 a6 0 HJ ?_|refine HN 16 a6 1 HJ ?_|refine HN 16 a6 2 HJ ?_|refine HN 23 a6 0 HJ ?_|refine HN 23 a6 1 HJ ?_|refine HN 23 a6 2 HJ ?_|refine HM a6 0 HH ?_|refine HM a6 1 HH ?_|refine HM a6 2 HH ?_|refine HM a6 3 HH ?_|fail)|refine aX a6 fun _=>?_|(apply bq;refine bg ?_)|fail)
 refine bn 48 [(0,.v),(1,.v),(2,.v),(3,.v),(4,.v),(5,.v),(6,.v),(7,.v),(8,.v),(9,.v),(10,.v),(11,.v),(12,.v),(13,.v),(14,.v),(15,.v),(16,.v),(17,.v),(18,.v),(19,.v),(20,.v),(21,.v),(22,.v),(23,.v),(24,.v),(25,.v),(26,.v),(27,.v),(28,.v),(29,.v),(30,.v),(31,.v),(32,.v),(33,.v),(34,.v),(35,.v),(36,.v),(37,.v),(38,.v),(39,.v),(40,.v),(41,.v),(42,.v),(43,.v),(44,.v),(45,.v),(46,.v),(47,.v)] none ?_ trivial rfl (by kernel_rfl) (by kernel_rfl) (by kernel_rfl) mixed (by kernel_rfl) rfl
 repeat' (first|refine aC ?_|refine b7 a6 ?_|fail)
 rw [show decide ((((aZ G).length:Nat):Int)=((G.length:Nat):Int))=true from decide_eq_true (by rw [aQ])]
 repeat' (first|refine aC ?_|refine b7 a6 ?_|(apply bE;refine bS ?_)|fail)
 refine HU [245] FS ?_
 repeat' (first|refine go ?_|refine aa ?_|refine HK a6 FS ?_)
 exact HS FS (by rw [decide_eq_true rfl])
end Go.Proofs.YtjjpkibjffmceaaGreat
