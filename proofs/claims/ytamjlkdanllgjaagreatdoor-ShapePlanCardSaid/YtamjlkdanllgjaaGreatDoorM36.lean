/-
  few, Same and Items of the laws.
-/
import Derived.Test.YtamjlkdanllgjaaGreatDoorM35
import Derived.Test.YtamjlkdanllgjaaGreatDoorM30
import Derived.Test.YtamjlkdanllgjaaGreatDoorM31
import Derived.Test.YtamjlkdanllgjaaGreatDoorM24
import Derived.Test.YtamjlkdanllgjaaGreatDoorM12
import Derived.ShutString
import Derived.Below
import Derived.Deep.Slices
import Derived.Deep.SlicePairs
import Derived.Lib.SmallJoins
import Derived.Test.YtamjlkdanllgjaaGreatDoorM05
namespace Go.Proofs.YtamjlkdanllgjaaGreatDoor
open Go.RowKit
attribute [local irreducible] AT bF AX AO Av Kt b8 d9 DA cu
set_option maxRecDepth 8000
def nz (x:bv):List Int:=[x.Glyph,x.Cluster,x.Form,x.Advance,x.X,x.Y]
theorem tA {a b:bv} (h:nz a=nz b):a=b:=by
 cases a;cases b
 simpa [nz] using h
instance:DecidableEq bv:=fun a b=>decidable_of_iff (nz a=nz b) ⟨tA,fun h=>by rw [h]⟩
theorem BS:z7 Tryz.prog 56 6:=⟨⟨_,Tryz.underlying56,rfl,⟨by decide,rfl,Tryz.underlying3⟩,⟨by decide,rfl,Tryz.underlying3⟩,⟨by decide,rfl,Tryz.underlying3⟩,⟨by decide,rfl,Tryz.underlying3⟩,⟨by decide,rfl,Tryz.underlying3⟩,⟨by decide,rfl,Tryz.underlying3⟩,trivial⟩,by kernel_rfl,by kernel_rfl⟩
theorem sd (a b:List bv) (ha:a.length≤1000000):bH Tryz.prog 14 [.imm 6 (a.map dw),.imm 6 (b.map dw)] (cU (decide (a=b))):=by
 refine aQ Tryz.func14 rfl Tryz.ntmps14 rfl fun B=>?_
 have hal:(a.map dw).length=a.length:=Ou ..
 have hbl:(b.map dw).length=b.length:=Ou ..
 refine W01 ?_
 refine aw rfl (fun h1=>?_) (fun h1=>?_)
 ·have hne:¬a.length=b.length:=by have:=Oy h1;omega
  rw [decide_eq_false (fun e:a=b=>hne (by rw [e]))]
  refine W01 ?_
  exact OL NZ
 ·have heq:a.length=b.length:=by have:=Ox h1;omega
  clear h1
  refine W03 ?_
  refine aJ [0,1] (α:=Nat) (fun i=>[(5,aG i)]) (fun i=>i≤a.length∧a.take i=b.take i) (fun _=>[]) (fun i=>a.length - i) 0 rfl ⟨rfl,trivial⟩ ⟨Nat.zero_le _,rfl⟩ (fun _ _ h=>h) ?_
  rintro i ⟨hi,hti⟩
  try dsimp only [Oq,Oo,Om,Oh]
  refine W01 ?_
  refine aw rfl (fun h1=>?_) (fun h1=>?_)
  ·have hi2:i < a.length:=by have:=Oy h1;omega
   obtain ⟨g,hg⟩:∃z,a[i]?=some z:=⟨_,Oz hi2⟩
   obtain ⟨x,hx⟩:∃z,b[i]?=some z:=⟨_,Oz (by omega)⟩
   have hgg:(a.map dw)[i]?=some (dw g):=by simp [hg]
   have hxg:(b.map dw)[i]?=some (dw x):=by simp [hx]
   clear h1
   refine W0z ?_
   refine bk 8 [(0,.v),(1,.v),(2,.v),(3,.v),(4,.v),(5,.v),(6,.v),(7,.v)] none ?_ trivial rfl (by kernel_rfl) (by kernel_rfl) (by kernel_rfl) mixed (by kernel_rfl) rfl
   refine W0l ?_
   refine OO [0,1,5,20,24] KN ?_
   refine cz (JE (a:=nz g) (b:=nz x) BS rfl rfl rfl rfl) rfl rfl ?_
   repeat' (first|refine O1 ?_|fail)
   refine aw rfl (fun h1=>?_) (fun h1=>?_)
   ·have hne:¬nz g=nz x:=by
     intro e
     rw [decide_eq_true e] at h1
     cases h1
    rw [decide_eq_false (fun e:a=b=>hne (by rw [e,hx] at hg;cases hg;rfl))]
    refine W01 ?_
    exact OL NZ
   ·have hgx:g=x:=by
     refine tA (Classical.byContradiction fun e=>?_)
     rw [decide_eq_false e] at h1
     cases h1
    refine W02 ?_
    exact aD (i+1) rfl ⟨by rw [Ov];rfl,trivial⟩ ⟨hi2,by rw [List.take_add_one,List.take_add_one,hti,hg,hx,hgx]⟩ (by omega) (fun _ _ h=>h)
  ·have hi2:i=a.length:=by have:=Ox h1;omega
   subst hi2
   rw [List.take_length,heq,List.take_length] at hti
   rw [decide_eq_true hti]
   refine W01 ?_
   exact OL NZ
set_option maxRecDepth 8000
def zr (n:ByteArray) (a:Int):bn:=⟨n,a,false,[],[],[],[],[],[]⟩
def er (gs:List bn) (cs:List dt) (ls:List bf) (fs:List bz):aY:=⟨1000,gs,cs,ls,fs,[],[],[],[]⟩
def KU (gs:List bn):Prop:=∀g∈gs,g=zr g.Name g.Advance
section
variable {gs:List bn} {cs:List dt} {ls:List bf} {fs:List bz} (hg:KU gs)
include hg
theorem sY:kY (er gs cs ls fs).Glyphs.length (prt (er gs cs ls fs)):=by
 refine ⟨fun _=>0,fun g h0 h1 p hp=>?_⟩
 exfalso
 unfold prt at hp
 cases hx:(er gs cs ls fs).Glyphs[g.toNat]? with
 | none=>rw [hx] at hp;cases hp
 | some x=>
  rw [hx] at hp
  have:=hg x (Ow hx)
  dsimp only at hp
  rw [this] at hp
  simp [zr] at hp
theorem B9:l6 (er gs cs ls fs) (fun _=>0) (fun _=>0):=by
 intro z _ _ gl hgl
 rw [hg gl (Ow hgl)]
 exact ⟨rfl,rfl⟩
theorem xu (h0:gs≠[]) (h1:(cZ 400 gs (gn (er gs cs ls fs))).1=0) (h2:(cZ 1000 cs (kc (er gs cs ls fs))).1=0) (h3:(cZ 40 ls (lS (er gs cs ls fs))).1=0) (h4:(cZ 20 fs (lO (er gs cs ls fs))).1=0) (h5:(py gs.length (fun _=>0) (fun _=>0)).1=0):(jC (er gs cs ls fs)).1=0:=by
 refine fU.2 fun x hx=>?_
 have hc:(pz (er gs cs ls fs)).1=0:=by
  rw [vL (md h1) (sY hg) (B9 hg)]
  exact h5
 simp only [Ec,List.mem_cons,List.not_mem_nil,or_false] at hx
 rcases hx with rfl | rfl | rfl | rfl | rfl | rfl | rfl | rfl | rfl | rfl
 ·show mf (er gs cs ls fs)=0
  unfold mf
  rw [if_neg (by simp [er]),if_neg (by simpa [er] using h0)]
 ·exact h1
 ·exact hc
 ·exact h2
 ·exact h3
 ·exact h4
 ·rfl
 ·rfl
 ·rfl
 ·rfl
theorem GE (hl:gs.length≤1000000) (hc:cs.length≤1000000) (h3:ls.length≤1000000∧∀q∈ls,q.Rules.length≤1000000∧∀r∈q.Rules,Jl r) (h4:fs.length≤1000000∧∀q∈fs,q.Lookups.length≤1000000):Jh (er gs cs ls fs):=⟨rfl,rfl,fun g hgm=>by rw [hg g hgm];rfl,⟨hl,fun g hgm=>by
 rw [hg g hgm]
 exact ⟨Nat.zero_le _,Nat.zero_le _,Nat.zero_le _,Nat.zero_le _,Nat.zero_le _⟩⟩,hc,h3,h4,⟨Nat.zero_le _,fun q hq=>by cases hq⟩,Nat.zero_le _⟩
theorem DI (hl:gs.length≤400) (hc:cs.length≤1000):MI (er gs cs [] []):=by
 refine ⟨sY hg,fun _=>GE hg (by omega) (by omega) ⟨Nat.zero_le _,fun q hq=>by cases hq⟩ ⟨Nat.zero_le _,fun q hq=>by cases hq⟩,fun h=>⟨⟨?_,?_⟩,Nat.zero_le _,(fun q hq=>by cases hq),(fun q hq=>by cases hq)⟩⟩
 ·refine Nat.pos_of_ne_zero fun e=>?_
  have:=fU.1 h (mf (er gs cs [] []),0) (by simp [Ec])
  unfold mf at this
  rw [if_neg (by simp [er]),if_pos e] at this
  simp at this
 ·show gs.length≤_
  omega
end
theorem F1 (want:List ByteArray) (f:aY) (h:f.Features=[]):cx want f=[]∧fw want f=[]:=by
 have:cx want f=[]:=by unfold cx bP;rw [h];simp [f8,ng,CT]
 exact ⟨this,by unfold fw;rw [this];rfl⟩
theorem DH {gs:List bn} {cs:List dt} {rs:List Int} {want:List ByteArray} (hr:rs.length≤1000000) (hgl:∀x∈cC (er gs cs [] []) rs,0≤x.Glyph∧x.Glyph < gs.length):KZ (er gs cs [] []) rs want [] (cC (er gs cs [] []) rs):=by
 have hsl:(cC (er gs cs [] []) rs).length≤1000000:=by unfold cC;rw [Ou,(lA rs).1];exact hr
 obtain ⟨h1,h2⟩:=F1 want (er gs cs [] []) rfl
 refine ⟨fun E _ _ _ q hq=>?_,hsl,hgl⟩
 rw [h1,h2]
 exact HX _ q _ hq hsl
theorem GF {gs:List bn} {cs:List dt} {rs:List Int} {want:List ByteArray} (hr:rs.length≤1000000) (hg:qG rs) (hc:cs.length≤1000000):L4 (er gs cs [] []) rs want:=⟨hr,hg,hc,Nat.zero_le _,Nat.zero_le _,fun l hl=>by rw [(F1 want (er gs cs [] []) rfl).1] at hl;cases hl⟩
def Ja:List bn:=[zr ⟨#[46,110,111,116,100,101,102]⟩ 0,zr ⟨#[97]⟩ 500]
def Mj:List dt:=[⟨97,1⟩]
theorem Au:KU Ja:=fun g hg=>by
 unfold Ja at hg
 simp only [List.mem_cons,List.not_mem_nil,or_false] at hg
 rcases hg with rfl | rfl <;> rfl
theorem FJ:(jC (er Ja Mj [] [])).1=0:=xu Au (by simp [Ja]) (by decide) (by decide) (by decide) (by decide) (by decide)
theorem KC:sI (er Ja Mj [] []) [97,98] []=0:=by
 unfold sI
 rw [FJ]
 rfl
theorem FK:cC (er Ja Mj [] []) [97,98]=[⟨1,0,0,0,0,0⟩,⟨0,1,0,0,0,0⟩]:=by kernel_rfl
set_option maxHeartbeats 4000000 in
theorem CE:bH Tryz.prog 7 [] (cU true):=by
 refine aQ Tryz.func7 rfl Tryz.ntmps7 rfl fun B=>?_
 have hsh:=FL (er Ja Mj [] []) (DI Au (by decide) (by decide)) [97,98] [] [] [] (cC (er Ja Mj [] []) [97,98]) (GF (by decide) (BN (by decide)) (by decide)) fun _=>DH (by decide) (by rw [FK];decide)
 unfold KD at hsh
 rw [KC,if_pos rfl,FK] at hsh
 repeat' (first|refine O1 ?_|refine OE a7 KN ?_|(apply aO;first|refine OG 1 a7 0 OD ?_|refine OG 1 a7 1 OD ?_|refine OG 1 a7 2 OD ?_|refine OF a7 0 OC ?_|refine OF a7 1 OC ?_|refine OF a7 2 OC ?_|refine OF a7 3 OC ?_|fail)|refine bi a7 fun _=>?_|refine bO a7 ?_|fail)
 refine bh [] [] (AC.args hsh ?_) rfl rfl (Ok _) rfl fun c L1 ⟨hc,hL⟩=>?_
 ·repeat' first | exact d5.refl _ | exact d5.nil _ | exact True.intro | refine d5.agg ?_ | refine d5.imm ?_ | refine And.intro ?_ ?_
 subst hc;subst hL
 repeat' (first|refine O1 ?_|refine OE a7 KN ?_|refine ON KN ?_|refine bO a7 ?_|fail)
 refine b9 (hc:=⟨sd ([⟨1,0,0,500,0,0⟩,⟨0,1,0,0,0,0⟩]:List bv) [⟨1,0,0,500,0,0⟩,⟨0,1,0,0,0,0⟩] (by decide)⟩) ?_
 rw [show decide (([⟨1,0,0,500,0,0⟩,⟨0,1,0,0,0,0⟩]:List bv)=[⟨1,0,0,500,0,0⟩,⟨0,1,0,0,0,0⟩])=true from decide_eq_true rfl]
 refine W01 ?_
 exact OL NZ
end Go.Proofs.YtamjlkdanllgjaaGreatDoor
namespace Go.Proofs.YtamjlkdanllgjaaGreatDoor
open Go.RowKit
attribute [local irreducible] AT bF AX AO Av Kt b8 d9 DA cu
set_option maxRecDepth 8000
def K5 (v:Int):Int:=bits .and .i64 v 65535
def MT (g:Int) (i:Nat) (v:Int):bv:=⟨(K5 v).tmod (max g 1+1),i,(IntKind.wrap .i64 ((K5 v).tdiv 16)).tmod 5,IntKind.wrap .i64 ((K5 v).tdiv 7),0,0⟩
def IS (g:Int):Nat→List Int→List bv
 | _,[]=>[]
 | i,v::l=>MT g i v::IS g (i+1) l
def Nr (g:Int) (l:List Int):List bv:=IS g 0 (l.take 60)
set_option maxRecDepth 8000
abbrev MX (f:aY):List Bool:=f.Glyphs.map bn.Mark
set_option maxRecDepth 8000
theorem CK (l:List Int):(jU l).length≤20:=by unfold jU;rw [Ou,List.length_take];omega
section
variable {f:aY} (h:pg f) (l:List Int)
include h
end
end Go.Proofs.YtamjlkdanllgjaaGreatDoor
namespace Go.Proofs.YtamjlkdanllgjaaGreatDoor
open Go.RowKit
attribute [local irreducible] AT bF AX AO Av Kt b8 d9 DA cu
set_option maxRecDepth 8000
theorem rV (want:List ByteArray):∀fs:List bz,(bP want fs).length≤(fs.map fun t=>t.Lookups.length).sum
 | []=>Nat.le_refl _
 | t::r=>by
  have:=rV want r
  unfold bP at this ⊢
  rw [Om,List.flatten_cons,List.length_append,Om,List.sum_cons]
  unfold ni at this ⊢
  split
  ·rw [Ou];omega
  ·rw [List.length_nil];omega
theorem Dm (want:List ByteArray):∀fs:List bz,(iF want fs).length≤(fs.map fun t=>t.Lookups.length).sum
 | []=>Nat.le_refl _
 | t::r=>by
  have:=Dm want r
  unfold iF at this ⊢
  rw [Om,List.flatten_cons,List.length_append,Om,List.sum_cons]
  split
  ·omega
  ·rw [List.length_nil];omega
set_option maxHeartbeats 16000000 in
theorem Cf (a0 a1 a2:List Int) (a3:Int) (rl:List Int) (nms:List ByteArray):bH Tryz.prog 3 [.agg [.imm 1 (aL a0),.imm 1 (aL a1),.imm 1 (aL a2),.sc (.int .u16 a3)],.imm 1 (aL rl),.imm 1 (fK nms)] (cU true):=by
 refine aQ Tryz.func3 rfl Tryz.ntmps3 rfl fun B=>?_
 refine cV 2 rfl rfl fun hlen=>?_
 have hnl:=gz nms
 haveI i0:=AD.mk CE
 haveI i1:=AD.mk (BY a0)
 have hG:pg (pJ (a0.take 300)):=HE _
 generalize pJ (a0.take 300)=f at *
 repeat' (first|refine O1 ?_|refine OE a7 KN ?_|(apply aO;first|refine OG 8 a7 0 OD ?_|refine OG 8 a7 1 OD ?_|refine OG 8 a7 2 OD ?_|refine OG 12 a7 0 OD ?_|refine OG 12 a7 1 OD ?_|refine OG 12 a7 2 OD ?_|refine OF a7 0 OC ?_|refine OF a7 1 OC ?_|refine OF a7 2 OC ?_|refine OF a7 3 OC ?_|fail)|refine br ?_|refine bi a7 fun _=>?_|(apply bg;refine b9 ?_)|fail)
 refine bk 8 [(0,.v),(1,.v),(3,.v),(4,.v),(5,.v),(6,.v),(7,.v),(2,.e)] none ?_ trivial rfl (by kernel_rfl) (by kernel_rfl) (by kernel_rfl) mixed (by kernel_rfl) rfl
 refine W06 ?_
 refine GP a7 (min nms.length 8) rfl rfl rfl rfl rfl (by omega) (by omega) trivial ?_
 have ht:nms.take (min nms.length 8)=nms.take 8:=by
  rcases Nat.le_total nms.length 8 with h | h
  ·rw [Nat.min_eq_left h,List.take_length,List.take_of_length_le h]
  ·rw [Nat.min_eq_right h]
 rw [show (fK nms).take (min nms.length 8)=fK (nms.take 8) from by rw [←ht];unfold fK;rw [List.map_take]]
 repeat' (first|refine aE ?_|fail)
 refine ki [] [] (B5 a3) rfl rfl (Ok _) trivial fun c L1 ⟨k,hc,hL⟩=>?_
 subst hc;subst hL
 repeat' (first|fail)
 refine OO [1,3,7,8,21,26] KN ?_
 repeat' (first|fail)
 have hal:=gz (jZ a3 9)
 have hak:=vE a3 9
 have hbl:(fK (nms.take 8)).length≤8:=by rw [gz,List.length_take];omega
 refine bA a7 [] rfl rfl rfl rfl (Ok _) (by omega) (by omega) rfl fun k'=>?_
 rw [show fK (jZ a3 9)++fK (nms.take 8)=fK (jZ a3 9++nms.take 8) by simp [fK]]
 generalize jZ a3 9++nms.take 8=want at *
 refine aX (bq (t:=27) (c':= .imm 1 (fK want)) rfl fun σ v h=>h.im) ?_
 refine aX (bS (L':=[]) (List.nil_sublist _)) ?_
 have hS:=hG.small
 have hF:f.Features.length≤1000000:=by have:=hS.features;omega
 have hsum:(f.Features.map fun t=>t.Lookups.length).sum≤1000000:=by have:=hS.feats;omega
 have p1:=wF f want hF (by have:=rV want f.Features;omega)
 have p2:=Cg f want hF (by have:=Dm want f.Features;omega)
 rw [Ci] at p2
 haveI j1:=AD.mk p1
 haveI j2:=AD.mk p2
 have hpl:(fw want f).length=(cx want f).length:=by unfold fw;rw [Ou]
 have hpi:=aP (cx want f)
 have hpf:=cr (fw want f)
 have hLl:(cx want f).length≤1000000:=by
  have:=g7 (ng (bP want f.Features))
  have:=qn (bP want f.Features)
  have:=rV want f.Features
  unfold cx
  omega
 clear p1 p2
 generalize cx want f=L at *
 generalize fw want f=R at *
 repeat' (first|refine O1 ?_|refine OE a7 KN ?_|(apply aO;first|refine OG 8 a7 0 OD ?_|refine OG 8 a7 1 OD ?_|refine OG 8 a7 2 OD ?_|refine OG 12 a7 0 OD ?_|refine OG 12 a7 1 OD ?_|refine OG 12 a7 2 OD ?_|refine OF a7 0 OC ?_|refine OF a7 1 OC ?_|refine OF a7 2 OC ?_|refine OF a7 3 OC ?_|fail)|refine bi a7 fun _=>?_|(apply bg;refine b9 ?_)|fail)
 rw [show (L==L)=true from beq_self_eq_true L]
 refine W0y ?_
 refine aw rfl (fun h=>by have:=Oy h;exact absurd rfl this) (fun h=>?_)
 clear h
 refine W03 ?_
 refine aJ [1,3,7,8,11,12] (α:=Nat) (fun i=>[(13,aG i)]) (fun i=>i≤R.length) (fun _=>[]) (fun i=>R.length - i) 0 rfl ⟨rfl,trivial⟩ (Nat.zero_le _) (fun _ _ h=>h) fun i hi=>?_
 try dsimp only [Oq,Oo,Om,Oh]
 refine W01 ?_
 refine aw rfl (fun h=>?_) (fun h=>?_)
 ·have hil:i < R.length:=by have:=Oy h;omega
  obtain ⟨y,hy⟩:∃z,R[i]?=some z:=⟨_,Oz hil⟩
  have hyg:=iD hy
  clear h
  refine W0z ?_
  refine bk 9 [(0,.v),(1,.v),(2,.v),(3,.v),(4,.v),(5,.v),(6,.v),(7,.v),(8,.v)] none ?_ trivial rfl (by kernel_rfl) (by kernel_rfl) (by kernel_rfl) mixed (by kernel_rfl) rfl
  refine W0l ?_
  refine OO [1,3,7,8,11,12,13,59,64] KN ?_
  refine W0u ?_
  rw [show (y==y)=true from beq_self_eq_true y]
  refine W0L ?_
  exact aD (i+1) rfl ⟨by rw [Ov];rfl,trivial⟩ hil (by omega) (fun _ _ h=>h)
 have hil:i=R.length:=by have:=Ox h;omega
 subst hil
 clear h
 haveI k1:=AD.mk (FY a1)
 have hTl:=CK a1
 have hCl:f.Chars.length≤1000000:=by have:=hS.chars;omega
 have hfl:(rl.take 30).length≤30:=by rw [List.length_take];omega
 haveI k2:=AD.mk (pV f (rl.take 30) (by omega) hCl)
 haveI k3:=AD.mk (pW f (rl.take 30) (by omega) hCl)
 haveI k4:=AD.mk (pV f (jU a1) (by omega) hCl)
 haveI k5:=AD.mk (pW f (jU a1) (by omega) hCl)
 have hl1:(cC f (rl.take 30)).length≤1000000:=by unfold cC;rw [Ou,(lA _).1];omega
 have hl2:(cC f (jU a1)).length≤1000000:=by unfold cC;rw [Ou,(lA _).1];omega
 haveI k6:=AD.mk (sd (cC f (rl.take 30)) (cC f (rl.take 30)) hl1)
 haveI k7:=AD.mk (sd (cC f (jU a1)) (cC f (jU a1)) hl2)
 generalize cC f (rl.take 30)=s1 at *
 generalize cC f (jU a1)=s2 at *
 refine W0a ?_
 refine bk 18 [(0,.v),(1,.v),(2,.v),(3,.v),(4,.v),(5,.v),(6,.v),(7,.v),(8,.v),(9,.v),(10,.v),(11,.v),(12,.v),(13,.v),(14,.v),(15,.v),(16,.v),(17,.v)] none ?_ trivial rfl (by kernel_rfl) (by kernel_rfl) (by kernel_rfl) mixed (by kernel_rfl) rfl
 refine W0j ?_
 rw [show decide (s1=s1)=true from decide_eq_true rfl]
 refine W0j ?_
 refine OO [82,85,86,87] KN ?_
 refine W1h ?_
 rw [show decide (s2=s2)=true from decide_eq_true rfl]
 exact OL NZ
end Go.Proofs.YtamjlkdanllgjaaGreatDoor
namespace Go.Proofs.YtamjlkdanllgjaaGreatDoor
open Go.ChangeShapes Go.WideShapes Go.ChangeAt Go.RowKit Go.Deep Go.Joins
theorem GT {P:Program} {f:FuncId} {args:List AV} {u:AV} (h:bH P f args u) (L:AL):AC P f args L fun c L'=>c=u∧L'=L:=by
 intro σ w vs hv hs
 refine (h.any L σ w vs hv hs).mono fun en w' ⟨v,τ,c,L',h1,h2,h3,hc,L1,hL⟩=>⟨v,τ,c,L,h1,h2,?_,hc,rfl⟩
 subst hL
 exact h3.sublist (List.sublist_append_right ..)
theorem d4.app {σ:cm}:∀{a b:List AV} {u v:List Value},d4 σ a u→d4 σ b v→d4 σ (a++b) (u++v)
 | [],b,u,v,h,k=>by
  have:u=[]:=List.eq_nil_of_length_eq_zero h.1.symm
  subst this
  exact k
 | c::a,b,u,v,h,k=>by
  obtain ⟨x,u',rfl,h1,h2⟩:=h.inv
  exact d4.cons h1 (h2.app k)
section
variable {H:Type} {enc:TypeId×Value→H} {P:Program} {W:World}
def xc (enc:TypeId×Value→H) (P:Program) (W:World) (t:TypeId) {α:Type} (c:α→List AV):Prop:=
 ∀fuel cs x,DataW.trod enc P W 0 (fun _=>true) true fuel t cs=some x→∃a,d4 (mG W) (c a) cs∧(∀u∈cs,u.oneCell'=true)∧∀u k,cs[0]?=some u→u≠ .int .u8 k
theorem wx {t:TypeId} (ht:P.underlying t=some (.int .i64)):xc enc P W t (fun z:Int=>[aG z]):=fun fuel cs x h=>by
 obtain ⟨z,rfl,-,-⟩:=DataW.trod_int ht h
 exact ⟨z,d4.cons (.sc _) d4.nil,by intro u hu;rw [Oi hu];rfl,fun u k hu=>by simp at hu;subst hu;simp⟩
theorem mK {t e:TypeId} {sz:Nat} {α:Type} [Inhabited α] {c:α→List AV} (hT:∀off u,W.cell? ⟨2,off,none⟩=some u→∃k,u= .int .u8 k) (ht:P.underlying t=some (.slice e)) (hs:P.cellsOf e=sz) (h0:0 < sz) (he:xc enc P W e c) (hc:∀a,(c a).length=sz):
  xc enc P W t (fun l:List α=>[.imm sz (l.map c)]):=fun fuel cs x h=>by
 rcases open_slice ht h with ⟨rfl,rfl⟩ | ⟨a,len,cap,m,n,D,Pl,rfl,_,hlc,hm,hmm,rfl,hx⟩
 ·exact ⟨[],d4.cons (dV sz (.sc _)) d4.nil,by intro u hu;rw [Oi hu];rfl,fun u k hu=>by simp at hu;subst hu;simp⟩
 have hmle:len≤m:=by rw [hmm];split <;> omega
 have each:∀i,i < len→∃q:α×List Value,W.cells? 0 (a.add (i * sz)) sz=some q.2∧d4 (mG W) (c q.1) q.2∧(∀u∈q.2,u.oneCell'=true)∧∀u k,q.2[0]?=some u→u≠ .int .u8 k:=by
  intro i hi
  obtain ⟨cs',h1,h2⟩:=hx i (by omega)
  rw [hs] at h1
  obtain ⟨a',k1,k2,k3⟩:=he n cs' _ h2
  exact ⟨(a',cs'),h1,k1,k2,k3⟩
 obtain ⟨f,hf⟩:=choose_lt each
 refine ⟨(List.range len).map fun i=>(f i).1,d4.cons ?_ d4.nil,by intro u hu;rw [Oi hu];rfl,fun u k hu=>by simp at hu;subst hu;simp⟩
 have hll:(((List.range len).map fun i=>(f i).1).map c).length=len:=by simp
 have hcell:∀i,i < len→∀j,j < sz→W.cell? (a.add (i * sz+j))=(f i).2[j]?:=by
  intro i hi j hj
  have:=(World.cells?_some (hf i hi).1).2.2 j hj
  rw [add_add] at this
  exact this
 have hcl:∀i,i < len→(f i).2.length=sz:=fun i hi=>(World.cells?_some (hf i hi).1).2.1
 have hnone:0 < len→∃b off,a=⟨b,off,none⟩∧b≠2:=by
  intro hp
  have h1:=hcell 0 hp 0 h0
  have h2:=(hf 0 hp).2.2.2
  rw [Nat.zero_mul,Nat.zero_add,Oz (by rw [hcl 0 hp];exact h0)] at h1
  obtain ⟨b,off,sp⟩:=a
  have e:(⟨b,off,sp⟩:Addr).add 0=⟨b,off,sp⟩:=by simp [Addr.add]
  rw [e] at h1
  cases sp with
  | some s=>
   simp only [World.cell?] at h1
   split at h1
   ·simp at h1
   ·cases h1
  | none=>
   refine ⟨b,off,rfl,fun e=>?_⟩
   subst e
   obtain ⟨k,hk⟩:=hT off _ h1
   exact h2 _ k (Oz (by rw [hcl 0 hp];exact h0)) hk
 have hmem:∀b off,a=⟨b,off,none⟩→∀i,i < len→∀j,j < sz→mG W b (off+i * sz+j)=(f i).2[j]?:=by
  intro b off ha i hi j hj
  have:=hcell i hi j hj
  obtain ⟨b',off',ha',hb⟩:=hnone (by omega)
  rw [ha] at this
  have hb0:b≠2:=by
   rw [ha] at ha'
   injection ha' with e1 e2 e3
   rw [e1]
   exact hb
  unfold mG
  rw [if_neg hb0,←this]
  have e:(⟨b,off,none⟩:Addr).add (i * sz+j)=⟨b,off+(i * sz+j),none⟩:=by
   unfold Addr.add
   by_cases h:i * sz+j=0
   ·rw [if_pos h,h,Nat.add_zero]
   ·rw [if_neg h]
  rw [e,Nat.add_assoc]
 have hgo:=VR.imm (σ:=mG W) sz (((List.range len).map fun i=>(f i).1).map c) (some a) cap (by rw [hll];exact hlc) hm (fun e he=>by
   obtain ⟨y,_,rfl⟩:=List.mem_map.1 he
   exact hc y) (fun hne=>by
   have:0 < len:=by
    rcases Nat.eq_zero_or_pos len with h | h
    ·subst h;exact absurd rfl hne
    ·exact h
   obtain ⟨b,off,rfl,_⟩:=hnone this
   exact ⟨b,off,rfl⟩) (fun i b off j hA hi hj=>by
   rw [hll] at hi
   injection hA with hA
   have h1:=hmem b off hA i hi j hj
   have h2:j < (f i).2.length:=by rw [hcl i hi];exact hj
   rw [Oz h2] at h1
   exact ⟨_,h1,(hf i hi).2.2.1 _ (List.getElem_mem h2)⟩) (fun i e b off j c' u hi hA hj hu=>by
   injection hA with hA
   have hil:i < len:=by have:=(Ol hi).1;simpa using this
   rw [List.getElem?_map,List.getElem?_map,List.getElem?_range hil] at hi
   simp only [Option.map_some,Option.some.injEq] at hi
   subst hi
   have hjs:j < sz:=by rw [←hc (f i).1];exact (Ol hj).1
   rw [hmem b off hA i hil j hjs] at hu
   exact (hf i hil).2.1.2 j c' u hj hu)
 rw [hll] at hgo
 exact hgo
theorem p6 (h:W.heap[2]?=some (.cells (lG.map (Value.int .u8)).toArray 481 (0,0))):∀off u,W.cell? ⟨2,off,none⟩=some u→∃k,u= .int .u8 k:=fun off u hu=>by
 rw [dm h,List.getElem?_toArray,List.getElem?_map] at hu
 cases hk:lG[off]? with
 | none=>rw [hk] at hu;cases hu
 | some k=>rw [hk] at hu;exact ⟨k,(Option.some.inj hu).symm⟩
set_option maxRecDepth 100000 in
theorem yr (hT:W.heap[2]?=some (.cells (lG.map (Value.int .u8)).toArray 481 (0,0))) {base:Nat} {v:Value} {d:DataW H} {p:List MemPlace} (hok:Value.okWide Tryz.prog W .any base 22 v) (h:DataW.Trod enc Tryz.prog W 0 (fun _=>true) true 22 v d p):∃l,VR (mG W) (.imm 1 (aL l)) v:=by
 obtain ⟨a0,len,cap,rfl⟩:=okWide_slice Tryz.underlying22 hok
 obtain ⟨fuel,hf⟩:=h
 obtain ⟨l,h1,_⟩:=mK (enc:=enc) (p6 hT) Tryz.underlying22 (by kernel_rfl) Nat.one_pos (wx Tryz.underlying3) (fun _=>rfl) fuel [.slice a0 len cap] _ (by simpa [Value.cells] using hf)
 exact ⟨l,h1.2 0 _ _ rfl rfl⟩
theorem Fa {t:TypeId} (ht:P.underlying t=some (.int .u16)):xc enc P W t (fun z:Int=>[.sc (.int .u16 z)]):=fun fuel cs x h=>by
 obtain ⟨z,rfl,-,-⟩:=DataW.trod_int ht h
 exact ⟨z,d4.cons (.sc _) d4.nil,by intro u hu;rw [Oi hu];rfl,fun u k hu=>by simp at hu;subst hu;simp⟩
theorem Ca {t a b:TypeId} {f0 f1 f2 f3:Field} {α β:Type} {c:α→List AV} {d:β→List AV} (ht:P.underlying t=some (.struct #[f0,f1,f2,f3])) (hN:P.cellsOf t=4) (h0:f0.type=a∧f1.type=a∧f2.type=a∧f3.type=b) (ho:f0.offset=0∧f1.offset=1∧f2.offset=2∧f3.offset=3) (s0:P.cellsOf a=1) (s1:P.cellsOf b=1) (ha:xc enc P W a c) (hb:xc enc P W b d):
  ∀fuel cs x,DataW.trod enc P W 0 (fun _=>true) true fuel t cs=some x→∃p q r s,d4 (mG W) (c p++(c q++(c r++d s))) cs∧(∀u∈cs,u.oneCell'=true):=fun fuel cs x h=>by
 obtain ⟨xs,n,_,_,hl,hlen,hf⟩:=DataW.trod_struct ht h
 rw [hN] at hl
 have hlen:xs.length=4:=hlen
 match xs,hlen with
 | [y0,y1,y2,y3],_=>
  have k0:=hf 0 f0 rfl
  have k1:=hf 1 f1 rfl
  have k2:=hf 2 f2 rfl
  have k3:=hf 3 f3 rfl
  rw [h0.1,ho.1,s0] at k0
  rw [h0.2.1,ho.2.1,s0] at k1
  rw [h0.2.2.1,ho.2.2.1,s0] at k2
  rw [h0.2.2.2,ho.2.2.2,s1] at k3
  match cs,hl with
  | [u0,u1,u2,u3],_=>
   obtain ⟨p,p1,p2,_⟩:=ha n _ _ k0
   obtain ⟨q,q1,q2,_⟩:=ha n _ _ k1
   obtain ⟨r,r1,r2,_⟩:=ha n _ _ k2
   obtain ⟨s,s1,s2,_⟩:=hb n _ _ k3
   refine ⟨p,q,r,s,p1.app (q1.app (r1.app s1)),fun w hw=>?_⟩
   simp only [List.mem_cons,List.not_mem_nil,or_false] at hw
   rcases hw with rfl | rfl | rfl | rfl
   ·exact p2 _ (by simp)
   ·exact q2 _ (by simp)
   ·exact r2 _ (by simp)
   ·exact s2 _ (by simp)
set_option maxRecDepth 100000 in
theorem C9 (hT:W.heap[2]?=some (.cells (lG.map (Value.int .u8)).toArray 481 (0,0))) {base:Nat} {v:Value} {d:DataW H} {p:List MemPlace} (hok:Value.okWide Tryz.prog W .any base 25 v) (h:DataW.Trod enc Tryz.prog W 0 (fun _=>true) true 25 v d p):∃l m k z,VR (mG W) (.agg [.imm 1 (aL l),.imm 1 (aL m),.imm 1 (aL k),.sc (.int .u16 z)]) v:=by
 obtain ⟨cs,rfl,hsz⟩:=okWide_struct Tryz.underlying25 hok
 obtain ⟨fuel,hf⟩:=h
 have o:=mK (enc:=enc) (p6 hT) Tryz.underlying22 (by kernel_rfl) Nat.one_pos (wx Tryz.underlying3) (fun _=>rfl)
 obtain ⟨l,m,k,z,h1,h2⟩:=Ca (enc:=enc) Tryz.underlying25 (by kernel_rfl) ⟨rfl,rfl,rfl,rfl⟩ ⟨rfl,rfl,rfl,rfl⟩ (by kernel_rfl) (by kernel_rfl) o (Fa Tryz.underlying23) fuel cs.toList _ (by simpa [Value.cells] using hf)
 have:=VR.agg (σ:=mG W) _ _ h1.1 h1.2 h2
 exact ⟨l,m,k,z,by simpa [aL] using this⟩
end
end Go.Proofs.YtamjlkdanllgjaaGreatDoor
namespace Go.Proofs.YtamjlkdanllgjaaGreatDoor
open Go.ChangeShapes Go.WideShapes Go.ChangeAt Go.RowKit Go.Deep Go.Joins
section
variable {H:Type} {enc:TypeId×Value→H} {P:Program} {W:World}
theorem F9 {t:TypeId} (ht:P.underlying t=some .string):xc enc P W t (fun z:ByteArray=>[oh z]):=fun fuel cs x h=>by
 obtain ⟨z,rfl,rfl,-⟩:=DataW.trod_string ht h
 exact ⟨z,d4.cons (.sc _) d4.nil,by intro u hu;rw [Oi hu];rfl,fun u k hu=>by simp at hu;subst hu;simp⟩
set_option maxRecDepth 100000 in
theorem yt (hT:W.heap[2]?=some (.cells (lG.map (Value.int .u8)).toArray 481 (0,0))) {base:Nat} {v:Value} {d:DataW H} {p:List MemPlace} (hok:Value.okWide Tryz.prog W .any base 26 v) (h:DataW.Trod enc Tryz.prog W 0 (fun _=>true) true 26 v d p):∃l,VR (mG W) (.imm 1 (fK l)) v:=by
 obtain ⟨a0,len,cap,rfl⟩:=okWide_slice Tryz.underlying26 hok
 obtain ⟨fuel,hf⟩:=h
 obtain ⟨l,h1,_⟩:=mK (enc:=enc) (p6 hT) Tryz.underlying26 (by kernel_rfl) Nat.one_pos (F9 Tryz.underlying9) (fun _=>rfl) fuel [.slice a0 len cap] _ (by simpa [Value.cells] using hf)
 exact ⟨l,h1.2 0 _ _ rfl rfl⟩
end
end Go.Proofs.YtamjlkdanllgjaaGreatDoor
