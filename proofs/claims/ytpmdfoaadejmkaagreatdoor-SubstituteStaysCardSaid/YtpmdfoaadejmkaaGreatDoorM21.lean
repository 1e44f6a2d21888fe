/-
  An engine is made: the walk.
-/
import Derived.Test.YtpmdfoaadejmkaaGreatDoorM20
import Derived.Test.YtpmdfoaadejmkaaGreatDoorM14
import Derived.Test.YtpmdfoaadejmkaaGreatDoorM12
import Derived.Test.YtpmdfoaadejmkaaGreatDoorM18
import Derived.Test.YtpmdfoaadejmkaaGreatDoorM11
namespace Go.Proofs.YtpmdfoaadejmkaaGreatDoor
open Go.RowKit
attribute [local irreducible] AT bv AX AO Av Kt b9 dh DA cE
structure Ev (f:aZ):Prop where
 glyphs:0 < f.Glyphs.length∧f.Glyphs.length≤65536
 lookups:f.Lookups.length≤1000000
 look:∀l∈f.Lookups,ww f.Glyphs.length l
 rule:∀l∈f.Lookups,∀r∈l.Rules,Es r
structure Gf (f:aZ) (E:oz):Prop where
 ls:E.lks.map (·.l)=f.Lookups
 ms:E.ms=f.Glyphs.map bn.Mark
 auto:∀e∈E.lks,1≤e.l.Kind→e.l.Kind≤6→kf e
def If:Option ke→List AV
 | none=>[ea,ea,ea,ea,ea]
 | some a=>Ht a
def Hj:ke:=⟨[],[],[],[],[]⟩
def GZ (l:aN) (a:Option ke) (j:Nat):List AV:=[aF l.Kind,ec l.Ignore,.imm 6 ((iT l).Rules.map bB)]++If a++[aF (fJ (l.Rules.take j)),aF (i6 (l.Rules.take j))]
def yM (l:aN) (a:ke) (j:Nat):List AV:=[aF l.Kind,ec l.Ignore,.imm 6 ((iT l).Rules.map bB),.imm 1 (aT a.cls),.imm 1 (b7 a.fore),.imm 1 (b7 a.back),.imm 1 (gi a.foreE),.imm 1 (gi a.backE),aF (fJ (l.Rules.take j)),aF (i6 (l.Rules.take j))]
theorem BV (l:aN) (a:Option ke) (j:Nat):lz (GZ l a j) (yM l (a.getD Hj) j):=by
 cases a with
 | none=>exact ⟨cx.refl _,cx.refl _,cx.refl _,cx.nil 1,cx.nil 1,cx.nil 1,cx.nil 1,cx.nil 1,cx.refl _,cx.refl _,trivial⟩
 | some a=>exact ⟨cx.refl _,cx.refl _,cx.refl _,cx.refl _,cx.refl _,cx.refl _,cx.refl _,cx.refl _,cx.refl _,cx.refl _,trivial⟩
theorem BW (l:aN) (a:ke):yM l a l.Rules.length=fk (Df l a):=by
 unfold yM
 rw [List.take_length]
 rfl
theorem vE {rs:List bb} {j:Nat} {r:bb} (h:rs[j]?=some r):fJ (rs.take (j+1))=max (fJ (rs.take j)) (r.In.length+r.Ahead.length)∧i6 (rs.take (j+1))=max (i6 (rs.take j)) r.Back.length:=by
 unfold fJ i6
 rw [List.take_add_one,h]
 constructor <;> simp
theorem AW {N:Nat} {rs:List bb} (h:∀r∈rs,t8 N r) (j:Nat):fJ (rs.take j)≤200∧i6 (rs.take j)≤200:=⟨ie (by omega) fun r hr=>(h r (List.mem_of_mem_take hr)).long.2,ie (by omega) fun r hr=>(h r (List.mem_of_mem_take hr)).long.1⟩
theorem xT (l:List Bool) (b:Bool):nf l++[[ec b]]=nf (l++[b]):=by simp [nf]
set_option maxHeartbeats 16000000 in
theorem FV (f:aZ) (h:Ev f) (hck:AC Tryz.prog 25 [cR f] [] fun c _=>∃n:Int,c=ck (0,n)):AC Tryz.prog 15 [cR f] [] fun c _=>∃E,Gf f E∧c= .tup [.iptr (dp E),aF 0]:=by
 refine aL Tryz.func15 rfl Tryz.ntmps15 rfl fun B=>?_
 have hgl:(f.Glyphs.map bG).length=f.Glyphs.length:=Jz ..
 have hll:(f.Lookups.map bC).length=f.Lookups.length:=Jz ..
 obtain ⟨hN0,hN⟩:=h.glyphs
 have hL:=h.lookups
 repeat' (first|refine IT ?_|refine IF a5 G9 ?_|refine bo ?_|fail)
 refine aX [] _ hck rfl rfl (Jt _) rfl fun c1 L1 ⟨n0,hc1⟩=>?_
 subst hc1
 refine aJ (bO (List.sublist_append_right ..)) ?_
 unfold ck
 repeat' (first|refine IT ?_|refine am ?_|refine IF a5 G9 ?_|refine uf (d:=25) fun _=>?_|refine bK rfl ?_)
 rename_i eb
 refine bP (bq 0 (cs':=[.vec none 10 [],.vec none 1 []]) rfl fun σ vs hh=>lz.vrs (a:=[ea,ea]) (b:=[.vec none 10 [],.vec none 1 []]) ⟨fun σ v h=>cL 10 h,fun σ v h=>cL 1 h,trivial⟩ hh) ?_
 refine aO [1,6,27,28] (α:=List oH×Option (Nat×Nat)) (fun s=>[(29,aF s.1.length)]) (fun s=>s.1.length≤f.Lookups.length∧s.1.map (·.l)=f.Lookups.take s.1.length∧∀e∈s.1,1≤e.l.Kind→e.l.Kind≤6→kf e) (fun s=>(eb,.box [.vec s.2 10 (s.1.map fk),.vec none 1 []] 86)::tok s.2 97 10 s.1.length) (fun s=>f.Lookups.length - s.1.length) ([],none) rfl ⟨rfl,trivial⟩ ⟨Nat.zero_le _,rfl,fun e he=>by cases he⟩ (fun _ _ hh=>hh) ?_
 rintro ⟨es,q⟩ ⟨hk,hes,hau⟩
 dsimp only at hk hes hau ⊢
 try dsimp only [Jx,Jw,Jv,Jq]
 repeat' (first|refine IT ?_|refine IF a5 G9 ?_)
 refine ar rfl (fun h1=>?_) (fun h1=>?_)
 ·have hk2:es.length < f.Lookups.length:=by have:=Iy h1;omega
  obtain ⟨l,hl⟩:∃z,f.Lookups[es.length]?=some z:=⟨_,Iz hk2⟩
  have hlg:(f.Lookups.map bC)[es.length]?=some (bC l):=by simp [hl]
  have hlm:=Iw hl
  have hbl:=h.look l hlm
  have hfew:=hbl.few
  haveI:=AD.mk (tJ l (by omega) (h.rule l hlm))
  have hbu:=Ah f es.length l hl hbl hN0 hN
  have hrl:(l.Rules.map bB).length=l.Rules.length:=Jz ..
  clear h1
  repeat' (first|refine IT ?_|refine am ?_|refine IF a5 G9 ?_|(apply aS;first|refine aQ a5 ?_|refine aG a5 ?_)|(apply aK;first|refine IH 8 a5 0 IE ?_|refine IH 8 a5 1 IE ?_|refine IH 8 a5 2 IE ?_|refine IH 10 a5 0 IE ?_|refine IH 10 a5 1 IE ?_|refine IH 10 a5 2 IE ?_|refine IH 13 a5 0 IE ?_|refine IH 13 a5 1 IE ?_|refine IH 13 a5 2 IE ?_|refine IH 15 a5 0 IE ?_|refine IH 15 a5 1 IE ?_|refine IH 15 a5 2 IE ?_|refine IG a5 0 ID ?_|refine IG a5 1 ID ?_|refine IG a5 2 ID ?_|refine IG a5 3 ID ?_|fail)|refine bi a5 fun _=>?_|(apply bk;refine bf ?_)|fail)
  rename_i ob
  refine CY (α:=Option ke) [1,6,8,9,27,28,29] (fun _=>[(1,.iptr (cw f)),(6,fQ eb),(8,.iptr (bC l)),(9,fQ ob),(27,.imm 3 (f.Lookups.map bC)),(28,.sc (.int .i64 ((f.Lookups.map bC).length:Int))),(29,aF es.length)]) (fun a=>(ob,.box (GZ l a 0) 97)::(eb,.box [.vec q 10 (es.map fk),.vec none 1 []] 86)::tok q 97 10 es.length) (fun a=>1≤l.Kind→l.Kind≤6→∃a',a=some a'∧wx f.Glyphs.length l.Rules a') (fun Q' K=>?_) (fun a ha=>?_)
  ·refine ar rfl (fun h1=>?_) (fun h1=>?_)
   ·repeat' (first|refine IT ?_|refine IF a5 G9 ?_)
    refine aX [] _ hbu rfl rfl (Jt _) rfl fun c1 L1 ⟨a,ha,hc1⟩=>?_
    subst hc1
    refine aJ (bO (List.sublist_append_right ..)) ?_
    repeat' (first|refine IT ?_|refine IF a5 G9 ?_|(apply aK;first|refine IH 8 a5 0 IE ?_|refine IH 8 a5 1 IE ?_|refine IH 8 a5 2 IE ?_|refine IH 10 a5 0 IE ?_|refine IH 10 a5 1 IE ?_|refine IH 10 a5 2 IE ?_|refine IH 13 a5 0 IE ?_|refine IH 13 a5 1 IE ?_|refine IH 13 a5 2 IE ?_|refine IH 15 a5 0 IE ?_|refine IH 15 a5 1 IE ?_|refine IH 15 a5 2 IE ?_|refine IG a5 0 ID ?_|refine IG a5 1 ID ?_|refine IG a5 2 ID ?_|refine IG a5 3 ID ?_|fail)|refine bi a5 fun _=>?_|refine bK rfl ?_)
    exact K (some a) _ (fun _ _=>⟨a,rfl,ha⟩) rfl
   ·repeat' (first|refine IT ?_|fail)
    exact K none _ (fun h1' h6=>absurd (Ix h1) (fun hn=>hn ⟨h1',h6⟩)) rfl
  ·have hA:1≤l.Kind→l.Kind≤6→wx f.Glyphs.length l.Rules (a.getD Hj):=fun h1 h6=>by
    obtain ⟨a',rfl,hb⟩:=ha h1 h6
    exact hb
   refine bP (bq 0 (cs':=yM l (a.getD Hj) 0) rfl fun σ vs hh=>(BV l a 0).vrs hh) ?_
   generalize a.getD Hj=A at hA
   clear ha
   repeat' (first|refine IT ?_|refine am ?_|refine IF a5 G9 ?_)
   refine aO [1,6,9,27,28,29,52,53] (α:=Nat) (fun j=>[(54,aF j)]) (fun j=>j≤l.Rules.length) (fun j=>(ob,.box (yM l A j) 97)::(eb,.box [.vec q 10 (es.map fk),.vec none 1 []] 86)::tok q 97 10 es.length) (fun j=>l.Rules.length - j) 0 rfl ⟨rfl,trivial⟩ (Nat.zero_le _) (fun _ _ hh=>hh) fun j hj=>?_
   try dsimp only [Jx,Jw,Jv,Jq]
   repeat' (first|refine IT ?_|refine IF a5 G9 ?_)
   refine ar rfl (fun h1=>?_) (fun h1=>?_)
   ·have hj2:j < l.Rules.length:=by have:=Iy h1;omega
    obtain ⟨r,hr⟩:∃z,l.Rules[j]?=some z:=⟨_,Iz hj2⟩
    have hrg:(l.Rules.map bB)[j]?=some (bB r):=by simp [hr]
    have hlong:=(hbl.rule r (Iw hr)).long
    have hl1:=cn r.In
    have hl2:=cn r.Ahead
    have hl3:=cn r.Back
    obtain ⟨hfb,hbb⟩:=AW hbl.rule j
    obtain ⟨hfs,hbs⟩:=vE hr
    clear h1
    repeat' (first|refine IT ?_|refine am ?_|refine IF a5 G9 ?_|(apply bw;first|refine II a5 0 IC ?_|refine II a5 1 IC ?_|refine II a5 2 IC ?_|refine II a5 3 IC ?_|refine IJ a5 0 IC ?_|refine IJ a5 1 IC ?_|refine IJ a5 2 IC ?_|refine IK a5 1 IA (by assumption) rfl ?_|refine IK a5 0 IA (by assumption) rfl ?_|fail)|(apply aV;refine aU ?_)|(apply aS;first|refine aQ a5 ?_|refine aG a5 ?_)|(apply aK;first|refine IH 8 a5 0 IE ?_|refine IH 8 a5 1 IE ?_|refine IH 8 a5 2 IE ?_|refine IH 10 a5 0 IE ?_|refine IH 10 a5 1 IE ?_|refine IH 10 a5 2 IE ?_|refine IH 13 a5 0 IE ?_|refine IH 13 a5 1 IE ?_|refine IH 13 a5 2 IE ?_|refine IH 15 a5 0 IE ?_|refine IH 15 a5 1 IE ?_|refine IH 15 a5 2 IE ?_|refine IG a5 0 ID ?_|refine IG a5 1 ID ?_|refine IG a5 2 ID ?_|refine IG a5 3 ID ?_|fail)|refine bi a5 fun _=>?_|fail)
    refine aC (j+1) rfl ⟨by rw [Iv];rfl,trivial⟩ hj2 (by omega) (fun _ _ hh=>?_)
    have e1:((max (fJ (l.Rules.take j)) (r.In.length+r.Ahead.length):Nat):Int)=max ((fJ (l.Rules.take j):Nat):Int) (((b7 r.In).length:Int)+((b7 r.Ahead).length:Int)):=by omega
    have e2:((max (i6 (l.Rules.take j)) r.Back.length:Nat):Int)=max ((i6 (l.Rules.take j):Nat):Int) ((b7 r.Back).length:Int):=by omega
    unfold yM
    rw [hfs,hbs,e1,e2]
    exact hh
   ·have hj2:j=l.Rules.length:=by have:=Ix h1;omega
    subst hj2
    rw [BW]
    clear h1
    have hel:(es.map fk).length=es.length:=Jz ..
    have hsn:es.map fk++[fk (Df l A)]=(es++[Df l A]).map fk:=by rw [List.map_append];rfl
    repeat' (first|refine IT ?_|fail)
    refine bA 8 [(0,.v),(1,.v),(2,.v),(3,.v),(4,.l),(5,.l),(6,.v),(7,.e)] none ?_ trivial rfl (by kernel_rfl) (by kernel_rfl) (by kernel_rfl) bU (by kernel_rfl) rfl
    repeat' (first|refine aD ?_|refine b8 a5 ?_|refine dR a5 ?_|refine bZ a5 1 rfl rfl rfl rfl (by first|trivial|rfl) ?_|refine oO a5 0 rfl rfl rfl rfl (by first|trivial|rfl) ?_)
    refine eV a5 [(ob,.box (fk (Df l A)) 97),(eb,.box [.vec q 10 (es.map fk),.vec none 1 []] 86)] rfl rfl rfl rfl (by rw [hel];exact List.perm_append_comm (l₁:=[_,_])) (by rw [hel];simp;omega) (by rw [hel];simp;omega) trivial fun q'=>?_
    repeat' (first|fail)
    refine IQ [1,6,27,28,29,77,84] G9 ?_
    refine aJ (aI (L':=(ob,.box (fk (Df l A)) 97)::(eb,.box [.vec q 10 (es.map fk),.vec none 1 []] 86)::tok q' 97 10 (es.map fk++[fk (Df l A)]).length) (List.perm_append_comm (l₂:=[_,_]))) ?_
    repeat' (first|refine IT ?_|refine IF a5 G9 ?_|(apply aV;refine aU ?_)|(apply aK;first|refine IH 8 a5 0 IE ?_|refine IH 8 a5 1 IE ?_|refine IH 8 a5 2 IE ?_|refine IH 10 a5 0 IE ?_|refine IH 10 a5 1 IE ?_|refine IH 10 a5 2 IE ?_|refine IH 13 a5 0 IE ?_|refine IH 13 a5 1 IE ?_|refine IH 13 a5 2 IE ?_|refine IH 15 a5 0 IE ?_|refine IH 15 a5 1 IE ?_|refine IH 15 a5 2 IE ?_|refine IG a5 0 ID ?_|refine IG a5 1 ID ?_|refine IG a5 2 ID ?_|refine IG a5 3 ID ?_|fail))
    have hll2:(es++[Df l A]).length=es.length+1:=by simp
    refine aC (es++[Df l A],q') rfl ⟨by dsimp only;rw [hll2,Iv];rfl,trivial⟩ ⟨by dsimp only;omega,?_,?_⟩ (by dsimp only;omega) (fun σ w hh=>?_)
    ·dsimp only
     rw [List.map_append,hes,hll2,List.take_add_one,hl]
     rfl
    ·intro e he h1 h6
     rw [List.mem_append,List.mem_singleton] at he
     rcases he with he | rfl
     ·exact hau e he h1 h6
     ·exact D2 hbl (hA h1 h6)
    ·have h2:=hh.sublist (List.sublist_cons_self ..)
     rw [hsn,Jz] at h2
     dsimp only
     rw [←hsn]
     exact h2
 ·have hk2:es.length=f.Lookups.length:=by have:=Ix h1;omega
  rw [hk2,List.take_length] at hes
  clear h1
  repeat' (first|refine IT ?_|refine am ?_|refine IF a5 G9 ?_)
  refine aO [6,89,90] (α:=Nat×Option (Nat×Nat)) (fun s=>[(91,aF s.1)]) (fun s=>s.1≤f.Glyphs.length) (fun s=>(eb,.box [.vec q 10 (es.map fk),.vec s.2 1 (nf ((f.Glyphs.map bn.Mark).take s.1))] 86)::(tok q 97 10 es.length++tok s.2 4 1 s.1)) (fun s=>f.Glyphs.length - s.1) (0,none) rfl ⟨rfl,trivial⟩ (Nat.zero_le _) (fun σ w hh=>by show cX B σ ((eb,.box [.vec q 10 (es.map fk),.vec none 1 []] 86)::(tok q 97 10 es.length++[])) w;rw [List.append_nil];exact hh) ?_
  rintro ⟨k,q2⟩ hk3
  dsimp only at hk3 ⊢
  try dsimp only [Jx,Jw,Jv,Jq]
  repeat' (first|refine IT ?_|refine IF a5 G9 ?_)
  refine ar rfl (fun h1=>?_) (fun h1=>?_)
  ·have hk4:k < f.Glyphs.length:=by have:=Iy h1;omega
   obtain ⟨g,hg⟩:∃z,f.Glyphs[k]?=some z:=⟨_,Iz hk4⟩
   have hgg:(f.Glyphs.map bG)[k]?=some (bG g):=by simp [hg]
   have hbl:(nf ((f.Glyphs.map bn.Mark).take k)).length=k:=by rw [tD,List.length_take,Jz];omega
   have hbs:(f.Glyphs.map bn.Mark).take (k+1)=(f.Glyphs.map bn.Mark).take k++[g.Mark]:=by rw [List.take_add_one,List.getElem?_map,hg];rfl
   have hsn:=xT ((f.Glyphs.map bn.Mark).take k) g.Mark
   rw [←hbs] at hsn
   generalize nf ((f.Glyphs.map bn.Mark).take k)=bl at *
   clear h1
   repeat' (first|refine IT ?_|refine am ?_|refine IF a5 G9 ?_|(apply aS;first|refine aQ a5 ?_|refine aG a5 ?_)|(apply aK;first|refine IH 8 a5 0 IE ?_|refine IH 8 a5 1 IE ?_|refine IH 8 a5 2 IE ?_|refine IH 10 a5 0 IE ?_|refine IH 10 a5 1 IE ?_|refine IH 10 a5 2 IE ?_|refine IH 13 a5 0 IE ?_|refine IH 13 a5 1 IE ?_|refine IH 13 a5 2 IE ?_|refine IH 15 a5 0 IE ?_|refine IH 15 a5 1 IE ?_|refine IH 15 a5 2 IE ?_|refine IG a5 0 ID ?_|refine IG a5 1 ID ?_|refine IG a5 2 ID ?_|refine IG a5 3 ID ?_|fail)|refine bi a5 fun _=>?_|fail)
   refine bA 9 [(0,.v),(1,.v),(2,.v),(3,.v),(4,.l),(5,.v),(6,.v),(7,.v),(8,.e)] none ?_ trivial rfl (by kernel_rfl) (by kernel_rfl) (by kernel_rfl) bU (by kernel_rfl) rfl
   repeat' (first|refine aD ?_|refine b8 a5 ?_|refine dR a5 ?_|refine bZ a5 0 rfl rfl rfl rfl (by first|trivial|rfl) ?_)
   refine eV a5 ((eb,.box [.vec q 10 (es.map fk),.vec q2 1 bl] 86)::tok q 97 10 es.length) rfl rfl rfl rfl (by rw [hbl];exact (List.perm_append_comm (l₁:=_::tok q 97 10 es.length))) (by rw [hbl];simp;omega) (by rw [hbl];simp;omega) trivial fun q'=>?_
   repeat' (first|fail)
   refine IQ [6,89,90,91,95,103] G9 ?_
   refine aJ (aI (L':=(eb,.box [.vec q 10 (es.map fk),.vec q2 1 bl] 86)::(tok q 97 10 es.length++tok q' 4 1 (k+1))) (by rw [List.length_append,hbl];exact (List.perm_append_comm (l₂:=_::tok q 97 10 es.length)))) ?_
   repeat' (first|refine IT ?_|refine IF a5 G9 ?_|(apply aV;refine aU ?_)|(apply aK;first|refine IH 8 a5 0 IE ?_|refine IH 8 a5 1 IE ?_|refine IH 8 a5 2 IE ?_|refine IH 10 a5 0 IE ?_|refine IH 10 a5 1 IE ?_|refine IH 10 a5 2 IE ?_|refine IH 13 a5 0 IE ?_|refine IH 13 a5 1 IE ?_|refine IH 13 a5 2 IE ?_|refine IH 15 a5 0 IE ?_|refine IH 15 a5 1 IE ?_|refine IH 15 a5 2 IE ?_|refine IG a5 0 ID ?_|refine IG a5 1 ID ?_|refine IG a5 2 ID ?_|refine IG a5 3 ID ?_|fail))
   exact aC (k+1,q') rfl ⟨by rw [Iv];rfl,trivial⟩ hk4 (by dsimp only;omega) (fun _ _ hh=>by dsimp only;rw [←hsn];exact hh)
  ·have hk4:k=f.Glyphs.length:=by have:=Ix h1;omega
   subst hk4
   rw [List.take_of_length_le (by rw [Jz];exact Nat.le_refl _)]
   clear h1
   repeat' (first|refine IT ?_|refine IF a5 G9 ?_)
   refine bh (bq 0 (cs':=dp ⟨es,f.Glyphs.map bn.Mark⟩) rfl fun σ vs hh=>lz.vrs (a:=[.vec q 10 (es.map fk),.vec q2 1 (nf (f.Glyphs.map bn.Mark))]) (b:=dp ⟨es,f.Glyphs.map bn.Mark⟩) ⟨fun σ v h=>VR.im h,fun σ v h=>VR.im h,trivial⟩ hh) ?_
   refine bh (qE (t:=2) (cs:=dp ⟨es,f.Glyphs.map bn.Mark⟩) 0 rfl rfl rfl) ?_
   refine eP (List.nil_sublist _) ?_
   exact IS IA ⟨⟨es,f.Glyphs.map bn.Mark⟩,⟨hes,rfl,hau⟩,rfl⟩
def fc:Nat→List Int→List aM
 | _,[]=>[]
 | i,g::l=>⟨g,i,0,0,0,0⟩::fc (i+1) l
def eL (l:List Int):List aM:=fc 0 l
def jM:List Bool:=[false,false,false,false,true]
def GO (ig:Bool):List aN:=[⟨3,ig,[⟨[],[[0],[1]],[],[2],[],0⟩]⟩]
def sC (a b c:Nat):List Int:=List.replicate a 4++0::(List.replicate b 4++1::List.replicate c 4)
def ue (a b c:Nat) (ig:Bool):List Int:=if 0 < b∧ig=false then sC a b c else List.replicate a 4++2::(List.replicate b 4++List.replicate c 4)
def Bz (a b c:Nat) (ig:Bool):Bool:=
 let out:=da jM (GO ig) 0 (eL (sC a b c)) []
 (out.map aM.Glyph==ue a b c ig) && (decide ((ue a b c ig).length=(sC a b c).length) || (match out[a]? with | some x=>decide (x.Cluster=a) | none=>false))
def Hi:Bool:=(List.range 8).all fun a=>(List.range 8).all fun b=>(List.range 8).all fun c=>Bz a b c true && Bz a b c false
def H5:bb:=⟨[],[[0]],[[1]],[1],[],0⟩
def DY:List aN:=[⟨5,false,[H5]⟩,⟨1,false,[H5]⟩]
def C3 (n:Nat):List Int:=List.replicate n 0++[1]
def G3 (n:Nat):List Int:=(List.range (n+1)).map fun (k:Nat)=>if (n:Int) - 1≤(k:Int) then (1:Int) else 0
def Io (n:Nat):Bool:=((da jM DY 0 (eL (C3 n)) []).map aM.Glyph==List.replicate (n+1) 1) && ((da jM DY 1 (eL (C3 n)) []).map aM.Glyph==G3 n)
def GC (k:Nat):List aN:=[⟨4,false,[⟨[],[[0]],[],[],[⟨0,1⟩,⟨0,2⟩,⟨0,0⟩],0⟩]⟩,⟨1,false,[⟨[],[[0]],[],[2],[],0⟩]⟩,⟨2,false,[⟨[],[[2]],[],List.replicate k 1,[],0⟩]⟩]
def I0 (n k:Nat):Bool:=
 let out:=da jM (GC k) 0 (eL (List.replicate n 0)) []
 if k=0 then decide (out.length < n) else out.map aM.Glyph==List.replicate (n * k) 1
end Go.Proofs.YtpmdfoaadejmkaaGreatDoor
namespace Go.Proofs.YtpmdfoaadejmkaaGreatDoor
open Go.RowKit
attribute [local irreducible] AT bv AX AO Av Kt b9 dh DA cE
open Go.MapKept
section
variable {P:Program} {r:Option Nat} {ops:Array Oper} {Q:Exit→Act→World→Prop} {nt:Nat} {D:List Deferred} {fr:bW} {B:Bs} {L:AL} {rest:List Oper} {d:Nat} {ty t:TypeId} {pos:String} {af:Array Edge} {x y z:Operand} {u:AV} {cd:Code}
theorem j8 {f:FuncId} {args:Array Operand} {ts:Array TypeId} {cs caps:List AV} {v:AV} [bD P f] (hc:bN P f (cs++caps) v) (hx:bc fr x=some u) (hu:k8 u=some (f,caps)) (hv:ei fr args.toList=some cs) (hn:Oper.noDefer ⟨some d,.call ⟨.value x,args,ts⟩,ty,pos,af,none⟩=true) (hd:Nat.ble nt d=false) (h:bv P r ops Q nt D rest ((d,v)::fr) B L):
  bv P r ops Q nt D (⟨some d,.call ⟨.value x,args,ts⟩,ty,pos,af,none⟩::rest) fr B L:=
 dk [] L hc hx hu hv (Jt _) hn hd fun c L1 hc=>by
  have hc':c=v:=hc
  subst hc'
  exact aJ (bO (List.sublist_append_right ..)) h
theorem D1 (t:Nat) {u:AV} {s:Nat} {l:List (List AV)} (hl:c6 fr t=some u) (hu:io u=some (s,l)) (h:l.length≤9223372036854775807→bv P r ops Q nt D rest fr B L):bv P r ops Q nt D rest fr B L:=
 D0 (fun σ a w ha _=>(Be (ha.look t u hl) hu).1) h
end
def u7 (t:bV) (i:Nat) (l:Int):Bool:=match i with | 0=>false | j+1=>match t.Lookups[j]? with | some b=>decide (l≤b) | none=>false
def oP (f:aZ) (t:bV) (i:Nat) (l:Int):Int:=dK (decide (l < 0∨l≥f.Lookups.length) || u7 t i l) 43
set_option maxHeartbeats 1000000 in
theorem yg (f:aZ) (t:bV) (i:Nat) (l:Int) (hl:t.Lookups[i]?=some l) (hn:t.Lookups.length≤9223372036854775807):bN Tryz.prog 144 [aF i,aF l,.iptr (cw f),.iptr (cf t)] (aF (oP f t i l)):=by
 refine aL Tryz.func144 rfl Tryz.ntmps144 rfl fun B=>?_
 have hil:=(Ju hl).1
 unfold oP
 cases i with
 | zero=>
  repeat' (first|refine IT ?_|refine IF a5 G9 ?_)
  refine df (t:=7) [] (l < 0∨l≥f.Lookups.length) rfl (fun Q' K=>?_) ?_
  ·repeat' (first|refine IT ?_|refine IF a5 G9 ?_|refine IM G9 ?_|refine IP IB ?_|refine dm rfl rfl rfl ?_|refine IR IA (fun _=>?_) (fun _=>?_))
   all_goals exact K _ _ rfl rfl (by clear K;simp_all <;> omega)
  repeat' (first|refine IT ?_|refine IF a5 G9 ?_|(apply bk;refine bf ?_)|fail)
  refine IL G9 ?_
  simp [u7]
 | succ j=>
  obtain ⟨b,hb⟩:∃b,t.Lookups[j]?=some b:=⟨_,Iz (by omega)⟩
  have hbg:(aT t.Lookups)[(((j+1:Nat):Int) - 1).toNat]?=some [aF b]:=by rw [show (((j+1:Nat):Int) - 1).toNat=j by omega];exact bR hb
  have hlt:u7 t (j+1) l=decide (l≤b):=by simp [u7,hb]
  have hpos:decide (0 < ((j+1:Nat):Int))=true:=decide_eq_true (by omega)
  rw [hlt]
  repeat' (first|refine IT ?_|refine IF a5 G9 ?_)
  refine df (t:=7) [] ((l < 0∨l≥f.Lookups.length)∨l≤b) rfl (fun Q' K=>?_) ?_
  ·repeat' (first|refine IT ?_|refine IF a5 G9 ?_|refine IM G9 ?_|refine IP IB ?_|refine dm rfl rfl rfl ?_|(apply aV;refine aU ?_)|(apply aS;first|refine aQ a5 ?_|refine aG a5 ?_)|refine IR IA (fun _=>?_) (fun _=>?_))
   all_goals exact K _ _ rfl rfl (by clear K;simp_all <;> omega)
  repeat' (first|refine IT ?_|refine IF a5 G9 ?_|(apply bk;refine bf ?_)|fail)
  refine IL G9 ?_
  rw [Bool.decide_or]
def tS (f:aZ) (t:bV) (name:Int):Int:=if name≠0 then name else (cV t.Lookups (oP f t)).1
theorem tT (f:aZ) (t:bV) (name:Int):bN Tryz.prog 65 [cR f,.agg (cf t),aF name] (aF (tS f t name)):=by
 refine aL Tryz.func65 rfl Tryz.ntmps65 rfl fun B=>?_
 unfold tS
 repeat' (first|refine IT ?_|refine IF a5 G9 ?_|refine bo ?_|fail)
 refine ar rfl (fun h=>?_) (fun h=>?_)
 ·rw [if_pos (Iy h)]
  repeat' (first|refine IT ?_|refine IF a5 G9 ?_)
  exact IN IA
 rw [if_neg (Ix h)]
 repeat' (first|refine IT ?_|refine IF a5 G9 ?_)
 refine D1 14 rfl rfl fun hlen=>?_
 rw [b6] at hlen
 refine aX [] [] (md (u:= .fn 144 [.iptr (cw f),.iptr (cf t)]) (g:=144) rfl t.Lookups _ (fun _ _=>True) [] trivial (d4 (fun i x hx=>yg f t i x hx (by omega)))) rfl rfl (Jt _) rfl fun c L1 hc=>?_
 have hc:c=ck (cV t.Lookups (oP f t)):=hc
 subst hc
 unfold ck
 repeat' (first|refine IT ?_|refine IF a5 G9 ?_)
 exact IN IA
instance (f:aZ) (t:bV) (name:Int):AD Tryz.prog 65 [cR f,.agg (cf t),aF name] (aF (tS f t name)):=⟨tT f t name⟩
def cU (names:List ByteArray) (s:ByteArray):Option Nat:=names.findIdx? (fun x=>decide (x=s))
def cH (names:List ByteArray) (v:Value):Option AV:=match v with
 | .string s=>(cU names s).map fun (n:Nat)=>aF (n:Int)
 | _=>none
theorem jD {names:List ByteArray} {i:Nat} {s:ByteArray} (h:names[i]?=some s) (q:ByteArray):cU (names.take (i+1)) q=match cU (names.take i) q with | some n=>some n | none=>if s=q then some i else none:=by
 unfold cU
 have hlt:=(Ju h).1
 have hlen:(names.take i).length=i:=by rw [List.length_take];omega
 rw [List.take_add_one,h,Option.toList_some,List.findIdx?_append,hlen]
 cases List.findIdx? (fun x=>decide (x=q)) (names.take i) with
 | some n=>rfl
 | none=>
  by_cases e:s=q
  ·simp [e]
  ·simp [e]
theorem lF:cH []=fun _=>none:=by
 funext v
 cases v <;> rfl
theorem ky {names:List ByteArray} {s:ByteArray}:(cH names (.string s)).isSome=(cU names s).isSome:=by
 show (Option.map (fun n:Nat=>aF (n:Int)) (cU names s)).isSome=_
 cases cU names s <;> rfl
theorem jE {names:List ByteArray} {i:Nat} {s:ByteArray} (h:names[i]?=some s) (hk:(cU (names.take i) s).isSome=true):cH (names.take (i+1))=cH (names.take i):=by
 funext v
 cases v with
 | string q=>
  simp only [cH]
  rw [jD h]
  cases hq:cU (names.take i) q with
  | some n=>rfl
  | none=>
   by_cases e:s=q
   ·subst e;rw [hq] at hk;cases hk
   ·simp [e]
 | _=>rfl
theorem kx {names:List ByteArray} {i:Nat} {s:ByteArray} (h:names[i]?=some s) (hk:(cU (names.take i) s).isSome=false):cH (names.take (i+1)) (.string s)=some (aF i):=by
 simp only [cH]
 rw [jD h]
 cases hq:cU (names.take i) s with
 | some n=>rw [hq] at hk;cases hk
 | none=>simp
theorem jF {names:List ByteArray} {i:Nat} {s:ByteArray} (h:names[i]?=some s) (q:Value) (hne:q≠ .string s):cH (names.take (i+1)) q=cH (names.take i) q:=by
 cases q with
 | string q=>
  have hne':s≠q:=fun e=>hne (by rw [e])
  simp only [cH]
  rw [jD h]
  cases hq:cU (names.take i) q with
  | some n=>rfl
  | none=>simp [hne']
 | _=>rfl
theorem pY (g:bn):bN Tryz.prog 42 [.agg (bG g)] (uZ g.Name):=by
 refine aL Tryz.func42 rfl Tryz.ntmps42 rfl fun B=>?_
 repeat' (first|refine IT ?_|refine IF a5 G9 ?_|refine bo ?_|fail)
 exact IN IA
theorem pZ (g:bV):bN Tryz.prog 44 [.agg (cf g)] (uZ g.Name):=by
 refine aL Tryz.func44 rfl Tryz.ntmps44 rfl fun B=>?_
 repeat' (first|refine IT ?_|refine IF a5 G9 ?_|refine bo ?_|fail)
 exact IN IA
theorem q8 (g:eh):bN Tryz.prog 46 [.agg (cF g)] (uZ g.Name):=by
 refine aL Tryz.func46 rfl Tryz.ntmps46 rfl fun B=>?_
 repeat' (first|refine IT ?_|refine IF a5 G9 ?_|refine bo ?_|fail)
 exact IN IA
set_option maxHeartbeats 1000000 in
theorem AN (l:List bn):AC Tryz.prog 41 [.imm 9 (l.map bG),.sc (.func (.func 42) #[] #[])] [] fun c L=>∃m,c= .sc (.map (some m))∧L=[(m,cP .string (cH (l.map bn.Name)))]:=by
 refine aL Tryz.func41 rfl Tryz.ntmps41 rfl fun B=>?_
 refine cJ 0 rfl rfl fun hlen=>?_
 rw [Jz] at hlen
 repeat' (first|refine IT ?_|refine IF a5 G9 ?_)
 refine fK .string fun m=>?_
 repeat' (first|refine IT ?_|refine am ?_|refine IF a5 G9 ?_)
 refine aO [1,5,11,12] (α:=Nat) (fun i=>[(13,aF i)]) (fun i=>i≤l.length) (fun i=>[(m,cP .string (cH ((l.map bn.Name).take i)))]) (fun i=>l.length - i) 0 rfl ⟨rfl,trivial⟩ (Nat.zero_le _) (fun _ _ h=>by rw [List.take_zero,lF];exact h) fun i hi=>?_
 try dsimp only [Jx,Jw,Jv,Jq]
 repeat' (first|refine IT ?_|refine IF a5 G9 ?_)
 refine ar rfl (fun h=>?_) (fun h=>?_)
 ·have hil:i < l.length:=by have:=Iy h;simp at this;omega
  obtain ⟨z,hz⟩:∃z,l[i]?=some z:=⟨_,Iz hil⟩
  have hzg:=cC (c:=bG) hz
  have hzn:(l.map bn.Name)[i]?=some z.Name:=by rw [List.getElem?_map,hz];rfl
  repeat' (first|refine IT ?_|refine am ?_|refine IF a5 G9 ?_|(apply aS;first|refine aQ a5 ?_|refine aG a5 ?_)|(apply aK;first|refine IH 7 a5 0 IE ?_|refine IH 7 a5 1 IE ?_|refine IH 7 a5 2 IE ?_|refine IG a5 0 ID ?_|refine IG a5 1 ID ?_|refine IG a5 2 ID ?_|refine IG a5 3 ID ?_|fail)|refine bi a5 fun _=>?_|fail)
  refine j8 (cs:=[.agg (bG z)]) (caps:=[]) (pY z) rfl rfl rfl rfl rfl ?_
  repeat' (first|fail)
  refine i3 0 (.int .i64 0) Tryz.underlying129 Tryz.underlying9 rfl rfl trivial rfl (by kernel_rfl) rfl ?_
  rw [ky]
  repeat' (first|refine IT ?_|refine IF a5 G9 ?_)
  refine ar rfl (fun h2=>?_) (fun h2=>?_)
  ·have h2':(cU ((l.map bn.Name).take i) z.Name).isSome=false:=by simpa using h2
   repeat' (first|refine IT ?_|refine IF a5 G9 ?_)
   refine j8 (cs:=[.agg (bG z)]) (caps:=[]) (pY z) rfl rfl rfl rfl rfl ?_
   repeat' (first|refine IF a5 G9 ?_)
   refine dT 0 (cH ((l.map bn.Name).take (i+1))) Tryz.underlying129 Tryz.underlying9 rfl rfl trivial rfl rfl (kx hzn h2') (jF hzn) ?_
   repeat' (first|refine IT ?_|refine IF a5 G9 ?_|(apply aV;refine aU ?_)|fail)
   exact aC (i+1) rfl ⟨by rw [Iv];rfl,trivial⟩ (by omega) (by omega) (fun _ _ h=>h)
  ·have h2':(cU ((l.map bn.Name).take i) z.Name).isSome=true:=by simpa using h2
   repeat' (first|refine IT ?_|refine IF a5 G9 ?_|(apply aV;refine aU ?_)|fail)
   exact aC (i+1) rfl ⟨by rw [Iv];rfl,trivial⟩ (by omega) (by omega) (fun _ _ h=>by rw [jE hzn h2'];exact h)
 ·have hil:i=l.length:=by have:=Ix h;simp at this;omega
  subst hil
  rw [List.take_of_length_le (by simp)]
  repeat' (first|refine IT ?_|refine IF a5 G9 ?_)
  exact IL G9 ⟨_,rfl,rfl⟩
set_option maxHeartbeats 1000000 in
theorem AP (l:List bV):AC Tryz.prog 43 [.imm 2 (l.map cf),.sc (.func (.func 44) #[] #[])] [] fun c L=>∃m,c= .sc (.map (some m))∧L=[(m,cP .string (cH (l.map bV.Name)))]:=by
 refine aL Tryz.func43 rfl Tryz.ntmps43 rfl fun B=>?_
 refine cJ 0 rfl rfl fun hlen=>?_
 rw [Jz] at hlen
 repeat' (first|refine IT ?_|refine IF a5 G9 ?_)
 refine fK .string fun m=>?_
 repeat' (first|refine IT ?_|refine am ?_|refine IF a5 G9 ?_)
 refine aO [1,5,11,12] (α:=Nat) (fun i=>[(13,aF i)]) (fun i=>i≤l.length) (fun i=>[(m,cP .string (cH ((l.map bV.Name).take i)))]) (fun i=>l.length - i) 0 rfl ⟨rfl,trivial⟩ (Nat.zero_le _) (fun _ _ h=>by rw [List.take_zero,lF];exact h) fun i hi=>?_
 try dsimp only [Jx,Jw,Jv,Jq]
 repeat' (first|refine IT ?_|refine IF a5 G9 ?_)
 refine ar rfl (fun h=>?_) (fun h=>?_)
 ·have hil:i < l.length:=by have:=Iy h;simp at this;omega
  obtain ⟨z,hz⟩:∃z,l[i]?=some z:=⟨_,Iz hil⟩
  have hzg:=cC (c:=cf) hz
  have hzn:(l.map bV.Name)[i]?=some z.Name:=by rw [List.getElem?_map,hz];rfl
  repeat' (first|refine IT ?_|refine am ?_|refine IF a5 G9 ?_|(apply aS;first|refine aQ a5 ?_|refine aG a5 ?_)|(apply aK;first|refine IH 7 a5 0 IE ?_|refine IH 7 a5 1 IE ?_|refine IH 7 a5 2 IE ?_|refine IG a5 0 ID ?_|refine IG a5 1 ID ?_|refine IG a5 2 ID ?_|refine IG a5 3 ID ?_|fail)|refine bi a5 fun _=>?_|fail)
  refine j8 (cs:=[.agg (cf z)]) (caps:=[]) (pZ z) rfl rfl rfl rfl rfl ?_
  repeat' (first|fail)
  refine i3 0 (.int .i64 0) Tryz.underlying129 Tryz.underlying9 rfl rfl trivial rfl (by kernel_rfl) rfl ?_
  rw [ky]
  repeat' (first|refine IT ?_|refine IF a5 G9 ?_)
  refine ar rfl (fun h2=>?_) (fun h2=>?_)
  ·have h2':(cU ((l.map bV.Name).take i) z.Name).isSome=false:=by simpa using h2
   repeat' (first|refine IT ?_|refine IF a5 G9 ?_)
   refine j8 (cs:=[.agg (cf z)]) (caps:=[]) (pZ z) rfl rfl rfl rfl rfl ?_
   repeat' (first|refine IF a5 G9 ?_)
   refine dT 0 (cH ((l.map bV.Name).take (i+1))) Tryz.underlying129 Tryz.underlying9 rfl rfl trivial rfl rfl (kx hzn h2') (jF hzn) ?_
   repeat' (first|refine IT ?_|refine IF a5 G9 ?_|(apply aV;refine aU ?_)|fail)
   exact aC (i+1) rfl ⟨by rw [Iv];rfl,trivial⟩ (by omega) (by omega) (fun _ _ h=>h)
  ·have h2':(cU ((l.map bV.Name).take i) z.Name).isSome=true:=by simpa using h2
   repeat' (first|refine IT ?_|refine IF a5 G9 ?_|(apply aV;refine aU ?_)|fail)
   exact aC (i+1) rfl ⟨by rw [Iv];rfl,trivial⟩ (by omega) (by omega) (fun _ _ h=>by rw [jE hzn h2'];exact h)
 ·have hil:i=l.length:=by have:=Ix h;simp at this;omega
  subst hil
  rw [List.take_of_length_le (by simp)]
  repeat' (first|refine IT ?_|refine IF a5 G9 ?_)
  exact IL G9 ⟨_,rfl,rfl⟩
set_option maxHeartbeats 1000000 in
theorem AQ (l:List eh):AC Tryz.prog 45 [.imm 4 (l.map cF),.sc (.func (.func 46) #[] #[])] [] fun c L=>∃m,c= .sc (.map (some m))∧L=[(m,cP .string (cH (l.map eh.Name)))]:=by
 refine aL Tryz.func45 rfl Tryz.ntmps45 rfl fun B=>?_
 refine cJ 0 rfl rfl fun hlen=>?_
 rw [Jz] at hlen
 repeat' (first|refine IT ?_|refine IF a5 G9 ?_)
 refine fK .string fun m=>?_
 repeat' (first|refine IT ?_|refine am ?_|refine IF a5 G9 ?_)
 refine aO [1,5,11,12] (α:=Nat) (fun i=>[(13,aF i)]) (fun i=>i≤l.length) (fun i=>[(m,cP .string (cH ((l.map eh.Name).take i)))]) (fun i=>l.length - i) 0 rfl ⟨rfl,trivial⟩ (Nat.zero_le _) (fun _ _ h=>by rw [List.take_zero,lF];exact h) fun i hi=>?_
 try dsimp only [Jx,Jw,Jv,Jq]
 repeat' (first|refine IT ?_|refine IF a5 G9 ?_)
 refine ar rfl (fun h=>?_) (fun h=>?_)
 ·have hil:i < l.length:=by have:=Iy h;simp at this;omega
  obtain ⟨z,hz⟩:∃z,l[i]?=some z:=⟨_,Iz hil⟩
  have hzg:=cC (c:=cF) hz
  have hzn:(l.map eh.Name)[i]?=some z.Name:=by rw [List.getElem?_map,hz];rfl
  repeat' (first|refine IT ?_|refine am ?_|refine IF a5 G9 ?_|(apply aS;first|refine aQ a5 ?_|refine aG a5 ?_)|(apply aK;first|refine IH 7 a5 0 IE ?_|refine IH 7 a5 1 IE ?_|refine IH 7 a5 2 IE ?_|refine IG a5 0 ID ?_|refine IG a5 1 ID ?_|refine IG a5 2 ID ?_|refine IG a5 3 ID ?_|fail)|refine bi a5 fun _=>?_|fail)
  refine j8 (cs:=[.agg (cF z)]) (caps:=[]) (q8 z) rfl rfl rfl rfl rfl ?_
  repeat' (first|fail)
  refine i3 0 (.int .i64 0) Tryz.underlying129 Tryz.underlying9 rfl rfl trivial rfl (by kernel_rfl) rfl ?_
  rw [ky]
  repeat' (first|refine IT ?_|refine IF a5 G9 ?_)
  refine ar rfl (fun h2=>?_) (fun h2=>?_)
  ·have h2':(cU ((l.map eh.Name).take i) z.Name).isSome=false:=by simpa using h2
   repeat' (first|refine IT ?_|refine IF a5 G9 ?_)
   refine j8 (cs:=[.agg (cF z)]) (caps:=[]) (q8 z) rfl rfl rfl rfl rfl ?_
   repeat' (first|refine IF a5 G9 ?_)
   refine dT 0 (cH ((l.map eh.Name).take (i+1))) Tryz.underlying129 Tryz.underlying9 rfl rfl trivial rfl rfl (kx hzn h2') (jF hzn) ?_
   repeat' (first|refine IT ?_|refine IF a5 G9 ?_|(apply aV;refine aU ?_)|fail)
   exact aC (i+1) rfl ⟨by rw [Iv];rfl,trivial⟩ (by omega) (by omega) (fun _ _ h=>h)
  ·have h2':(cU ((l.map eh.Name).take i) z.Name).isSome=true:=by simpa using h2
   repeat' (first|refine IT ?_|refine IF a5 G9 ?_|(apply aV;refine aU ?_)|fail)
   exact aC (i+1) rfl ⟨by rw [Iv];rfl,trivial⟩ (by omega) (by omega) (fun _ _ h=>by rw [jE hzn h2'];exact h)
 ·have hil:i=l.length:=by have:=Ix h;simp at this;omega
  subst hil
  rw [List.take_of_length_le (by simp)]
  repeat' (first|refine IT ?_|refine IF a5 G9 ?_)
  exact IL G9 ⟨_,rfl,rfl⟩
end Go.Proofs.YtpmdfoaadejmkaaGreatDoor
namespace Go.Proofs.YtpmdfoaadejmkaaGreatDoor
open Go.RowKit
attribute [local irreducible] AT bv AX AO Av Kt b9 dh DA cE
theorem kw (names:List ByteArray) (s:ByteArray):(cH names (.string s)).getD (.sc (.int .i64 0))=aF ((cU names s).getD 0:Nat):=by
 show (Option.map (fun n:Nat=>aF (n:Int)) (cU names s)).getD (.sc (.int .i64 0))=_
 cases cU names s <;> rfl
def jR (names:List ByteArray) (i:Nat) (s:ByteArray):Bool:=decide ((((cU names s).getD 0:Nat):Int) < (i:Int))
def jH (f:aZ):List ByteArray:=f.Glyphs.map bn.Name
def kP (f:aZ):List ByteArray:=f.Features.map bV.Name
def i5 (f:aZ):List ByteArray:=f.Axes.map eh.Name
def dS (f:aZ) (i:Nat) (g:bn):Int:=nv f g (kv (fZ g.Name) (jR (jH f) i g.Name))
def jC (f:aZ) (i:Nat) (t:bV):Int:=tS f t (kv (eZ t.Name) (jR (kP f) i t.Name))
def ju (f:aZ) (i:Nat) (a:eh):Int:=tC a (kv (fZ a.Name) (jR (i5 f) i a.Name))
set_option maxHeartbeats 1000000 in
theorem vK (f:aZ) (i:Nat) (g:bn) (m:Nat):AC Tryz.prog 51 [aF i,.agg (bG g),.iptr (cw f),.iptr [.sc (.map (some m))]] [(m,cP .string (cH (jH f)))] fun c L=>c=aF (dS f i g)∧L=[(m,cP .string (cH (jH f)))]:=by
 refine aL Tryz.func51 rfl Tryz.ntmps51 rfl fun B=>?_
 repeat' (first|refine IT ?_|refine IF a5 G9 ?_|refine bo ?_|fail)
 refine bA 12 [(0,.v),(1,.v),(2,.v),(3,.v),(4,.v),(5,.v),(6,.v),(7,.v),(9,.v),(8,.e),(10,.v),(11,.v)] none ?_ trivial rfl (by kernel_rfl) (by kernel_rfl) (by kernel_rfl) bU (by kernel_rfl) rfl
 repeat' (first|refine aD ?_|refine b8 a5 ?_|(apply dy;refine ej ?_)|fail)
 refine pv 0 (.int .i64 0) Tryz.underlying129 Tryz.underlying9 rfl rfl trivial rfl (by kernel_rfl) trivial ?_
 rw [kw]
 repeat' (first|refine aD ?_|refine b8 a5 ?_|(apply dy;refine ej ?_)|fail)
 refine IQ [7,8,18] G9 ?_
 repeat' (first|refine IT ?_|refine a7 ?_|refine IF a5 G9 ?_|(apply bk;refine bf ?_)|fail)
 exact IL G9 ⟨rfl,rfl⟩
set_option maxHeartbeats 1000000 in
theorem yh (f:aZ) (i:Nat) (t:bV) (m:Nat):AC Tryz.prog 64 [aF i,.agg (cf t),.iptr (cw f),.iptr [.sc (.map (some m))]] [(m,cP .string (cH (kP f)))] fun c L=>c=aF (jC f i t)∧L=[(m,cP .string (cH (kP f)))]:=by
 refine aL Tryz.func64 rfl Tryz.ntmps64 rfl fun B=>?_
 repeat' (first|refine IT ?_|refine IF a5 G9 ?_|refine bo ?_|fail)
 refine bA 12 [(0,.v),(1,.v),(2,.v),(3,.v),(4,.v),(5,.v),(6,.v),(7,.v),(9,.v),(8,.e),(10,.v),(11,.v)] none ?_ trivial rfl (by kernel_rfl) (by kernel_rfl) (by kernel_rfl) bU (by kernel_rfl) rfl
 repeat' (first|refine aD ?_|refine b8 a5 ?_|(apply dy;refine ej ?_)|fail)
 refine pv 0 (.int .i64 0) Tryz.underlying129 Tryz.underlying9 rfl rfl trivial rfl (by kernel_rfl) trivial ?_
 rw [kw]
 repeat' (first|refine aD ?_|refine b8 a5 ?_|(apply dy;refine ej ?_)|fail)
 refine IQ [7,8,18] G9 ?_
 repeat' (first|refine IT ?_|refine a7 ?_|refine IF a5 G9 ?_|(apply bk;refine bf ?_)|fail)
 exact IL G9 ⟨rfl,rfl⟩
set_option maxHeartbeats 1000000 in
theorem xQ (f:aZ) (i:Nat) (a:eh) (m:Nat):AC Tryz.prog 68 [aF i,.agg (cF a),.iptr [.sc (.map (some m))]] [(m,cP .string (cH (i5 f)))] fun c L=>c=aF (ju f i a)∧L=[(m,cP .string (cH (i5 f)))]:=by
 refine aL Tryz.func68 rfl Tryz.ntmps68 rfl fun B=>?_
 repeat' (first|refine IT ?_|refine IF a5 G9 ?_|refine bo ?_|fail)
 refine bA 11 [(0,.v),(1,.v),(2,.v),(3,.v),(4,.v),(5,.v),(6,.v),(8,.v),(7,.e),(9,.v),(10,.v)] none ?_ trivial rfl (by kernel_rfl) (by kernel_rfl) (by kernel_rfl) bU (by kernel_rfl) rfl
 repeat' (first|refine aD ?_|refine b8 a5 ?_|(apply dy;refine ej ?_)|fail)
 refine pv 0 (.int .i64 0) Tryz.underlying129 Tryz.underlying9 rfl rfl trivial rfl (by kernel_rfl) trivial ?_
 rw [kw]
 repeat' (first|refine aD ?_|refine b8 a5 ?_|(apply dy;refine ej ?_)|fail)
 refine IQ [6,16] G9 ?_
 repeat' (first|refine IT ?_|refine a7 ?_|refine IF a5 G9 ?_|(apply bk;refine bf ?_)|fail)
 exact IL G9 ⟨rfl,rfl⟩
end Go.Proofs.YtpmdfoaadejmkaaGreatDoor
