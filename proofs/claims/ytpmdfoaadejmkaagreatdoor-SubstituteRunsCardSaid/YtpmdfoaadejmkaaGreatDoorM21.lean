/-
  An engine is made: the walk.
-/
import Derived.Test.YtpmdfoaadejmkaaGreatDoorM20
import Derived.Test.YtpmdfoaadejmkaaGreatDoorM14
import Derived.Test.YtpmdfoaadejmkaaGreatDoorM12
import Derived.Test.YtpmdfoaadejmkaaGreatDoorM18
import Derived.Test.YtpmdfoaadejmkaaGreatDoorM11
namespace Go.Proofs.YtpmdfoaadejmkaaGreatDoor
open Go.RowKit
attribute [local irreducible] AT bK AX AO Av Kt bh dw DA cK
structure Fx (f:b7):Prop where
 glyphs:0 < f.Glyphs.length∧f.Glyphs.length≤65536
 lookups:f.Lookups.length≤1000000
 look:∀l∈f.Lookups,xw f.Glyphs.length l
 rule:∀l∈f.Lookups,∀r∈l.Rules,Fp r
structure Hg (f:b7) (E:pk):Prop where
 ls:E.lks.map (·.l)=f.Lookups
 ms:E.ms=f.Glyphs.map bz.Mark
 auto:∀e∈E.lks,1≤e.l.Kind→e.l.Kind≤6→kM e
def J9:Option kL→List AV
 | none=>[eC,eC,eC,eC,eC]
 | some a=>Ix a
def Io:kL:=⟨[],[],[],[],[]⟩
def I2 (l:aO) (a:Option kL) (j:Nat):List AV:=[aF l.Kind,dY l.Ignore,.imm 6 ((jk l).Rules.map bB)]++J9 a++[aF (fV (l.Rules.take j)),aF (iw (l.Rules.take j))]
def zR (l:aO) (a:kL) (j:Nat):List AV:=[aF l.Kind,dY l.Ignore,.imm 6 ((jk l).Rules.map bB),.imm 1 (aW a.cls),.imm 1 (b6 a.fore),.imm 1 (b6 a.back),.imm 1 (gy a.foreE),.imm 1 (gy a.backE),aF (fV (l.Rules.take j)),aF (iw (l.Rules.take j))]
theorem CQ (l:aO) (a:Option kL) (j:Nat):mF (I2 l a j) (zR l (a.getD Io) j):=by
 cases a with
 | none=>exact ⟨cY.refl _,cY.refl _,cY.refl _,cY.nil 1,cY.nil 1,cY.nil 1,cY.nil 1,cY.nil 1,cY.refl _,cY.refl _,trivial⟩
 | some a=>exact ⟨cY.refl _,cY.refl _,cY.refl _,cY.refl _,cY.refl _,cY.refl _,cY.refl _,cY.refl _,cY.refl _,cY.refl _,trivial⟩
theorem CR (l:aO) (a:kL):zR l a l.Rules.length=fB (Ee l a):=by
 unfold zR
 rw [List.take_length]
 rfl
theorem wy {rs:List bc} {j:Nat} {r:bc} (h:rs[j]?=some r):fV (rs.take (j+1))=max (fV (rs.take j)) (r.In.length+r.Ahead.length)∧iw (rs.take (j+1))=max (iw (rs.take j)) r.Back.length:=by
 unfold fV iw
 rw [List.take_add_one,h]
 constructor <;> simp
theorem BY {N:Nat} {rs:List bc} (h:∀r∈rs,u3 N r) (j:Nat):fV (rs.take j)≤200∧iw (rs.take j)≤200:=⟨iC (by omega) fun r hr=>(h r (List.mem_of_mem_take hr)).long.2,iC (by omega) fun r hr=>(h r (List.mem_of_mem_take hr)).long.1⟩
theorem yV (l:List Bool) (b:Bool):nT l++[[dY b]]=nT (l++[b]):=by simp [nT]
set_option maxHeartbeats 16000000 in
theorem GZ (f:b7) (h:Fx f) (hck:AC Tryz.prog 25 [bZ f] [] fun c _=>∃n:Int,c=cu (0,n)):AC Tryz.prog 15 [bZ f] [] fun c _=>∃E,Hg f E∧c= .tup [.iptr (ei E),aF 0]:=by
 refine aN Tryz.func15 rfl Tryz.ntmps15 rfl fun B=>?_
 have hgl:(f.Glyphs.map bR).length=f.Glyphs.length:=Jv ..
 have hll:(f.Lookups.map bi).length=f.Lookups.length:=Jv ..
 obtain ⟨hN0,hN⟩:=h.glyphs
 have hL:=h.lookups
 repeat' (first|refine JU ?_|refine JG a5 JA ?_|refine bf ?_|fail)
 refine b9 [] _ hck rfl rfl (Jp _) rfl fun c1 L1 ⟨n0,hc1⟩=>?_
 subst hc1
 refine aJ (bA (List.sublist_append_right ..)) ?_
 unfold cu
 repeat' (first|refine JU ?_|refine am ?_|refine JG a5 JA ?_|refine yc (d:=25) fun _=>?_|refine bC rfl ?_)
 rename_i eb
 refine bS (bE 0 (cs':=[.vec none 10 [],.vec none 1 []]) rfl fun σ vs hh=>mF.vrs (a:=[eC,eC]) (b:=[.vec none 10 [],.vec none 1 []]) ⟨fun σ v h=>cR 10 h,fun σ v h=>cR 1 h,trivial⟩ hh) ?_
 refine aP [1,6,27,28] (α:=List pj×Option (Nat×Nat)) (fun s=>[(29,aF s.1.length)]) (fun s=>s.1.length≤f.Lookups.length∧s.1.map (·.l)=f.Lookups.take s.1.length∧∀e∈s.1,1≤e.l.Kind→e.l.Kind≤6→kM e) (fun s=>(eb,.box [.vec s.2 10 (s.1.map fB),.vec none 1 []] 86)::tok s.2 97 10 s.1.length) (fun s=>f.Lookups.length - s.1.length) ([],none) rfl ⟨rfl,trivial⟩ ⟨Nat.zero_le _,rfl,fun e he=>by cases he⟩ (fun _ _ hh=>hh) ?_
 rintro ⟨es,q⟩ ⟨hk,hes,hau⟩
 dsimp only at hk hes hau ⊢
 try dsimp only [Jt,Js,Jr,Kz]
 repeat' (first|refine JU ?_|refine JG a5 JA ?_)
 refine ar rfl (fun h1=>?_) (fun h1=>?_)
 ·have hk2:es.length < f.Lookups.length:=by have:=Jz h1;omega
  obtain ⟨l,hl⟩:∃z,f.Lookups[es.length]?=some z:=⟨_,Hb hk2⟩
  have hlg:(f.Lookups.map bi)[es.length]?=some (bi l):=by simp [hl]
  have hlm:=Jx hl
  have hbl:=h.look l hlm
  have hfew:=hbl.few
  haveI:=AD.mk (uz l (by omega) (h.rule l hlm))
  have hbu:=Bu f es.length l hl hbl hN0 hN
  have hrl:(l.Rules.map bB).length=l.Rules.length:=Jv ..
  clear h1
  repeat' (first|refine JU ?_|refine am ?_|refine JG a5 JA ?_|(apply aL;first|refine aK a5 ?_|refine aG a5 ?_)|(apply aM;first|refine JI 8 a5 0 JF ?_|refine JI 8 a5 1 JF ?_|refine JI 8 a5 2 JF ?_|refine JI 10 a5 0 JF ?_|refine JI 10 a5 1 JF ?_|refine JI 10 a5 2 JF ?_|refine JI 13 a5 0 JF ?_|refine JI 13 a5 1 JF ?_|refine JI 13 a5 2 JF ?_|refine JI 15 a5 0 JF ?_|refine JI 15 a5 1 JF ?_|refine JI 15 a5 2 JF ?_|refine JH a5 0 JE ?_|refine JH a5 1 JE ?_|refine JH a5 2 JE ?_|refine JH a5 3 JE ?_|fail)|refine bj a5 fun _=>?_|(apply bw;refine bn ?_)|fail)
  rename_i ob
  refine DY (α:=Option kL) [1,6,8,9,27,28,29] (fun _=>[(1,.iptr (cE f)),(6,g9 eb),(8,.iptr (bi l)),(9,g9 ob),(27,.imm 3 (f.Lookups.map bi)),(28,.sc (.int .i64 ((f.Lookups.map bi).length:Int))),(29,aF es.length)]) (fun a=>(ob,.box (I2 l a 0) 97)::(eb,.box [.vec q 10 (es.map fB),.vec none 1 []] 86)::tok q 97 10 es.length) (fun a=>1≤l.Kind→l.Kind≤6→∃a',a=some a'∧xy f.Glyphs.length l.Rules a') (fun Q' K=>?_) (fun a ha=>?_)
  ·refine ar rfl (fun h1=>?_) (fun h1=>?_)
   ·repeat' (first|refine JU ?_|refine JG a5 JA ?_)
    refine b9 [] _ hbu rfl rfl (Jp _) rfl fun c1 L1 ⟨a,ha,hc1⟩=>?_
    subst hc1
    refine aJ (bA (List.sublist_append_right ..)) ?_
    repeat' (first|refine JU ?_|refine JG a5 JA ?_|(apply aM;first|refine JI 8 a5 0 JF ?_|refine JI 8 a5 1 JF ?_|refine JI 8 a5 2 JF ?_|refine JI 10 a5 0 JF ?_|refine JI 10 a5 1 JF ?_|refine JI 10 a5 2 JF ?_|refine JI 13 a5 0 JF ?_|refine JI 13 a5 1 JF ?_|refine JI 13 a5 2 JF ?_|refine JI 15 a5 0 JF ?_|refine JI 15 a5 1 JF ?_|refine JI 15 a5 2 JF ?_|refine JH a5 0 JE ?_|refine JH a5 1 JE ?_|refine JH a5 2 JE ?_|refine JH a5 3 JE ?_|fail)|refine bj a5 fun _=>?_|refine bC rfl ?_)
    exact K (some a) _ (fun _ _=>⟨a,rfl,ha⟩) rfl
   ·repeat' (first|refine JU ?_|fail)
    exact K none _ (fun h1' h6=>absurd (Jy h1) (fun hn=>hn ⟨h1',h6⟩)) rfl
  ·have hA:1≤l.Kind→l.Kind≤6→xy f.Glyphs.length l.Rules (a.getD Io):=fun h1 h6=>by
    obtain ⟨a',rfl,hb⟩:=ha h1 h6
    exact hb
   refine bS (bE 0 (cs':=zR l (a.getD Io) 0) rfl fun σ vs hh=>(CQ l a 0).vrs hh) ?_
   generalize a.getD Io=A at hA
   clear ha
   repeat' (first|refine JU ?_|refine am ?_|refine JG a5 JA ?_)
   refine aP [1,6,9,27,28,29,52,53] (α:=Nat) (fun j=>[(54,aF j)]) (fun j=>j≤l.Rules.length) (fun j=>(ob,.box (zR l A j) 97)::(eb,.box [.vec q 10 (es.map fB),.vec none 1 []] 86)::tok q 97 10 es.length) (fun j=>l.Rules.length - j) 0 rfl ⟨rfl,trivial⟩ (Nat.zero_le _) (fun _ _ hh=>hh) fun j hj=>?_
   try dsimp only [Jt,Js,Jr,Kz]
   repeat' (first|refine JU ?_|refine JG a5 JA ?_)
   refine ar rfl (fun h1=>?_) (fun h1=>?_)
   ·have hj2:j < l.Rules.length:=by have:=Jz h1;omega
    obtain ⟨r,hr⟩:∃z,l.Rules[j]?=some z:=⟨_,Hb hj2⟩
    have hrg:(l.Rules.map bB)[j]?=some (bB r):=by simp [hr]
    have hlong:=(hbl.rule r (Jx hr)).long
    have hl1:=c6 r.In
    have hl2:=c6 r.Ahead
    have hl3:=c6 r.Back
    obtain ⟨hfb,hbb⟩:=BY hbl.rule j
    obtain ⟨hfs,hbs⟩:=wy hr
    clear h1
    repeat' (first|refine JU ?_|refine am ?_|refine JG a5 JA ?_|(apply bF;first|refine JJ a5 0 JD ?_|refine JJ a5 1 JD ?_|refine JJ a5 2 JD ?_|refine JJ a5 3 JD ?_|refine JK a5 0 JD ?_|refine JK a5 1 JD ?_|refine JK a5 2 JD ?_|refine JL a5 1 JB (by assumption) rfl ?_|refine JL a5 0 JB (by assumption) rfl ?_|fail)|(apply aS;refine aQ ?_)|(apply aL;first|refine aK a5 ?_|refine aG a5 ?_)|(apply aM;first|refine JI 8 a5 0 JF ?_|refine JI 8 a5 1 JF ?_|refine JI 8 a5 2 JF ?_|refine JI 10 a5 0 JF ?_|refine JI 10 a5 1 JF ?_|refine JI 10 a5 2 JF ?_|refine JI 13 a5 0 JF ?_|refine JI 13 a5 1 JF ?_|refine JI 13 a5 2 JF ?_|refine JI 15 a5 0 JF ?_|refine JI 15 a5 1 JF ?_|refine JI 15 a5 2 JF ?_|refine JH a5 0 JE ?_|refine JH a5 1 JE ?_|refine JH a5 2 JE ?_|refine JH a5 3 JE ?_|fail)|refine bj a5 fun _=>?_|fail)
    refine aC (j+1) rfl ⟨by rw [Jw];rfl,trivial⟩ hj2 (by omega) (fun _ _ hh=>?_)
    have e1:((max (fV (l.Rules.take j)) (r.In.length+r.Ahead.length):Nat):Int)=max ((fV (l.Rules.take j):Nat):Int) (((b6 r.In).length:Int)+((b6 r.Ahead).length:Int)):=by omega
    have e2:((max (iw (l.Rules.take j)) r.Back.length:Nat):Int)=max ((iw (l.Rules.take j):Nat):Int) ((b6 r.Back).length:Int):=by omega
    unfold zR
    rw [hfs,hbs,e1,e2]
    exact hh
   ·have hj2:j=l.Rules.length:=by have:=Jy h1;omega
    subst hj2
    rw [CR]
    clear h1
    have hel:(es.map fB).length=es.length:=Jv ..
    have hsn:es.map fB++[fB (Ee l A)]=(es++[Ee l A]).map fB:=by rw [List.map_append];rfl
    repeat' (first|refine JU ?_|fail)
    refine br 8 [(0,.v),(1,.v),(2,.v),(3,.v),(4,.l),(5,.l),(6,.v),(7,.e)] none ?_ trivial rfl (by kernel_rfl) (by kernel_rfl) (by kernel_rfl) bQ (by kernel_rfl) rfl
    repeat' (first|refine aD ?_|refine b8 a5 ?_|refine ej a5 ?_|refine ce a5 1 rfl rfl rfl rfl (by first|trivial|rfl) ?_|refine pv a5 0 rfl rfl rfl rfl (by first|trivial|rfl) ?_)
    refine f9 a5 [(ob,.box (fB (Ee l A)) 97),(eb,.box [.vec q 10 (es.map fB),.vec none 1 []] 86)] rfl rfl rfl rfl (by rw [hel];exact List.perm_append_comm (l₁:=[_,_])) (by rw [hel];simp;omega) (by rw [hel];simp;omega) trivial fun q'=>?_
    repeat' (first|fail)
    refine JQ [1,6,27,28,29,77,84] JA ?_
    refine aJ (aR (L':=(ob,.box (fB (Ee l A)) 97)::(eb,.box [.vec q 10 (es.map fB),.vec none 1 []] 86)::tok q' 97 10 (es.map fB++[fB (Ee l A)]).length) (List.perm_append_comm (l₂:=[_,_]))) ?_
    repeat' (first|refine JU ?_|refine JG a5 JA ?_|(apply aS;refine aQ ?_)|(apply aM;first|refine JI 8 a5 0 JF ?_|refine JI 8 a5 1 JF ?_|refine JI 8 a5 2 JF ?_|refine JI 10 a5 0 JF ?_|refine JI 10 a5 1 JF ?_|refine JI 10 a5 2 JF ?_|refine JI 13 a5 0 JF ?_|refine JI 13 a5 1 JF ?_|refine JI 13 a5 2 JF ?_|refine JI 15 a5 0 JF ?_|refine JI 15 a5 1 JF ?_|refine JI 15 a5 2 JF ?_|refine JH a5 0 JE ?_|refine JH a5 1 JE ?_|refine JH a5 2 JE ?_|refine JH a5 3 JE ?_|fail))
    have hll2:(es++[Ee l A]).length=es.length+1:=by simp
    refine aC (es++[Ee l A],q') rfl ⟨by dsimp only;rw [hll2,Jw];rfl,trivial⟩ ⟨by dsimp only;omega,?_,?_⟩ (by dsimp only;omega) (fun σ w hh=>?_)
    ·dsimp only
     rw [List.map_append,hes,hll2,List.take_add_one,hl]
     rfl
    ·intro e he h1 h6
     rw [List.mem_append,List.mem_singleton] at he
     rcases he with he | rfl
     ·exact hau e he h1 h6
     ·exact E1 hbl (hA h1 h6)
    ·have h2:=hh.sublist (List.sublist_cons_self ..)
     rw [hsn,Jv] at h2
     dsimp only
     rw [←hsn]
     exact h2
 ·have hk2:es.length=f.Lookups.length:=by have:=Jy h1;omega
  rw [hk2,List.take_length] at hes
  clear h1
  repeat' (first|refine JU ?_|refine am ?_|refine JG a5 JA ?_)
  refine aP [6,89,90] (α:=Nat×Option (Nat×Nat)) (fun s=>[(91,aF s.1)]) (fun s=>s.1≤f.Glyphs.length) (fun s=>(eb,.box [.vec q 10 (es.map fB),.vec s.2 1 (nT ((f.Glyphs.map bz.Mark).take s.1))] 86)::(tok q 97 10 es.length++tok s.2 4 1 s.1)) (fun s=>f.Glyphs.length - s.1) (0,none) rfl ⟨rfl,trivial⟩ (Nat.zero_le _) (fun σ w hh=>by show d7 B σ ((eb,.box [.vec q 10 (es.map fB),.vec none 1 []] 86)::(tok q 97 10 es.length++[])) w;rw [List.append_nil];exact hh) ?_
  rintro ⟨k,q2⟩ hk3
  dsimp only at hk3 ⊢
  try dsimp only [Jt,Js,Jr,Kz]
  repeat' (first|refine JU ?_|refine JG a5 JA ?_)
  refine ar rfl (fun h1=>?_) (fun h1=>?_)
  ·have hk4:k < f.Glyphs.length:=by have:=Jz h1;omega
   obtain ⟨g,hg⟩:∃z,f.Glyphs[k]?=some z:=⟨_,Hb hk4⟩
   have hgg:(f.Glyphs.map bR)[k]?=some (bR g):=by simp [hg]
   have hbl:(nT ((f.Glyphs.map bz.Mark).take k)).length=k:=by rw [ut,List.length_take,Jv];omega
   have hbs:(f.Glyphs.map bz.Mark).take (k+1)=(f.Glyphs.map bz.Mark).take k++[g.Mark]:=by rw [List.take_add_one,List.getElem?_map,hg];rfl
   have hsn:=yV ((f.Glyphs.map bz.Mark).take k) g.Mark
   rw [←hbs] at hsn
   generalize nT ((f.Glyphs.map bz.Mark).take k)=bl at *
   clear h1
   repeat' (first|refine JU ?_|refine am ?_|refine JG a5 JA ?_|(apply aL;first|refine aK a5 ?_|refine aG a5 ?_)|(apply aM;first|refine JI 8 a5 0 JF ?_|refine JI 8 a5 1 JF ?_|refine JI 8 a5 2 JF ?_|refine JI 10 a5 0 JF ?_|refine JI 10 a5 1 JF ?_|refine JI 10 a5 2 JF ?_|refine JI 13 a5 0 JF ?_|refine JI 13 a5 1 JF ?_|refine JI 13 a5 2 JF ?_|refine JI 15 a5 0 JF ?_|refine JI 15 a5 1 JF ?_|refine JI 15 a5 2 JF ?_|refine JH a5 0 JE ?_|refine JH a5 1 JE ?_|refine JH a5 2 JE ?_|refine JH a5 3 JE ?_|fail)|refine bj a5 fun _=>?_|fail)
   refine br 9 [(0,.v),(1,.v),(2,.v),(3,.v),(4,.l),(5,.v),(6,.v),(7,.v),(8,.e)] none ?_ trivial rfl (by kernel_rfl) (by kernel_rfl) (by kernel_rfl) bQ (by kernel_rfl) rfl
   repeat' (first|refine aD ?_|refine b8 a5 ?_|refine ej a5 ?_|refine ce a5 0 rfl rfl rfl rfl (by first|trivial|rfl) ?_)
   refine f9 a5 ((eb,.box [.vec q 10 (es.map fB),.vec q2 1 bl] 86)::tok q 97 10 es.length) rfl rfl rfl rfl (by rw [hbl];exact (List.perm_append_comm (l₁:=_::tok q 97 10 es.length))) (by rw [hbl];simp;omega) (by rw [hbl];simp;omega) trivial fun q'=>?_
   repeat' (first|fail)
   refine JQ [6,89,90,91,95,103] JA ?_
   refine aJ (aR (L':=(eb,.box [.vec q 10 (es.map fB),.vec q2 1 bl] 86)::(tok q 97 10 es.length++tok q' 4 1 (k+1))) (by rw [List.length_append,hbl];exact (List.perm_append_comm (l₂:=_::tok q 97 10 es.length)))) ?_
   repeat' (first|refine JU ?_|refine JG a5 JA ?_|(apply aS;refine aQ ?_)|(apply aM;first|refine JI 8 a5 0 JF ?_|refine JI 8 a5 1 JF ?_|refine JI 8 a5 2 JF ?_|refine JI 10 a5 0 JF ?_|refine JI 10 a5 1 JF ?_|refine JI 10 a5 2 JF ?_|refine JI 13 a5 0 JF ?_|refine JI 13 a5 1 JF ?_|refine JI 13 a5 2 JF ?_|refine JI 15 a5 0 JF ?_|refine JI 15 a5 1 JF ?_|refine JI 15 a5 2 JF ?_|refine JH a5 0 JE ?_|refine JH a5 1 JE ?_|refine JH a5 2 JE ?_|refine JH a5 3 JE ?_|fail))
   exact aC (k+1,q') rfl ⟨by rw [Jw];rfl,trivial⟩ hk4 (by dsimp only;omega) (fun _ _ hh=>by dsimp only;rw [←hsn];exact hh)
  ·have hk4:k=f.Glyphs.length:=by have:=Jy h1;omega
   subst hk4
   rw [List.take_of_length_le (by rw [Jv];exact Nat.le_refl _)]
   clear h1
   repeat' (first|refine JU ?_|refine JG a5 JA ?_)
   refine bk (bE 0 (cs':=ei ⟨es,f.Glyphs.map bz.Mark⟩) rfl fun σ vs hh=>mF.vrs (a:=[.vec q 10 (es.map fB),.vec q2 1 (nT (f.Glyphs.map bz.Mark))]) (b:=ei ⟨es,f.Glyphs.map bz.Mark⟩) ⟨fun σ v h=>VR.im h,fun σ v h=>VR.im h,trivial⟩ hh) ?_
   refine bk (vF (t:=2) (cs:=ei ⟨es,f.Glyphs.map bz.Mark⟩) 0 rfl rfl rfl) ?_
   refine dI (List.nil_sublist _) ?_
   exact JR JB ⟨⟨es,f.Glyphs.map bz.Mark⟩,⟨hes,rfl,hau⟩,rfl⟩
def fw:Nat→List Int→List aI
 | _,[]=>[]
 | i,g::l=>⟨g,i,0,0,0,0⟩::fw (i+1) l
def eV (l:List Int):List aI:=fw 0 l
def km:List Bool:=[false,false,false,false,true]
def HQ (ig:Bool):List aO:=[⟨3,ig,[⟨[],[[0],[1]],[],[2],[],0⟩]⟩]
def tr (a b c:Nat):List Int:=List.replicate a 4++0::(List.replicate b 4++1::List.replicate c 4)
def v5 (a b c:Nat) (ig:Bool):List Int:=if 0 < b∧ig=false then tr a b c else List.replicate a 4++2::(List.replicate b 4++List.replicate c 4)
def Cw (a b c:Nat) (ig:Bool):Bool:=
 let out:=cV km (HQ ig) 0 (eV (tr a b c)) []
 (out.map aI.Glyph==v5 a b c ig) && (decide ((v5 a b c ig).length=(tr a b c).length) || (match out[a]? with | some x=>decide (x.Cluster=a) | none=>false))
def Im:Bool:=(List.range 8).all fun a=>(List.range 8).all fun b=>(List.range 8).all fun c=>Cw a b c true && Cw a b c false
def I8:bc:=⟨[],[[0]],[[1]],[1],[],0⟩
def EW:List aO:=[⟨5,false,[I8]⟩,⟨1,false,[I8]⟩]
def CY (n:Nat):List Int:=List.replicate n 0++[1]
def H5 (n:Nat):List Int:=(List.range (n+1)).map fun (k:Nat)=>if (n:Int) - 1≤(k:Int) then (1:Int) else 0
def Jg (n:Nat):Bool:=((cV km EW 0 (eV (CY n)) []).map aI.Glyph==List.replicate (n+1) 1) && ((cV km EW 1 (eV (CY n)) []).map aI.Glyph==H5 n)
def HB (k:Nat):List aO:=[⟨4,false,[⟨[],[[0]],[],[],[⟨0,1⟩,⟨0,2⟩,⟨0,0⟩],0⟩]⟩,⟨1,false,[⟨[],[[0]],[],[2],[],0⟩]⟩,⟨2,false,[⟨[],[[2]],[],List.replicate k 1,[],0⟩]⟩]
def IY (n k:Nat):Bool:=
 let out:=cV km (HB k) 0 (eV (List.replicate n 0)) []
 if k=0 then decide (out.length < n) else out.map aI.Glyph==List.replicate (n * k) 1
end Go.Proofs.YtpmdfoaadejmkaaGreatDoor
namespace Go.Proofs.YtpmdfoaadejmkaaGreatDoor
open Go.RowKit
attribute [local irreducible] AT bK AX AO Av Kt bh dw DA cK
open Go.MapKept
section
variable {P:Program} {r:Option Nat} {ops:Array Oper} {Q:Exit→Act→World→Prop} {nt:Nat} {D:List Deferred} {fr:c8} {B:Bs} {L:AL} {rest:List Oper} {d:Nat} {ty t:TypeId} {pos:String} {af:Array Edge} {x y z:Operand} {u:AV} {cd:Code}
theorem jx {f:FuncId} {args:Array Operand} {ts:Array TypeId} {cs caps:List AV} {v:AV} [bM P f] (hc:bJ P f (cs++caps) v) (hx:bo fr x=some u) (hu:kH u=some (f,caps)) (hv:eA fr args.toList=some cs) (hn:Oper.noDefer ⟨some d,.call ⟨.value x,args,ts⟩,ty,pos,af,none⟩=true) (hd:Nat.ble nt d=false) (h:bK P r ops Q nt D rest ((d,v)::fr) B L):
  bK P r ops Q nt D (⟨some d,.call ⟨.value x,args,ts⟩,ty,pos,af,none⟩::rest) fr B L:=
 dx [] L hc hx hu hv (Jp _) hn hd fun c L1 hc=>by
  have hc':c=v:=hc
  subst hc'
  exact aJ (bA (List.sublist_append_right ..)) h
theorem E0 (t:Nat) {u:AV} {s:Nat} {l:List (List AV)} (hl:cj fr t=some u) (hu:ii u=some (s,l)) (h:l.length≤9223372036854775807→bK P r ops Q nt D rest fr B L):bK P r ops Q nt D rest fr B L:=
 DZ (fun σ a w ha _=>(Cc (ha.look t u hl) hu).1) h
end
def uV (t:c7) (i:Nat) (l:Int):Bool:=match i with | 0=>false | j+1=>match t.Lookups[j]? with | some b=>decide (l≤b) | none=>false
def pw (f:b7) (t:c7) (i:Nat) (l:Int):Int:=dX (decide (l < 0∨l≥f.Lookups.length) || uV t i l) 43
set_option maxHeartbeats 1000000 in
theorem zl (f:b7) (t:c7) (i:Nat) (l:Int) (hl:t.Lookups[i]?=some l) (hn:t.Lookups.length≤9223372036854775807):bJ Tryz.prog 144 [aF i,aF l,.iptr (cE f),.iptr (co t)] (aF (pw f t i l)):=by
 refine aN Tryz.func144 rfl Tryz.ntmps144 rfl fun B=>?_
 have hil:=(Jq hl).1
 unfold pw
 cases i with
 | zero=>
  repeat' (first|refine JU ?_|refine JG a5 JA ?_)
  refine dp (t:=7) [] (l < 0∨l≥f.Lookups.length) rfl (fun Q' K=>?_) ?_
  ·repeat' (first|refine JU ?_|refine JG a5 JA ?_|refine JO JA ?_|refine JP JC ?_|refine dz rfl rfl rfl ?_|refine JS JB (fun _=>?_) (fun _=>?_))
   all_goals exact K _ _ rfl rfl (by clear K;simp_all <;> omega)
  repeat' (first|refine JU ?_|refine JG a5 JA ?_|(apply bw;refine bn ?_)|fail)
  refine JM JA ?_
  simp [uV]
 | succ j=>
  obtain ⟨b,hb⟩:∃b,t.Lookups[j]?=some b:=⟨_,Hb (by omega)⟩
  have hbg:(aW t.Lookups)[(((j+1:Nat):Int) - 1).toNat]?=some [aF b]:=by rw [show (((j+1:Nat):Int) - 1).toNat=j by omega];exact bO hb
  have hlt:uV t (j+1) l=decide (l≤b):=by simp [uV,hb]
  have hpos:decide (0 < ((j+1:Nat):Int))=true:=decide_eq_true (by omega)
  rw [hlt]
  repeat' (first|refine JU ?_|refine JG a5 JA ?_)
  refine dp (t:=7) [] ((l < 0∨l≥f.Lookups.length)∨l≤b) rfl (fun Q' K=>?_) ?_
  ·repeat' (first|refine JU ?_|refine JG a5 JA ?_|refine JO JA ?_|refine JP JC ?_|refine dz rfl rfl rfl ?_|(apply aS;refine aQ ?_)|(apply aL;first|refine aK a5 ?_|refine aG a5 ?_)|refine JS JB (fun _=>?_) (fun _=>?_))
   all_goals exact K _ _ rfl rfl (by clear K;simp_all <;> omega)
  repeat' (first|refine JU ?_|refine JG a5 JA ?_|(apply bw;refine bn ?_)|fail)
  refine JM JA ?_
  rw [Bool.decide_or]
def uG (f:b7) (t:c7) (name:Int):Int:=if name≠0 then name else (d5 t.Lookups (pw f t)).1
theorem uH (f:b7) (t:c7) (name:Int):bJ Tryz.prog 65 [bZ f,.agg (co t),aF name] (aF (uG f t name)):=by
 refine aN Tryz.func65 rfl Tryz.ntmps65 rfl fun B=>?_
 unfold uG
 repeat' (first|refine JU ?_|refine JG a5 JA ?_|refine bf ?_|fail)
 refine ar rfl (fun h=>?_) (fun h=>?_)
 ·rw [if_pos (Jz h)]
  repeat' (first|refine JU ?_|refine JG a5 JA ?_)
  exact JN JB
 rw [if_neg (Jy h)]
 repeat' (first|refine JU ?_|refine JG a5 JA ?_)
 refine E0 14 rfl rfl fun hlen=>?_
 rw [aZ] at hlen
 refine b9 [] [] (mS (u:= .fn 144 [.iptr (cE f),.iptr (co t)]) (g:=144) rfl t.Lookups _ (fun _ _=>True) [] trivial (da (fun i x hx=>zl f t i x hx (by omega)))) rfl rfl (Jp _) rfl fun c L1 hc=>?_
 have hc:c=cu (d5 t.Lookups (pw f t)):=hc
 subst hc
 unfold cu
 repeat' (first|refine JU ?_|refine JG a5 JA ?_)
 exact JN JB
instance (f:b7) (t:c7) (name:Int):AD Tryz.prog 65 [bZ f,.agg (co t),aF name] (aF (uG f t name)):=⟨uH f t name⟩
def d4 (names:List ByteArray) (s:ByteArray):Option Nat:=names.findIdx? (fun x=>decide (x=s))
def cN (names:List ByteArray) (v:Value):Option AV:=match v with
 | .string s=>(d4 names s).map fun (n:Nat)=>aF (n:Int)
 | _=>none
theorem k7 {names:List ByteArray} {i:Nat} {s:ByteArray} (h:names[i]?=some s) (q:ByteArray):d4 (names.take (i+1)) q=match d4 (names.take i) q with | some n=>some n | none=>if s=q then some i else none:=by
 unfold d4
 have hlt:=(Jq h).1
 have hlen:(names.take i).length=i:=by rw [List.length_take];omega
 rw [List.take_add_one,h,Option.toList_some,List.findIdx?_append,hlen]
 cases List.findIdx? (fun x=>decide (x=q)) (names.take i) with
 | some n=>rfl
 | none=>
  by_cases e:s=q
  ·simp [e]
  ·simp [e]
theorem mh:cN []=fun _=>none:=by
 funext v
 cases v <;> rfl
theorem kX {names:List ByteArray} {s:ByteArray}:(cN names (.string s)).isSome=(d4 names s).isSome:=by
 show (Option.map (fun n:Nat=>aF (n:Int)) (d4 names s)).isSome=_
 cases d4 names s <;> rfl
theorem k8 {names:List ByteArray} {i:Nat} {s:ByteArray} (h:names[i]?=some s) (hk:(d4 (names.take i) s).isSome=true):cN (names.take (i+1))=cN (names.take i):=by
 funext v
 cases v with
 | string q=>
  simp only [cN]
  rw [k7 h]
  cases hq:d4 (names.take i) q with
  | some n=>rfl
  | none=>
   by_cases e:s=q
   ·subst e;rw [hq] at hk;cases hk
   ·simp [e]
 | _=>rfl
theorem kW {names:List ByteArray} {i:Nat} {s:ByteArray} (h:names[i]?=some s) (hk:(d4 (names.take i) s).isSome=false):cN (names.take (i+1)) (.string s)=some (aF i):=by
 simp only [cN]
 rw [k7 h]
 cases hq:d4 (names.take i) s with
 | some n=>rw [hq] at hk;cases hk
 | none=>simp
theorem k9 {names:List ByteArray} {i:Nat} {s:ByteArray} (h:names[i]?=some s) (q:Value) (hne:q≠ .string s):cN (names.take (i+1)) q=cN (names.take i) q:=by
 cases q with
 | string q=>
  have hne':s≠q:=fun e=>hne (by rw [e])
  simp only [cN]
  rw [k7 h]
  cases hq:d4 (names.take i) q with
  | some n=>rfl
  | none=>simp [hne']
 | _=>rfl
theorem qQ (g:bz):bJ Tryz.prog 42 [.agg (bR g)] (vQ g.Name):=by
 refine aN Tryz.func42 rfl Tryz.ntmps42 rfl fun B=>?_
 repeat' (first|refine JU ?_|refine JG a5 JA ?_|refine bf ?_|fail)
 exact JN JB
theorem qR (g:c7):bJ Tryz.prog 44 [.agg (co g)] (vQ g.Name):=by
 refine aN Tryz.func44 rfl Tryz.ntmps44 rfl fun B=>?_
 repeat' (first|refine JU ?_|refine JG a5 JA ?_|refine bf ?_|fail)
 exact JN JB
theorem qS (g:ez):bJ Tryz.prog 46 [.agg (cL g)] (vQ g.Name):=by
 refine aN Tryz.func46 rfl Tryz.ntmps46 rfl fun B=>?_
 repeat' (first|refine JU ?_|refine JG a5 JA ?_|refine bf ?_|fail)
 exact JN JB
set_option maxHeartbeats 1000000 in
theorem BS (l:List bz):AC Tryz.prog 41 [.imm 9 (l.map bR),.sc (.func (.func 42) #[] #[])] [] fun c L=>∃m,c= .sc (.map (some m))∧L=[(m,cX .string (cN (l.map bz.Name)))]:=by
 refine aN Tryz.func41 rfl Tryz.ntmps41 rfl fun B=>?_
 refine cB 0 rfl rfl fun hlen=>?_
 rw [Jv] at hlen
 repeat' (first|refine JU ?_|refine JG a5 JA ?_)
 refine fW .string fun m=>?_
 repeat' (first|refine JU ?_|refine am ?_|refine JG a5 JA ?_)
 refine aP [1,5,11,12] (α:=Nat) (fun i=>[(13,aF i)]) (fun i=>i≤l.length) (fun i=>[(m,cX .string (cN ((l.map bz.Name).take i)))]) (fun i=>l.length - i) 0 rfl ⟨rfl,trivial⟩ (Nat.zero_le _) (fun _ _ h=>by rw [List.take_zero,mh];exact h) fun i hi=>?_
 try dsimp only [Jt,Js,Jr,Kz]
 repeat' (first|refine JU ?_|refine JG a5 JA ?_)
 refine ar rfl (fun h=>?_) (fun h=>?_)
 ·have hil:i < l.length:=by have:=Jz h;simp at this;omega
  obtain ⟨z,hz⟩:∃z,l[i]?=some z:=⟨_,Hb hil⟩
  have hzg:=bH (c:=bR) hz
  have hzn:(l.map bz.Name)[i]?=some z.Name:=by rw [List.getElem?_map,hz];rfl
  repeat' (first|refine JU ?_|refine am ?_|refine JG a5 JA ?_|(apply aL;first|refine aK a5 ?_|refine aG a5 ?_)|(apply aM;first|refine JI 7 a5 0 JF ?_|refine JI 7 a5 1 JF ?_|refine JI 7 a5 2 JF ?_|refine JH a5 0 JE ?_|refine JH a5 1 JE ?_|refine JH a5 2 JE ?_|refine JH a5 3 JE ?_|fail)|refine bj a5 fun _=>?_|fail)
  refine jx (cs:=[.agg (bR z)]) (caps:=[]) (qQ z) rfl rfl rfl rfl rfl ?_
  repeat' (first|fail)
  refine it 0 (.int .i64 0) Tryz.underlying129 Tryz.underlying9 rfl rfl trivial rfl (by kernel_rfl) rfl ?_
  rw [kX]
  repeat' (first|refine JU ?_|refine JG a5 JA ?_)
  refine ar rfl (fun h2=>?_) (fun h2=>?_)
  ·have h2':(d4 ((l.map bz.Name).take i) z.Name).isSome=false:=by simpa using h2
   repeat' (first|refine JU ?_|refine JG a5 JA ?_)
   refine jx (cs:=[.agg (bR z)]) (caps:=[]) (qQ z) rfl rfl rfl rfl rfl ?_
   repeat' (first|refine JG a5 JA ?_)
   refine eo 0 (cN ((l.map bz.Name).take (i+1))) Tryz.underlying129 Tryz.underlying9 rfl rfl trivial rfl rfl (kW hzn h2') (k9 hzn) ?_
   repeat' (first|refine JU ?_|refine JG a5 JA ?_|(apply aS;refine aQ ?_)|fail)
   exact aC (i+1) rfl ⟨by rw [Jw];rfl,trivial⟩ (by omega) (by omega) (fun _ _ h=>h)
  ·have h2':(d4 ((l.map bz.Name).take i) z.Name).isSome=true:=by simpa using h2
   repeat' (first|refine JU ?_|refine JG a5 JA ?_|(apply aS;refine aQ ?_)|fail)
   exact aC (i+1) rfl ⟨by rw [Jw];rfl,trivial⟩ (by omega) (by omega) (fun _ _ h=>by rw [k8 hzn h2'];exact h)
 ·have hil:i=l.length:=by have:=Jy h;simp at this;omega
  subst hil
  rw [List.take_of_length_le (by simp)]
  repeat' (first|refine JU ?_|refine JG a5 JA ?_)
  exact JM JA ⟨_,rfl,rfl⟩
set_option maxHeartbeats 1000000 in
theorem BT (l:List c7):AC Tryz.prog 43 [.imm 2 (l.map co),.sc (.func (.func 44) #[] #[])] [] fun c L=>∃m,c= .sc (.map (some m))∧L=[(m,cX .string (cN (l.map c7.Name)))]:=by
 refine aN Tryz.func43 rfl Tryz.ntmps43 rfl fun B=>?_
 refine cB 0 rfl rfl fun hlen=>?_
 rw [Jv] at hlen
 repeat' (first|refine JU ?_|refine JG a5 JA ?_)
 refine fW .string fun m=>?_
 repeat' (first|refine JU ?_|refine am ?_|refine JG a5 JA ?_)
 refine aP [1,5,11,12] (α:=Nat) (fun i=>[(13,aF i)]) (fun i=>i≤l.length) (fun i=>[(m,cX .string (cN ((l.map c7.Name).take i)))]) (fun i=>l.length - i) 0 rfl ⟨rfl,trivial⟩ (Nat.zero_le _) (fun _ _ h=>by rw [List.take_zero,mh];exact h) fun i hi=>?_
 try dsimp only [Jt,Js,Jr,Kz]
 repeat' (first|refine JU ?_|refine JG a5 JA ?_)
 refine ar rfl (fun h=>?_) (fun h=>?_)
 ·have hil:i < l.length:=by have:=Jz h;simp at this;omega
  obtain ⟨z,hz⟩:∃z,l[i]?=some z:=⟨_,Hb hil⟩
  have hzg:=bH (c:=co) hz
  have hzn:(l.map c7.Name)[i]?=some z.Name:=by rw [List.getElem?_map,hz];rfl
  repeat' (first|refine JU ?_|refine am ?_|refine JG a5 JA ?_|(apply aL;first|refine aK a5 ?_|refine aG a5 ?_)|(apply aM;first|refine JI 7 a5 0 JF ?_|refine JI 7 a5 1 JF ?_|refine JI 7 a5 2 JF ?_|refine JH a5 0 JE ?_|refine JH a5 1 JE ?_|refine JH a5 2 JE ?_|refine JH a5 3 JE ?_|fail)|refine bj a5 fun _=>?_|fail)
  refine jx (cs:=[.agg (co z)]) (caps:=[]) (qR z) rfl rfl rfl rfl rfl ?_
  repeat' (first|fail)
  refine it 0 (.int .i64 0) Tryz.underlying129 Tryz.underlying9 rfl rfl trivial rfl (by kernel_rfl) rfl ?_
  rw [kX]
  repeat' (first|refine JU ?_|refine JG a5 JA ?_)
  refine ar rfl (fun h2=>?_) (fun h2=>?_)
  ·have h2':(d4 ((l.map c7.Name).take i) z.Name).isSome=false:=by simpa using h2
   repeat' (first|refine JU ?_|refine JG a5 JA ?_)
   refine jx (cs:=[.agg (co z)]) (caps:=[]) (qR z) rfl rfl rfl rfl rfl ?_
   repeat' (first|refine JG a5 JA ?_)
   refine eo 0 (cN ((l.map c7.Name).take (i+1))) Tryz.underlying129 Tryz.underlying9 rfl rfl trivial rfl rfl (kW hzn h2') (k9 hzn) ?_
   repeat' (first|refine JU ?_|refine JG a5 JA ?_|(apply aS;refine aQ ?_)|fail)
   exact aC (i+1) rfl ⟨by rw [Jw];rfl,trivial⟩ (by omega) (by omega) (fun _ _ h=>h)
  ·have h2':(d4 ((l.map c7.Name).take i) z.Name).isSome=true:=by simpa using h2
   repeat' (first|refine JU ?_|refine JG a5 JA ?_|(apply aS;refine aQ ?_)|fail)
   exact aC (i+1) rfl ⟨by rw [Jw];rfl,trivial⟩ (by omega) (by omega) (fun _ _ h=>by rw [k8 hzn h2'];exact h)
 ·have hil:i=l.length:=by have:=Jy h;simp at this;omega
  subst hil
  rw [List.take_of_length_le (by simp)]
  repeat' (first|refine JU ?_|refine JG a5 JA ?_)
  exact JM JA ⟨_,rfl,rfl⟩
set_option maxHeartbeats 1000000 in
theorem BU (l:List ez):AC Tryz.prog 45 [.imm 4 (l.map cL),.sc (.func (.func 46) #[] #[])] [] fun c L=>∃m,c= .sc (.map (some m))∧L=[(m,cX .string (cN (l.map ez.Name)))]:=by
 refine aN Tryz.func45 rfl Tryz.ntmps45 rfl fun B=>?_
 refine cB 0 rfl rfl fun hlen=>?_
 rw [Jv] at hlen
 repeat' (first|refine JU ?_|refine JG a5 JA ?_)
 refine fW .string fun m=>?_
 repeat' (first|refine JU ?_|refine am ?_|refine JG a5 JA ?_)
 refine aP [1,5,11,12] (α:=Nat) (fun i=>[(13,aF i)]) (fun i=>i≤l.length) (fun i=>[(m,cX .string (cN ((l.map ez.Name).take i)))]) (fun i=>l.length - i) 0 rfl ⟨rfl,trivial⟩ (Nat.zero_le _) (fun _ _ h=>by rw [List.take_zero,mh];exact h) fun i hi=>?_
 try dsimp only [Jt,Js,Jr,Kz]
 repeat' (first|refine JU ?_|refine JG a5 JA ?_)
 refine ar rfl (fun h=>?_) (fun h=>?_)
 ·have hil:i < l.length:=by have:=Jz h;simp at this;omega
  obtain ⟨z,hz⟩:∃z,l[i]?=some z:=⟨_,Hb hil⟩
  have hzg:=bH (c:=cL) hz
  have hzn:(l.map ez.Name)[i]?=some z.Name:=by rw [List.getElem?_map,hz];rfl
  repeat' (first|refine JU ?_|refine am ?_|refine JG a5 JA ?_|(apply aL;first|refine aK a5 ?_|refine aG a5 ?_)|(apply aM;first|refine JI 7 a5 0 JF ?_|refine JI 7 a5 1 JF ?_|refine JI 7 a5 2 JF ?_|refine JH a5 0 JE ?_|refine JH a5 1 JE ?_|refine JH a5 2 JE ?_|refine JH a5 3 JE ?_|fail)|refine bj a5 fun _=>?_|fail)
  refine jx (cs:=[.agg (cL z)]) (caps:=[]) (qS z) rfl rfl rfl rfl rfl ?_
  repeat' (first|fail)
  refine it 0 (.int .i64 0) Tryz.underlying129 Tryz.underlying9 rfl rfl trivial rfl (by kernel_rfl) rfl ?_
  rw [kX]
  repeat' (first|refine JU ?_|refine JG a5 JA ?_)
  refine ar rfl (fun h2=>?_) (fun h2=>?_)
  ·have h2':(d4 ((l.map ez.Name).take i) z.Name).isSome=false:=by simpa using h2
   repeat' (first|refine JU ?_|refine JG a5 JA ?_)
   refine jx (cs:=[.agg (cL z)]) (caps:=[]) (qS z) rfl rfl rfl rfl rfl ?_
   repeat' (first|refine JG a5 JA ?_)
   refine eo 0 (cN ((l.map ez.Name).take (i+1))) Tryz.underlying129 Tryz.underlying9 rfl rfl trivial rfl rfl (kW hzn h2') (k9 hzn) ?_
   repeat' (first|refine JU ?_|refine JG a5 JA ?_|(apply aS;refine aQ ?_)|fail)
   exact aC (i+1) rfl ⟨by rw [Jw];rfl,trivial⟩ (by omega) (by omega) (fun _ _ h=>h)
  ·have h2':(d4 ((l.map ez.Name).take i) z.Name).isSome=true:=by simpa using h2
   repeat' (first|refine JU ?_|refine JG a5 JA ?_|(apply aS;refine aQ ?_)|fail)
   exact aC (i+1) rfl ⟨by rw [Jw];rfl,trivial⟩ (by omega) (by omega) (fun _ _ h=>by rw [k8 hzn h2'];exact h)
 ·have hil:i=l.length:=by have:=Jy h;simp at this;omega
  subst hil
  rw [List.take_of_length_le (by simp)]
  repeat' (first|refine JU ?_|refine JG a5 JA ?_)
  exact JM JA ⟨_,rfl,rfl⟩
end Go.Proofs.YtpmdfoaadejmkaaGreatDoor
namespace Go.Proofs.YtpmdfoaadejmkaaGreatDoor
open Go.RowKit
attribute [local irreducible] AT bK AX AO Av Kt bh dw DA cK
theorem kV (names:List ByteArray) (s:ByteArray):(cN names (.string s)).getD (.sc (.int .i64 0))=aF ((d4 names s).getD 0:Nat):=by
 show (Option.map (fun n:Nat=>aF (n:Int)) (d4 names s)).getD (.sc (.int .i64 0))=_
 cases d4 names s <;> rfl
def kq (names:List ByteArray) (i:Nat) (s:ByteArray):Bool:=decide ((((d4 names s).getD 0:Nat):Int) < (i:Int))
def kc (f:b7):List ByteArray:=f.Glyphs.map bz.Name
def lw (f:b7):List ByteArray:=f.Features.map c7.Name
def iv (f:b7):List ByteArray:=f.Axes.map ez.Name
def ek (f:b7) (i:Nat) (g:bz):Int:=o8 f g (kU (gn g.Name) (kq (kc f) i g.Name))
def k6 (f:b7) (i:Nat) (t:c7):Int:=uG f t (kU (ff t.Name) (kq (lw f) i t.Name))
def jV (f:b7) (i:Nat) (a:ez):Int:=ur a (kU (gn a.Name) (kq (iv f) i a.Name))
set_option maxHeartbeats 1000000 in
theorem wE (f:b7) (i:Nat) (g:bz) (m:Nat):AC Tryz.prog 51 [aF i,.agg (bR g),.iptr (cE f),.iptr [.sc (.map (some m))]] [(m,cX .string (cN (kc f)))] fun c L=>c=aF (ek f i g)∧L=[(m,cX .string (cN (kc f)))]:=by
 refine aN Tryz.func51 rfl Tryz.ntmps51 rfl fun B=>?_
 repeat' (first|refine JU ?_|refine JG a5 JA ?_|refine bf ?_|fail)
 refine br 12 [(0,.v),(1,.v),(2,.v),(3,.v),(4,.v),(5,.v),(6,.v),(7,.v),(9,.v),(8,.e),(10,.v),(11,.v)] none ?_ trivial rfl (by kernel_rfl) (by kernel_rfl) (by kernel_rfl) bQ (by kernel_rfl) rfl
 repeat' (first|refine aD ?_|refine b8 a5 ?_|(apply cW;refine du ?_)|fail)
 refine q9 0 (.int .i64 0) Tryz.underlying129 Tryz.underlying9 rfl rfl trivial rfl (by kernel_rfl) trivial ?_
 rw [kV]
 repeat' (first|refine aD ?_|refine b8 a5 ?_|(apply cW;refine du ?_)|fail)
 refine JQ [7,8,18] JA ?_
 repeat' (first|refine JU ?_|refine a7 ?_|refine JG a5 JA ?_|(apply bw;refine bn ?_)|fail)
 exact JM JA ⟨rfl,rfl⟩
set_option maxHeartbeats 1000000 in
theorem zm (f:b7) (i:Nat) (t:c7) (m:Nat):AC Tryz.prog 64 [aF i,.agg (co t),.iptr (cE f),.iptr [.sc (.map (some m))]] [(m,cX .string (cN (lw f)))] fun c L=>c=aF (k6 f i t)∧L=[(m,cX .string (cN (lw f)))]:=by
 refine aN Tryz.func64 rfl Tryz.ntmps64 rfl fun B=>?_
 repeat' (first|refine JU ?_|refine JG a5 JA ?_|refine bf ?_|fail)
 refine br 12 [(0,.v),(1,.v),(2,.v),(3,.v),(4,.v),(5,.v),(6,.v),(7,.v),(9,.v),(8,.e),(10,.v),(11,.v)] none ?_ trivial rfl (by kernel_rfl) (by kernel_rfl) (by kernel_rfl) bQ (by kernel_rfl) rfl
 repeat' (first|refine aD ?_|refine b8 a5 ?_|(apply cW;refine du ?_)|fail)
 refine q9 0 (.int .i64 0) Tryz.underlying129 Tryz.underlying9 rfl rfl trivial rfl (by kernel_rfl) trivial ?_
 rw [kV]
 repeat' (first|refine aD ?_|refine b8 a5 ?_|(apply cW;refine du ?_)|fail)
 refine JQ [7,8,18] JA ?_
 repeat' (first|refine JU ?_|refine a7 ?_|refine JG a5 JA ?_|(apply bw;refine bn ?_)|fail)
 exact JM JA ⟨rfl,rfl⟩
set_option maxHeartbeats 1000000 in
theorem yS (f:b7) (i:Nat) (a:ez) (m:Nat):AC Tryz.prog 68 [aF i,.agg (cL a),.iptr [.sc (.map (some m))]] [(m,cX .string (cN (iv f)))] fun c L=>c=aF (jV f i a)∧L=[(m,cX .string (cN (iv f)))]:=by
 refine aN Tryz.func68 rfl Tryz.ntmps68 rfl fun B=>?_
 repeat' (first|refine JU ?_|refine JG a5 JA ?_|refine bf ?_|fail)
 refine br 11 [(0,.v),(1,.v),(2,.v),(3,.v),(4,.v),(5,.v),(6,.v),(8,.v),(7,.e),(9,.v),(10,.v)] none ?_ trivial rfl (by kernel_rfl) (by kernel_rfl) (by kernel_rfl) bQ (by kernel_rfl) rfl
 repeat' (first|refine aD ?_|refine b8 a5 ?_|(apply cW;refine du ?_)|fail)
 refine q9 0 (.int .i64 0) Tryz.underlying129 Tryz.underlying9 rfl rfl trivial rfl (by kernel_rfl) trivial ?_
 rw [kV]
 repeat' (first|refine aD ?_|refine b8 a5 ?_|(apply cW;refine du ?_)|fail)
 refine JQ [6,16] JA ?_
 repeat' (first|refine JU ?_|refine a7 ?_|refine JG a5 JA ?_|(apply bw;refine bn ?_)|fail)
 exact JM JA ⟨rfl,rfl⟩
end Go.Proofs.YtpmdfoaadejmkaaGreatDoor
