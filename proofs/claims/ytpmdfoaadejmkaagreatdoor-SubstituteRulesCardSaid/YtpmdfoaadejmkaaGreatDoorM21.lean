/-
  An engine is made: the walk.
-/
import Derived.Test.YtpmdfoaadejmkaaGreatDoorM20
import Derived.Test.YtpmdfoaadejmkaaGreatDoorM14
import Derived.Test.YtpmdfoaadejmkaaGreatDoorM12
import Derived.Test.YtpmdfoaadejmkaaGreatDoorM18
import Derived.Test.YtpmdfoaadejmkaaGreatDoorM11
namespace Go.Proofs.YtpmdfoaadejmkaaGreatDoor
open Go.RowKit
attribute [local irreducible] AT bJ AX AO Av Kt bi dq DA cG
structure Gp (f:aZ):Prop where
 glyphs:0 < f.Glyphs.length∧f.Glyphs.length≤65536
 lookups:f.Lookups.length≤1000000
 look:∀l∈f.Lookups,yg f.Glyphs.length l
 rule:∀l∈f.Lookups,∀r∈l.Rules,Gk r
structure I4 (f:aZ) (E:pZ):Prop where
 ls:E.lks.map (·.l)=f.Lookups
 ms:E.ms=f.Glyphs.map bD.Mark
 auto:∀e∈E.lks,1≤e.l.Kind→e.l.Kind≤6→lu e
def K9:Option lr→List AV
 | none=>[cS,cS,cS,cS,cS]
 | some a=>Jl a
def Jc:lr:=⟨[],[],[],[],[]⟩
def IR (l:aL) (a:Option lr) (j:Nat):List AV:=[aF l.Kind,d6 l.Ignore,.imm 6 ((jO l).Rules.map bC)]++K9 a++[aF (dP (l.Rules.take j)),aF (eQ (l.Rules.take j))]
def AP (l:aL) (a:lr) (j:Nat):List AV:=[aF l.Kind,d6 l.Ignore,.imm 6 ((jO l).Rules.map bC),.imm 1 (aW a.cls),.imm 1 (bc a.fore),.imm 1 (bc a.back),.imm 1 (gJ a.foreE),.imm 1 (gJ a.backE),aF (dP (l.Rules.take j)),aF (eQ (l.Rules.take j))]
theorem DO (l:aL) (a:Option lr) (j:Nat):mE (IR l a j) (AP l (a.getD Jc) j):=by
 cases a with
 | none=>exact ⟨da.refl _,da.refl _,da.refl _,da.nil 1,da.nil 1,da.nil 1,da.nil 1,da.nil 1,da.refl _,da.refl _,trivial⟩
 | some a=>exact ⟨da.refl _,da.refl _,da.refl _,da.refl _,da.refl _,da.refl _,da.refl _,da.refl _,da.refl _,da.refl _,trivial⟩
theorem DP (l:aL) (a:lr):AP l a l.Rules.length=fM (F5 l a):=by
 unfold AP
 rw [List.take_length]
 rfl
theorem ra {rs:List bh} {j:Nat} {r:bh} (h:rs[j]?=some r):dP (rs.take (j+1))=max (dP (rs.take j)) (r.In.length+r.Ahead.length)∧eQ (rs.take (j+1))=max (eQ (rs.take j)) r.Back.length:=by
 unfold dP eQ
 rw [List.take_add_one,h]
 constructor <;> simp
theorem CP {N:Nat} {rs:List bh} (h:∀r∈rs,uI N r) (j:Nat):dP (rs.take j)≤200∧eQ (rs.take j)≤200:=⟨g8 (by omega) fun r hr=>(h r (List.mem_of_mem_take hr)).long.2,g8 (by omega) fun r hr=>(h r (List.mem_of_mem_take hr)).long.1⟩
theorem zN (l:List Bool) (b:Bool):oI l++[[d6 b]]=oI (l++[b]):=by simp [oI]
set_option maxHeartbeats 16000000 in
theorem HJ (f:aZ) (h:Gp f) (hck:AC Tryz.prog 25 [df f] [] fun c _=>∃n:Int,c=cD (0,n)):AC Tryz.prog 15 [df f] [] fun c _=>∃E,I4 f E∧c= .tup [.iptr (eC E),aF 0]:=by
 refine aN Tryz.func15 rfl Tryz.ntmps15 rfl fun B=>?_
 have hgl:(f.Glyphs.map bT).length=f.Glyphs.length:=Ku ..
 have hll:(f.Lookups.map bw).length=f.Lookups.length:=Ku ..
 obtain ⟨hN0,hN⟩:=h.glyphs
 have hL:=h.lookups
 repeat' (first|refine L3 ?_|refine KG a4 HY ?_|refine bA ?_|fail)
 refine b6 [] _ hck rfl rfl (Lz _) rfl fun c1 L1 ⟨n0,hc1⟩=>?_
 subst hc1
 refine aP (c6 (List.sublist_append_right ..)) ?_
 unfold cD
 repeat' (first|refine L3 ?_|refine ak ?_|refine KG a4 HY ?_|refine te (d:=25) fun _=>?_|refine bE rfl ?_)
 rename_i eb
 refine c8 (bG 0 (cs':=[.vec none 10 [],.vec none 1 []]) rfl fun σ vs hh=>mE.vrs (a:=[cS,cS]) (b:=[.vec none 10 [],.vec none 1 []]) ⟨fun σ v h=>d5 10 h,fun σ v h=>d5 1 h,trivial⟩ hh) ?_
 refine aR [1,6,27,28] (α:=List pY×Option (Nat×Nat)) (fun s=>[(29,aF s.1.length)]) (fun s=>s.1.length≤f.Lookups.length∧s.1.map (·.l)=f.Lookups.take s.1.length∧∀e∈s.1,1≤e.l.Kind→e.l.Kind≤6→lu e) (fun s=>(eb,.box [.vec s.2 10 (s.1.map fM),.vec none 1 []] 86)::tok s.2 97 10 s.1.length) (fun s=>f.Lookups.length - s.1.length) ([],none) rfl ⟨rfl,trivial⟩ ⟨Nat.zero_le _,rfl,fun e he=>by cases he⟩ (fun _ _ hh=>hh) ?_
 rintro ⟨es,q⟩ ⟨hk,hes,hau⟩
 dsimp only at hk hes hau ⊢
 try dsimp only [Kr,Kq,Kp,Lv]
 repeat' (first|refine L3 ?_|refine KG a4 HY ?_)
 refine aw rfl (fun h1=>?_) (fun h1=>?_)
 ·have hk2:es.length < f.Lookups.length:=by have:=Ky h1;omega
  obtain ⟨l,hl⟩:∃z,f.Lookups[es.length]?=some z:=⟨_,Kz hk2⟩
  have hlg:(f.Lookups.map bw)[es.length]?=some (bw l):=by simp [hl]
  have hlm:=Kw hl
  have hbl:=h.look l hlm
  have hfew:=hbl.few
  haveI:=AD.mk (vi l (by omega) (h.rule l hlm))
  have hbu:=Cj f es.length l hl hbl hN0 hN
  have hrl:(l.Rules.map bC).length=l.Rules.length:=Ku ..
  clear h1
  repeat' (first|refine L3 ?_|refine ak ?_|refine KG a4 HY ?_|(apply aQ;first|refine aO a4 ?_|refine aG a4 ?_)|(apply aM;first|refine KL 8 a4 0 KF ?_|refine KL 8 a4 1 KF ?_|refine KL 8 a4 2 KF ?_|refine KL 10 a4 0 KF ?_|refine KL 10 a4 1 KF ?_|refine KL 10 a4 2 KF ?_|refine KL 13 a4 0 KF ?_|refine KL 13 a4 1 KF ?_|refine KL 13 a4 2 KF ?_|refine KL 15 a4 0 KF ?_|refine KL 15 a4 1 KF ?_|refine KL 15 a4 2 KF ?_|refine KH a4 0 KE ?_|refine KH a4 1 KE ?_|refine KH a4 2 KE ?_|refine KH a4 3 KE ?_|fail)|refine bq a4 fun _=>?_|(apply bF;refine bv ?_)|fail)
  rename_i ob
  refine EP (α:=Option lr) [1,6,8,9,27,28,29] (fun _=>[(1,.iptr (cJ f)),(6,dA eb),(8,.iptr (bw l)),(9,dA ob),(27,.imm 3 (f.Lookups.map bw)),(28,.sc (.int .i64 ((f.Lookups.map bw).length:Int))),(29,aF es.length)]) (fun a=>(ob,.box (IR l a 0) 97)::(eb,.box [.vec q 10 (es.map fM),.vec none 1 []] 86)::tok q 97 10 es.length) (fun a=>1≤l.Kind→l.Kind≤6→∃a',a=some a'∧yh f.Glyphs.length l.Rules a') (fun Q' K=>?_) (fun a ha=>?_)
  ·refine aw rfl (fun h1=>?_) (fun h1=>?_)
   ·repeat' (first|refine L3 ?_|refine KG a4 HY ?_)
    refine b6 [] _ hbu rfl rfl (Lz _) rfl fun c1 L1 ⟨a,ha,hc1⟩=>?_
    subst hc1
    refine aP (c6 (List.sublist_append_right ..)) ?_
    repeat' (first|refine L3 ?_|refine KG a4 HY ?_|(apply aM;first|refine KL 8 a4 0 KF ?_|refine KL 8 a4 1 KF ?_|refine KL 8 a4 2 KF ?_|refine KL 10 a4 0 KF ?_|refine KL 10 a4 1 KF ?_|refine KL 10 a4 2 KF ?_|refine KL 13 a4 0 KF ?_|refine KL 13 a4 1 KF ?_|refine KL 13 a4 2 KF ?_|refine KL 15 a4 0 KF ?_|refine KL 15 a4 1 KF ?_|refine KL 15 a4 2 KF ?_|refine KH a4 0 KE ?_|refine KH a4 1 KE ?_|refine KH a4 2 KE ?_|refine KH a4 3 KE ?_|fail)|refine bq a4 fun _=>?_|refine bE rfl ?_)
    exact K (some a) _ (fun _ _=>⟨a,rfl,ha⟩) rfl
   ·repeat' (first|refine L3 ?_|fail)
    exact K none _ (fun h1' h6=>absurd (Kx h1) (fun hn=>hn ⟨h1',h6⟩)) rfl
  ·have hA:1≤l.Kind→l.Kind≤6→yh f.Glyphs.length l.Rules (a.getD Jc):=fun h1 h6=>by
    obtain ⟨a',rfl,hb⟩:=ha h1 h6
    exact hb
   refine c8 (bG 0 (cs':=AP l (a.getD Jc) 0) rfl fun σ vs hh=>(DO l a 0).vrs hh) ?_
   generalize a.getD Jc=A at hA
   clear ha
   repeat' (first|refine L3 ?_|refine ak ?_|refine KG a4 HY ?_)
   refine aR [1,6,9,27,28,29,52,53] (α:=Nat) (fun j=>[(54,aF j)]) (fun j=>j≤l.Rules.length) (fun j=>(ob,.box (AP l A j) 97)::(eb,.box [.vec q 10 (es.map fM),.vec none 1 []] 86)::tok q 97 10 es.length) (fun j=>l.Rules.length - j) 0 rfl ⟨rfl,trivial⟩ (Nat.zero_le _) (fun _ _ hh=>hh) fun j hj=>?_
   try dsimp only [Kr,Kq,Kp,Lv]
   repeat' (first|refine L3 ?_|refine KG a4 HY ?_)
   refine aw rfl (fun h1=>?_) (fun h1=>?_)
   ·have hj2:j < l.Rules.length:=by have:=Ky h1;omega
    obtain ⟨r,hr⟩:∃z,l.Rules[j]?=some z:=⟨_,Kz hj2⟩
    have hrg:(l.Rules.map bC)[j]?=some (bC r):=by simp [hr]
    have hlong:=(hbl.rule r (Kw hr)).long
    have hl1:=bY r.In
    have hl2:=bY r.Ahead
    have hl3:=bY r.Back
    obtain ⟨hfb,hbb⟩:=CP hbl.rule j
    obtain ⟨hfs,hbs⟩:=ra hr
    clear h1
    repeat' (first|refine L3 ?_|refine ak ?_|refine KG a4 HY ?_|(apply bo;first|refine KM a4 0 KC ?_|refine KM a4 1 KC ?_|refine KM a4 2 KC ?_|refine KM a4 3 KC ?_|refine KN a4 0 KC ?_|refine KN a4 1 KC ?_|refine KN a4 2 KC ?_|refine KO a4 1 KA (by assumption) rfl ?_|refine KO a4 0 KA (by assumption) rfl ?_|fail)|(apply aU;refine aT ?_)|(apply aQ;first|refine aO a4 ?_|refine aG a4 ?_)|(apply aM;first|refine KL 8 a4 0 KF ?_|refine KL 8 a4 1 KF ?_|refine KL 8 a4 2 KF ?_|refine KL 10 a4 0 KF ?_|refine KL 10 a4 1 KF ?_|refine KL 10 a4 2 KF ?_|refine KL 13 a4 0 KF ?_|refine KL 13 a4 1 KF ?_|refine KL 13 a4 2 KF ?_|refine KL 15 a4 0 KF ?_|refine KL 15 a4 1 KF ?_|refine KL 15 a4 2 KF ?_|refine KH a4 0 KE ?_|refine KH a4 1 KE ?_|refine KH a4 2 KE ?_|refine KH a4 3 KE ?_|fail)|refine bq a4 fun _=>?_|fail)
    refine aD (j+1) rfl ⟨by rw [Kv];rfl,trivial⟩ hj2 (by omega) (fun _ _ hh=>?_)
    have e1:((max (dP (l.Rules.take j)) (r.In.length+r.Ahead.length):Nat):Int)=max ((dP (l.Rules.take j):Nat):Int) (((bc r.In).length:Int)+((bc r.Ahead).length:Int)):=by omega
    have e2:((max (eQ (l.Rules.take j)) r.Back.length:Nat):Int)=max ((eQ (l.Rules.take j):Nat):Int) ((bc r.Back).length:Int):=by omega
    unfold AP
    rw [hfs,hbs,e1,e2]
    exact hh
   ·have hj2:j=l.Rules.length:=by have:=Kx h1;omega
    subst hj2
    rw [DP]
    clear h1
    have hel:(es.map fM).length=es.length:=Ku ..
    have hsn:es.map fM++[fM (F5 l A)]=(es++[F5 l A]).map fM:=by rw [List.map_append];rfl
    repeat' (first|refine L3 ?_|fail)
    refine bn 8 [(0,.v),(1,.v),(2,.v),(3,.v),(4,.l),(5,.l),(6,.v),(7,.e)] none ?_ trivial rfl (by kernel_rfl) (by kernel_rfl) (by kernel_rfl) bI (by kernel_rfl) rfl
    repeat' (first|refine aB ?_|refine aX a4 ?_|refine eD a4 ?_|refine KY a4 1 KB (by first|trivial|rfl) ?_|refine qc a4 0 rfl rfl rfl rfl (by first|trivial|rfl) ?_)
    refine fx a4 [(ob,.box (fM (F5 l A)) 97),(eb,.box [.vec q 10 (es.map fM),.vec none 1 []] 86)] rfl rfl rfl rfl (by rw [hel];exact List.perm_append_comm (l₁:=[_,_])) (by rw [hel];simp;omega) (by rw [hel];simp;omega) trivial fun q'=>?_
    repeat' (first|fail)
    refine KU [1,6,27,28,29,77,84] HY ?_
    refine aP (aI (L':=(ob,.box (fM (F5 l A)) 97)::(eb,.box [.vec q 10 (es.map fM),.vec none 1 []] 86)::tok q' 97 10 (es.map fM++[fM (F5 l A)]).length) (List.perm_append_comm (l₂:=[_,_]))) ?_
    repeat' (first|refine L3 ?_|refine KG a4 HY ?_|(apply aU;refine aT ?_)|(apply aM;first|refine KL 8 a4 0 KF ?_|refine KL 8 a4 1 KF ?_|refine KL 8 a4 2 KF ?_|refine KL 10 a4 0 KF ?_|refine KL 10 a4 1 KF ?_|refine KL 10 a4 2 KF ?_|refine KL 13 a4 0 KF ?_|refine KL 13 a4 1 KF ?_|refine KL 13 a4 2 KF ?_|refine KL 15 a4 0 KF ?_|refine KL 15 a4 1 KF ?_|refine KL 15 a4 2 KF ?_|refine KH a4 0 KE ?_|refine KH a4 1 KE ?_|refine KH a4 2 KE ?_|refine KH a4 3 KE ?_|fail))
    have hll2:(es++[F5 l A]).length=es.length+1:=by simp
    refine aD (es++[F5 l A],q') rfl ⟨by dsimp only;rw [hll2,Kv];rfl,trivial⟩ ⟨by dsimp only;omega,?_,?_⟩ (by dsimp only;omega) (fun σ w hh=>?_)
    ·dsimp only
     rw [List.map_append,hes,hll2,List.take_add_one,hl]
     rfl
    ·intro e he h1 h6
     rw [List.mem_append,List.mem_singleton] at he
     rcases he with he | rfl
     ·exact hau e he h1 h6
     ·exact ES hbl (hA h1 h6)
    ·have h2:=hh.sublist (List.sublist_cons_self ..)
     rw [hsn,Ku] at h2
     dsimp only
     rw [←hsn]
     exact h2
 ·have hk2:es.length=f.Lookups.length:=by have:=Kx h1;omega
  rw [hk2,List.take_length] at hes
  clear h1
  repeat' (first|refine L3 ?_|refine ak ?_|refine KG a4 HY ?_)
  refine aR [6,89,90] (α:=Nat×Option (Nat×Nat)) (fun s=>[(91,aF s.1)]) (fun s=>s.1≤f.Glyphs.length) (fun s=>(eb,.box [.vec q 10 (es.map fM),.vec s.2 1 (oI ((f.Glyphs.map bD.Mark).take s.1))] 86)::(tok q 97 10 es.length++tok s.2 4 1 s.1)) (fun s=>f.Glyphs.length - s.1) (0,none) rfl ⟨rfl,trivial⟩ (Nat.zero_le _) (fun σ w hh=>by show di B σ ((eb,.box [.vec q 10 (es.map fM),.vec none 1 []] 86)::(tok q 97 10 es.length++[])) w;rw [List.append_nil];exact hh) ?_
  rintro ⟨k,q2⟩ hk3
  dsimp only at hk3 ⊢
  try dsimp only [Kr,Kq,Kp,Lv]
  repeat' (first|refine L3 ?_|refine KG a4 HY ?_)
  refine aw rfl (fun h1=>?_) (fun h1=>?_)
  ·have hk4:k < f.Glyphs.length:=by have:=Ky h1;omega
   obtain ⟨g,hg⟩:∃z,f.Glyphs[k]?=some z:=⟨_,Kz hk4⟩
   have hgg:(f.Glyphs.map bT)[k]?=some (bT g):=by simp [hg]
   have hbl:(oI ((f.Glyphs.map bD.Mark).take k)).length=k:=by rw [vb,List.length_take,Ku];omega
   have hbs:(f.Glyphs.map bD.Mark).take (k+1)=(f.Glyphs.map bD.Mark).take k++[g.Mark]:=by rw [List.take_add_one,List.getElem?_map,hg];rfl
   have hsn:=zN ((f.Glyphs.map bD.Mark).take k) g.Mark
   rw [←hbs] at hsn
   generalize oI ((f.Glyphs.map bD.Mark).take k)=bl at *
   clear h1
   repeat' (first|refine L3 ?_|refine ak ?_|refine KG a4 HY ?_|(apply aQ;first|refine aO a4 ?_|refine aG a4 ?_)|(apply aM;first|refine KL 8 a4 0 KF ?_|refine KL 8 a4 1 KF ?_|refine KL 8 a4 2 KF ?_|refine KL 10 a4 0 KF ?_|refine KL 10 a4 1 KF ?_|refine KL 10 a4 2 KF ?_|refine KL 13 a4 0 KF ?_|refine KL 13 a4 1 KF ?_|refine KL 13 a4 2 KF ?_|refine KL 15 a4 0 KF ?_|refine KL 15 a4 1 KF ?_|refine KL 15 a4 2 KF ?_|refine KH a4 0 KE ?_|refine KH a4 1 KE ?_|refine KH a4 2 KE ?_|refine KH a4 3 KE ?_|fail)|refine bq a4 fun _=>?_|fail)
   refine bn 9 [(0,.v),(1,.v),(2,.v),(3,.v),(4,.l),(5,.v),(6,.v),(7,.v),(8,.e)] none ?_ trivial rfl (by kernel_rfl) (by kernel_rfl) (by kernel_rfl) bI (by kernel_rfl) rfl
   repeat' (first|refine aB ?_|refine aX a4 ?_|refine eD a4 ?_|refine KY a4 0 KB (by first|trivial|rfl) ?_)
   refine fx a4 ((eb,.box [.vec q 10 (es.map fM),.vec q2 1 bl] 86)::tok q 97 10 es.length) rfl rfl rfl rfl (by rw [hbl];exact (List.perm_append_comm (l₁:=_::tok q 97 10 es.length))) (by rw [hbl];simp;omega) (by rw [hbl];simp;omega) trivial fun q'=>?_
   repeat' (first|fail)
   refine KU [6,89,90,91,95,103] HY ?_
   refine aP (aI (L':=(eb,.box [.vec q 10 (es.map fM),.vec q2 1 bl] 86)::(tok q 97 10 es.length++tok q' 4 1 (k+1))) (by rw [List.length_append,hbl];exact (List.perm_append_comm (l₂:=_::tok q 97 10 es.length)))) ?_
   repeat' (first|refine L3 ?_|refine KG a4 HY ?_|(apply aU;refine aT ?_)|(apply aM;first|refine KL 8 a4 0 KF ?_|refine KL 8 a4 1 KF ?_|refine KL 8 a4 2 KF ?_|refine KL 10 a4 0 KF ?_|refine KL 10 a4 1 KF ?_|refine KL 10 a4 2 KF ?_|refine KL 13 a4 0 KF ?_|refine KL 13 a4 1 KF ?_|refine KL 13 a4 2 KF ?_|refine KL 15 a4 0 KF ?_|refine KL 15 a4 1 KF ?_|refine KL 15 a4 2 KF ?_|refine KH a4 0 KE ?_|refine KH a4 1 KE ?_|refine KH a4 2 KE ?_|refine KH a4 3 KE ?_|fail))
   exact aD (k+1,q') rfl ⟨by rw [Kv];rfl,trivial⟩ hk4 (by dsimp only;omega) (fun _ _ hh=>by dsimp only;rw [←hsn];exact hh)
  ·have hk4:k=f.Glyphs.length:=by have:=Kx h1;omega
   subst hk4
   rw [List.take_of_length_le (by rw [Ku];exact Nat.le_refl _)]
   clear h1
   repeat' (first|refine L3 ?_|refine KG a4 HY ?_)
   refine bj (bG 0 (cs':=eC ⟨es,f.Glyphs.map bD.Mark⟩) rfl fun σ vs hh=>mE.vrs (a:=[.vec q 10 (es.map fM),.vec q2 1 (oI (f.Glyphs.map bD.Mark))]) (b:=eC ⟨es,f.Glyphs.map bD.Mark⟩) ⟨fun σ v h=>VR.im h,fun σ v h=>VR.im h,trivial⟩ hh) ?_
   refine bj (sh (t:=2) (cs:=eC ⟨es,f.Glyphs.map bD.Mark⟩) 0 rfl rfl rfl) ?_
   refine dH (List.nil_sublist _) ?_
   exact KX KA ⟨⟨es,f.Glyphs.map bD.Mark⟩,⟨hes,rfl,hau⟩,rfl⟩
def fI:Nat→List Int→List aJ
 | _,[]=>[]
 | i,g::l=>⟨g,i,0,0,0,0⟩::fI (i+1) l
def fh (l:List Int):List aJ:=fI 0 l
def kV:List Bool:=[false,false,false,false,true]
def IF (ig:Bool):List aL:=[⟨3,ig,[⟨[],[[0],[1]],[],[2],[],0⟩]⟩]
def ua (a b c:Nat):List Int:=List.replicate a 4++0::(List.replicate b 4++1::List.replicate c 4)
def vP (a b c:Nat) (ig:Bool):List Int:=if 0 < b∧ig=false then ua a b c else List.replicate a 4++2::(List.replicate b 4++List.replicate c 4)
def Do (a b c:Nat) (ig:Bool):Bool:=
 let out:=cK kV (IF ig) 0 (fh (ua a b c)) []
 (out.map aJ.Glyph==vP a b c ig) && (decide ((vP a b c ig).length=(ua a b c).length) || (match out[a]? with | some x=>decide (x.Cluster=a) | none=>false))
def Jb:Bool:=(List.range 8).all fun a=>(List.range 8).all fun b=>(List.range 8).all fun c=>Do a b c true && Do a b c false
def IX:bh:=⟨[],[[0]],[[1]],[1],[],0⟩
def FS:List aL:=[⟨5,false,[IX]⟩,⟨1,false,[IX]⟩]
def DY (n:Nat):List Int:=List.replicate n 0++[1]
def HR (n:Nat):List Int:=(List.range (n+1)).map fun (k:Nat)=>if (n:Int) - 1≤(k:Int) then (1:Int) else 0
def Kh (n:Nat):Bool:=((cK kV FS 0 (fh (DY n)) []).map aJ.Glyph==List.replicate (n+1) 1) && ((cK kV FS 1 (fh (DY n)) []).map aJ.Glyph==HR n)
def Is (k:Nat):List aL:=[⟨4,false,[⟨[],[[0]],[],[],[⟨0,1⟩,⟨0,2⟩,⟨0,0⟩],0⟩]⟩,⟨1,false,[⟨[],[[0]],[],[2],[],0⟩]⟩,⟨2,false,[⟨[],[[2]],[],List.replicate k 1,[],0⟩]⟩]
def JV (n k:Nat):Bool:=
 let out:=cK kV (Is k) 0 (fh (List.replicate n 0)) []
 if k=0 then decide (out.length < n) else out.map aJ.Glyph==List.replicate (n * k) 1
end Go.Proofs.YtpmdfoaadejmkaaGreatDoor
namespace Go.Proofs.YtpmdfoaadejmkaaGreatDoor
open Go.RowKit
attribute [local irreducible] AT bJ AX AO Av Kt bi dq DA cG
open Go.MapKept
section
variable {P:Program} {r:Option Nat} {ops:Array Oper} {Q:Exit→Act→World→Prop} {nt:Nat} {D:List Deferred} {fr:cf} {B:Bs} {L:AL} {rest:List Oper} {d:Nat} {ty t:TypeId} {pos:String} {af:Array Edge} {x y z:Operand} {u:AV} {cd:Code}
theorem ka {f:FuncId} {args:Array Operand} {ts:Array TypeId} {cs caps:List AV} {v:AV} [bM P f] (hc:bU P f (cs++caps) v) (hx:br fr x=some u) (hu:lm u=some (f,caps)) (hv:eM fr args.toList=some cs) (hn:Oper.noDefer ⟨some d,.call ⟨.value x,args,ts⟩,ty,pos,af,none⟩=true) (hd:Nat.ble nt d=false) (h:bJ P r ops Q nt D rest ((d,v)::fr) B L):
  bJ P r ops Q nt D (⟨some d,.call ⟨.value x,args,ts⟩,ty,pos,af,none⟩::rest) fr B L:=
 dQ [] L hc hx hu hv (Lz _) hn hd fun c L1 hc=>by
  have hc':c=v:=hc
  subst hc'
  exact aP (c6 (List.sublist_append_right ..)) h
theorem ER (t:Nat) {u:AV} {s:Nat} {l:List (List AV)} (hl:ci fr t=some u) (hu:iL u=some (s,l)) (h:l.length≤9223372036854775807→bJ P r ops Q nt D rest fr B L):bJ P r ops Q nt D rest fr B L:=
 EQ (fun σ a w ha _=>(D5 (ha.look t u hl) hu).1) h
end
def vI (t:ck) (i:Nat) (l:Int):Bool:=match i with | 0=>false | j+1=>match t.Lookups[j]? with | some b=>decide (l≤b) | none=>false
def qd (f:aZ) (t:ck) (i:Nat) (l:Int):Int:=eu (decide (l < 0∨l≥f.Lookups.length) || vI t i l) 43
set_option maxHeartbeats 1000000 in
theorem Ab (f:aZ) (t:ck) (i:Nat) (l:Int) (hl:t.Lookups[i]?=some l) (hn:t.Lookups.length≤9223372036854775807):bU Tryz.prog 144 [aF i,aF l,.iptr (cJ f),.iptr (cy t)] (aF (qd f t i l)):=by
 refine aN Tryz.func144 rfl Tryz.ntmps144 rfl fun B=>?_
 have hil:=(Ko hl).1
 unfold qd
 cases i with
 | zero=>
  repeat' (first|refine L3 ?_|refine KG a4 HY ?_)
  refine dG (t:=7) [] (l < 0∨l≥f.Lookups.length) rfl (fun Q' K=>?_) ?_
  ·repeat' (first|refine L3 ?_|refine KG a4 HY ?_|refine KR HY ?_|refine KV KB ?_|refine dg rfl rfl rfl ?_|refine KW KA (fun _=>?_) (fun _=>?_))
   all_goals exact K _ _ rfl rfl (by clear K;simp_all <;> omega)
  repeat' (first|refine L3 ?_|refine KG a4 HY ?_|(apply bF;refine bv ?_)|fail)
  refine KP HY ?_
  simp [vI]
 | succ j=>
  obtain ⟨b,hb⟩:∃b,t.Lookups[j]?=some b:=⟨_,Kz (by omega)⟩
  have hbg:(aW t.Lookups)[(((j+1:Nat):Int) - 1).toNat]?=some [aF b]:=by rw [show (((j+1:Nat):Int) - 1).toNat=j by omega];exact bP hb
  have hlt:vI t (j+1) l=decide (l≤b):=by simp [vI,hb]
  have hpos:decide (0 < ((j+1:Nat):Int))=true:=decide_eq_true (by omega)
  rw [hlt]
  repeat' (first|refine L3 ?_|refine KG a4 HY ?_)
  refine dG (t:=7) [] ((l < 0∨l≥f.Lookups.length)∨l≤b) rfl (fun Q' K=>?_) ?_
  ·repeat' (first|refine L3 ?_|refine KG a4 HY ?_|refine KR HY ?_|refine KV KB ?_|refine dg rfl rfl rfl ?_|(apply aU;refine aT ?_)|(apply aQ;first|refine aO a4 ?_|refine aG a4 ?_)|refine KW KA (fun _=>?_) (fun _=>?_))
   all_goals exact K _ _ rfl rfl (by clear K;simp_all <;> omega)
  repeat' (first|refine L3 ?_|refine KG a4 HY ?_|(apply bF;refine bv ?_)|fail)
  refine KP HY ?_
  rw [Bool.decide_or]
def vp (f:aZ) (t:ck) (name:Int):Int:=if name≠0 then name else (dm t.Lookups (qd f t)).1
theorem vq (f:aZ) (t:ck) (name:Int):bU Tryz.prog 65 [df f,.agg (cy t),aF name] (aF (vp f t name)):=by
 refine aN Tryz.func65 rfl Tryz.ntmps65 rfl fun B=>?_
 unfold vp
 repeat' (first|refine L3 ?_|refine KG a4 HY ?_|refine bA ?_|fail)
 refine aw rfl (fun h=>?_) (fun h=>?_)
 ·rw [if_pos (Ky h)]
  repeat' (first|refine L3 ?_|refine KG a4 HY ?_)
  exact KQ KA
 rw [if_neg (Kx h)]
 repeat' (first|refine L3 ?_|refine KG a4 HY ?_)
 refine ER 14 rfl rfl fun hlen=>?_
 rw [bb] at hlen
 refine b6 [] [] (nz (u:= .fn 144 [.iptr (cJ f),.iptr (cy t)]) (g:=144) rfl t.Lookups _ (fun _ _=>True) [] trivial (dw (fun i x hx=>Ab f t i x hx (by omega)))) rfl rfl (Lz _) rfl fun c L1 hc=>?_
 have hc:c=cD (dm t.Lookups (qd f t)):=hc
 subst hc
 unfold cD
 repeat' (first|refine L3 ?_|refine KG a4 HY ?_)
 exact KQ KA
instance (f:aZ) (t:ck) (name:Int):AD Tryz.prog 65 [df f,.agg (cy t),aF name] (aF (vp f t name)):=⟨vq f t name⟩
def dl (names:List ByteArray) (s:ByteArray):Option Nat:=names.findIdx? (fun x=>decide (x=s))
def cZ (names:List ByteArray) (v:Value):Option AV:=match v with
 | .string s=>(dl names s).map fun (n:Nat)=>aF (n:Int)
 | _=>none
theorem kK {names:List ByteArray} {i:Nat} {s:ByteArray} (h:names[i]?=some s) (q:ByteArray):dl (names.take (i+1)) q=match dl (names.take i) q with | some n=>some n | none=>if s=q then some i else none:=by
 unfold dl
 have hlt:=(Ko h).1
 have hlen:(names.take i).length=i:=by rw [List.length_take];omega
 rw [List.take_add_one,h,Option.toList_some,List.findIdx?_append,hlen]
 cases List.findIdx? (fun x=>decide (x=q)) (names.take i) with
 | some n=>rfl
 | none=>
  by_cases e:s=q
  ·simp [e]
  ·simp [e]
theorem mW:cZ []=fun _=>none:=by
 funext v
 cases v <;> rfl
theorem lH {names:List ByteArray} {s:ByteArray}:(cZ names (.string s)).isSome=(dl names s).isSome:=by
 show (Option.map (fun n:Nat=>aF (n:Int)) (dl names s)).isSome=_
 cases dl names s <;> rfl
theorem kL {names:List ByteArray} {i:Nat} {s:ByteArray} (h:names[i]?=some s) (hk:(dl (names.take i) s).isSome=true):cZ (names.take (i+1))=cZ (names.take i):=by
 funext v
 cases v with
 | string q=>
  simp only [cZ]
  rw [kK h]
  cases hq:dl (names.take i) q with
  | some n=>rfl
  | none=>
   by_cases e:s=q
   ·subst e;rw [hq] at hk;cases hk
   ·simp [e]
 | _=>rfl
theorem lG {names:List ByteArray} {i:Nat} {s:ByteArray} (h:names[i]?=some s) (hk:(dl (names.take i) s).isSome=false):cZ (names.take (i+1)) (.string s)=some (aF i):=by
 simp only [cZ]
 rw [kK h]
 cases hq:dl (names.take i) s with
 | some n=>rw [hq] at hk;cases hk
 | none=>simp
theorem kM {names:List ByteArray} {i:Nat} {s:ByteArray} (h:names[i]?=some s) (q:Value) (hne:q≠ .string s):cZ (names.take (i+1)) q=cZ (names.take i) q:=by
 cases q with
 | string q=>
  have hne':s≠q:=fun e=>hne (by rw [e])
  simp only [cZ]
  rw [kK h]
  cases hq:dl (names.take i) q with
  | some n=>rfl
  | none=>simp [hne']
 | _=>rfl
theorem rF (g:bD):bU Tryz.prog 42 [.agg (bT g)] (wE g.Name):=by
 refine aN Tryz.func42 rfl Tryz.ntmps42 rfl fun B=>?_
 repeat' (first|refine L3 ?_|refine KG a4 HY ?_|refine bA ?_|fail)
 exact KQ KA
theorem rG (g:ck):bU Tryz.prog 44 [.agg (cy g)] (wE g.Name):=by
 refine aN Tryz.func44 rfl Tryz.ntmps44 rfl fun B=>?_
 repeat' (first|refine L3 ?_|refine KG a4 HY ?_|refine bA ?_|fail)
 exact KQ KA
theorem rH (g:eN):bU Tryz.prog 46 [.agg (cX g)] (wE g.Name):=by
 refine aN Tryz.func46 rfl Tryz.ntmps46 rfl fun B=>?_
 repeat' (first|refine L3 ?_|refine KG a4 HY ?_|refine bA ?_|fail)
 exact KQ KA
set_option maxHeartbeats 1000000 in
theorem CJ (l:List bD):AC Tryz.prog 41 [.imm 9 (l.map bT),.sc (.func (.func 42) #[] #[])] [] fun c L=>∃m,c= .sc (.map (some m))∧L=[(m,dc .string (cZ (l.map bD.Name)))]:=by
 refine aN Tryz.func41 rfl Tryz.ntmps41 rfl fun B=>?_
 refine cW 0 rfl rfl fun hlen=>?_
 rw [Ku] at hlen
 repeat' (first|refine L3 ?_|refine KG a4 HY ?_)
 refine gj .string fun m=>?_
 repeat' (first|refine L3 ?_|refine ak ?_|refine KG a4 HY ?_)
 refine aR [1,5,11,12] (α:=Nat) (fun i=>[(13,aF i)]) (fun i=>i≤l.length) (fun i=>[(m,dc .string (cZ ((l.map bD.Name).take i)))]) (fun i=>l.length - i) 0 rfl ⟨rfl,trivial⟩ (Nat.zero_le _) (fun _ _ h=>by rw [List.take_zero,mW];exact h) fun i hi=>?_
 try dsimp only [Kr,Kq,Kp,Lv]
 repeat' (first|refine L3 ?_|refine KG a4 HY ?_)
 refine aw rfl (fun h=>?_) (fun h=>?_)
 ·have hil:i < l.length:=by have:=Ky h;simp at this;omega
  obtain ⟨z,hz⟩:∃z,l[i]?=some z:=⟨_,Kz hil⟩
  have hzg:=c5 (c:=bT) hz
  have hzn:(l.map bD.Name)[i]?=some z.Name:=by rw [List.getElem?_map,hz];rfl
  repeat' (first|refine L3 ?_|refine ak ?_|refine KG a4 HY ?_|(apply aQ;first|refine aO a4 ?_|refine aG a4 ?_)|(apply aM;first|refine KL 7 a4 0 KF ?_|refine KL 7 a4 1 KF ?_|refine KL 7 a4 2 KF ?_|refine KH a4 0 KE ?_|refine KH a4 1 KE ?_|refine KH a4 2 KE ?_|refine KH a4 3 KE ?_|fail)|refine bq a4 fun _=>?_|fail)
  refine ka (cs:=[.agg (bT z)]) (caps:=[]) (rF z) rfl rfl rfl rfl rfl ?_
  repeat' (first|fail)
  refine gY 0 (.int .i64 0) Tryz.underlying129 Tryz.underlying9 rfl rfl trivial rfl (by kernel_rfl) rfl ?_
  rw [lH]
  repeat' (first|refine L3 ?_|refine KG a4 HY ?_)
  refine aw rfl (fun h2=>?_) (fun h2=>?_)
  ·have h2':(dl ((l.map bD.Name).take i) z.Name).isSome=false:=by simpa using h2
   repeat' (first|refine L3 ?_|refine KG a4 HY ?_)
   refine ka (cs:=[.agg (bT z)]) (caps:=[]) (rF z) rfl rfl rfl rfl rfl ?_
   repeat' (first|refine KG a4 HY ?_)
   refine eg 0 (cZ ((l.map bD.Name).take (i+1))) Tryz.underlying129 Tryz.underlying9 rfl rfl trivial rfl rfl (lG hzn h2') (kM hzn) ?_
   repeat' (first|refine L3 ?_|refine KG a4 HY ?_|(apply aU;refine aT ?_)|fail)
   exact aD (i+1) rfl ⟨by rw [Kv];rfl,trivial⟩ (by omega) (by omega) (fun _ _ h=>h)
  ·have h2':(dl ((l.map bD.Name).take i) z.Name).isSome=true:=by simpa using h2
   repeat' (first|refine L3 ?_|refine KG a4 HY ?_|(apply aU;refine aT ?_)|fail)
   exact aD (i+1) rfl ⟨by rw [Kv];rfl,trivial⟩ (by omega) (by omega) (fun _ _ h=>by rw [kL hzn h2'];exact h)
 ·have hil:i=l.length:=by have:=Kx h;simp at this;omega
  subst hil
  rw [List.take_of_length_le (by simp)]
  repeat' (first|refine L3 ?_|refine KG a4 HY ?_)
  exact KP HY ⟨_,rfl,rfl⟩
set_option maxHeartbeats 1000000 in
theorem CK (l:List ck):AC Tryz.prog 43 [.imm 2 (l.map cy),.sc (.func (.func 44) #[] #[])] [] fun c L=>∃m,c= .sc (.map (some m))∧L=[(m,dc .string (cZ (l.map ck.Name)))]:=by
 refine aN Tryz.func43 rfl Tryz.ntmps43 rfl fun B=>?_
 refine cW 0 rfl rfl fun hlen=>?_
 rw [Ku] at hlen
 repeat' (first|refine L3 ?_|refine KG a4 HY ?_)
 refine gj .string fun m=>?_
 repeat' (first|refine L3 ?_|refine ak ?_|refine KG a4 HY ?_)
 refine aR [1,5,11,12] (α:=Nat) (fun i=>[(13,aF i)]) (fun i=>i≤l.length) (fun i=>[(m,dc .string (cZ ((l.map ck.Name).take i)))]) (fun i=>l.length - i) 0 rfl ⟨rfl,trivial⟩ (Nat.zero_le _) (fun _ _ h=>by rw [List.take_zero,mW];exact h) fun i hi=>?_
 try dsimp only [Kr,Kq,Kp,Lv]
 repeat' (first|refine L3 ?_|refine KG a4 HY ?_)
 refine aw rfl (fun h=>?_) (fun h=>?_)
 ·have hil:i < l.length:=by have:=Ky h;simp at this;omega
  obtain ⟨z,hz⟩:∃z,l[i]?=some z:=⟨_,Kz hil⟩
  have hzg:=c5 (c:=cy) hz
  have hzn:(l.map ck.Name)[i]?=some z.Name:=by rw [List.getElem?_map,hz];rfl
  repeat' (first|refine L3 ?_|refine ak ?_|refine KG a4 HY ?_|(apply aQ;first|refine aO a4 ?_|refine aG a4 ?_)|(apply aM;first|refine KL 7 a4 0 KF ?_|refine KL 7 a4 1 KF ?_|refine KL 7 a4 2 KF ?_|refine KH a4 0 KE ?_|refine KH a4 1 KE ?_|refine KH a4 2 KE ?_|refine KH a4 3 KE ?_|fail)|refine bq a4 fun _=>?_|fail)
  refine ka (cs:=[.agg (cy z)]) (caps:=[]) (rG z) rfl rfl rfl rfl rfl ?_
  repeat' (first|fail)
  refine gY 0 (.int .i64 0) Tryz.underlying129 Tryz.underlying9 rfl rfl trivial rfl (by kernel_rfl) rfl ?_
  rw [lH]
  repeat' (first|refine L3 ?_|refine KG a4 HY ?_)
  refine aw rfl (fun h2=>?_) (fun h2=>?_)
  ·have h2':(dl ((l.map ck.Name).take i) z.Name).isSome=false:=by simpa using h2
   repeat' (first|refine L3 ?_|refine KG a4 HY ?_)
   refine ka (cs:=[.agg (cy z)]) (caps:=[]) (rG z) rfl rfl rfl rfl rfl ?_
   repeat' (first|refine KG a4 HY ?_)
   refine eg 0 (cZ ((l.map ck.Name).take (i+1))) Tryz.underlying129 Tryz.underlying9 rfl rfl trivial rfl rfl (lG hzn h2') (kM hzn) ?_
   repeat' (first|refine L3 ?_|refine KG a4 HY ?_|(apply aU;refine aT ?_)|fail)
   exact aD (i+1) rfl ⟨by rw [Kv];rfl,trivial⟩ (by omega) (by omega) (fun _ _ h=>h)
  ·have h2':(dl ((l.map ck.Name).take i) z.Name).isSome=true:=by simpa using h2
   repeat' (first|refine L3 ?_|refine KG a4 HY ?_|(apply aU;refine aT ?_)|fail)
   exact aD (i+1) rfl ⟨by rw [Kv];rfl,trivial⟩ (by omega) (by omega) (fun _ _ h=>by rw [kL hzn h2'];exact h)
 ·have hil:i=l.length:=by have:=Kx h;simp at this;omega
  subst hil
  rw [List.take_of_length_le (by simp)]
  repeat' (first|refine L3 ?_|refine KG a4 HY ?_)
  exact KP HY ⟨_,rfl,rfl⟩
set_option maxHeartbeats 1000000 in
theorem CL (l:List eN):AC Tryz.prog 45 [.imm 4 (l.map cX),.sc (.func (.func 46) #[] #[])] [] fun c L=>∃m,c= .sc (.map (some m))∧L=[(m,dc .string (cZ (l.map eN.Name)))]:=by
 refine aN Tryz.func45 rfl Tryz.ntmps45 rfl fun B=>?_
 refine cW 0 rfl rfl fun hlen=>?_
 rw [Ku] at hlen
 repeat' (first|refine L3 ?_|refine KG a4 HY ?_)
 refine gj .string fun m=>?_
 repeat' (first|refine L3 ?_|refine ak ?_|refine KG a4 HY ?_)
 refine aR [1,5,11,12] (α:=Nat) (fun i=>[(13,aF i)]) (fun i=>i≤l.length) (fun i=>[(m,dc .string (cZ ((l.map eN.Name).take i)))]) (fun i=>l.length - i) 0 rfl ⟨rfl,trivial⟩ (Nat.zero_le _) (fun _ _ h=>by rw [List.take_zero,mW];exact h) fun i hi=>?_
 try dsimp only [Kr,Kq,Kp,Lv]
 repeat' (first|refine L3 ?_|refine KG a4 HY ?_)
 refine aw rfl (fun h=>?_) (fun h=>?_)
 ·have hil:i < l.length:=by have:=Ky h;simp at this;omega
  obtain ⟨z,hz⟩:∃z,l[i]?=some z:=⟨_,Kz hil⟩
  have hzg:=c5 (c:=cX) hz
  have hzn:(l.map eN.Name)[i]?=some z.Name:=by rw [List.getElem?_map,hz];rfl
  repeat' (first|refine L3 ?_|refine ak ?_|refine KG a4 HY ?_|(apply aQ;first|refine aO a4 ?_|refine aG a4 ?_)|(apply aM;first|refine KL 7 a4 0 KF ?_|refine KL 7 a4 1 KF ?_|refine KL 7 a4 2 KF ?_|refine KH a4 0 KE ?_|refine KH a4 1 KE ?_|refine KH a4 2 KE ?_|refine KH a4 3 KE ?_|fail)|refine bq a4 fun _=>?_|fail)
  refine ka (cs:=[.agg (cX z)]) (caps:=[]) (rH z) rfl rfl rfl rfl rfl ?_
  repeat' (first|fail)
  refine gY 0 (.int .i64 0) Tryz.underlying129 Tryz.underlying9 rfl rfl trivial rfl (by kernel_rfl) rfl ?_
  rw [lH]
  repeat' (first|refine L3 ?_|refine KG a4 HY ?_)
  refine aw rfl (fun h2=>?_) (fun h2=>?_)
  ·have h2':(dl ((l.map eN.Name).take i) z.Name).isSome=false:=by simpa using h2
   repeat' (first|refine L3 ?_|refine KG a4 HY ?_)
   refine ka (cs:=[.agg (cX z)]) (caps:=[]) (rH z) rfl rfl rfl rfl rfl ?_
   repeat' (first|refine KG a4 HY ?_)
   refine eg 0 (cZ ((l.map eN.Name).take (i+1))) Tryz.underlying129 Tryz.underlying9 rfl rfl trivial rfl rfl (lG hzn h2') (kM hzn) ?_
   repeat' (first|refine L3 ?_|refine KG a4 HY ?_|(apply aU;refine aT ?_)|fail)
   exact aD (i+1) rfl ⟨by rw [Kv];rfl,trivial⟩ (by omega) (by omega) (fun _ _ h=>h)
  ·have h2':(dl ((l.map eN.Name).take i) z.Name).isSome=true:=by simpa using h2
   repeat' (first|refine L3 ?_|refine KG a4 HY ?_|(apply aU;refine aT ?_)|fail)
   exact aD (i+1) rfl ⟨by rw [Kv];rfl,trivial⟩ (by omega) (by omega) (fun _ _ h=>by rw [kL hzn h2'];exact h)
 ·have hil:i=l.length:=by have:=Kx h;simp at this;omega
  subst hil
  rw [List.take_of_length_le (by simp)]
  repeat' (first|refine L3 ?_|refine KG a4 HY ?_)
  exact KP HY ⟨_,rfl,rfl⟩
end Go.Proofs.YtpmdfoaadejmkaaGreatDoor
namespace Go.Proofs.YtpmdfoaadejmkaaGreatDoor
open Go.RowKit
attribute [local irreducible] AT bJ AX AO Av Kt bi dq DA cG
theorem lF (names:List ByteArray) (s:ByteArray):(cZ names (.string s)).getD (.sc (.int .i64 0))=aF ((dl names s).getD 0:Nat):=by
 show (Option.map (fun n:Nat=>aF (n:Int)) (dl names s)).getD (.sc (.int .i64 0))=_
 cases dl names s <;> rfl
def kZ (names:List ByteArray) (i:Nat) (s:ByteArray):Bool:=decide ((((dl names s).getD 0:Nat):Int) < (i:Int))
def kN (f:aZ):List ByteArray:=f.Glyphs.map bD.Name
def m6 (f:aZ):List ByteArray:=f.Features.map ck.Name
def iT (f:aZ):List ByteArray:=f.Axes.map eN.Name
def eE (f:aZ) (i:Nat) (g:bD):Int:=oT f g (lE (gB g.Name) (kZ (kN f) i g.Name))
def kJ (f:aZ) (i:Nat) (t:ck):Int:=vp f t (lE (fz t.Name) (kZ (m6 f) i t.Name))
def kD (f:aZ) (i:Nat) (a:eN):Int:=va a (lE (gB a.Name) (kZ (iT f) i a.Name))
set_option maxHeartbeats 1000000 in
theorem xt (f:aZ) (i:Nat) (g:bD) (m:Nat):AC Tryz.prog 51 [aF i,.agg (bT g),.iptr (cJ f),.iptr [.sc (.map (some m))]] [(m,dc .string (cZ (kN f)))] fun c L=>c=aF (eE f i g)∧L=[(m,dc .string (cZ (kN f)))]:=by
 refine aN Tryz.func51 rfl Tryz.ntmps51 rfl fun B=>?_
 repeat' (first|refine L3 ?_|refine KG a4 HY ?_|refine bA ?_|fail)
 refine bn 12 [(0,.v),(1,.v),(2,.v),(3,.v),(4,.v),(5,.v),(6,.v),(7,.v),(9,.v),(8,.e),(10,.v),(11,.v)] none ?_ trivial rfl (by kernel_rfl) (by kernel_rfl) (by kernel_rfl) bI (by kernel_rfl) rfl
 repeat' (first|refine aB ?_|refine aX a4 ?_|(apply dh;refine dK ?_)|fail)
 refine qT 0 (.int .i64 0) Tryz.underlying129 Tryz.underlying9 rfl rfl trivial rfl (by kernel_rfl) trivial ?_
 rw [lF]
 repeat' (first|refine aB ?_|refine aX a4 ?_|(apply dh;refine dK ?_)|fail)
 refine KU [7,8,18] HY ?_
 repeat' (first|refine L3 ?_|refine a7 ?_|refine KG a4 HY ?_|(apply bF;refine bv ?_)|fail)
 exact KP HY ⟨rfl,rfl⟩
set_option maxHeartbeats 1000000 in
theorem Ac (f:aZ) (i:Nat) (t:ck) (m:Nat):AC Tryz.prog 64 [aF i,.agg (cy t),.iptr (cJ f),.iptr [.sc (.map (some m))]] [(m,dc .string (cZ (m6 f)))] fun c L=>c=aF (kJ f i t)∧L=[(m,dc .string (cZ (m6 f)))]:=by
 refine aN Tryz.func64 rfl Tryz.ntmps64 rfl fun B=>?_
 repeat' (first|refine L3 ?_|refine KG a4 HY ?_|refine bA ?_|fail)
 refine bn 12 [(0,.v),(1,.v),(2,.v),(3,.v),(4,.v),(5,.v),(6,.v),(7,.v),(9,.v),(8,.e),(10,.v),(11,.v)] none ?_ trivial rfl (by kernel_rfl) (by kernel_rfl) (by kernel_rfl) bI (by kernel_rfl) rfl
 repeat' (first|refine aB ?_|refine aX a4 ?_|(apply dh;refine dK ?_)|fail)
 refine qT 0 (.int .i64 0) Tryz.underlying129 Tryz.underlying9 rfl rfl trivial rfl (by kernel_rfl) trivial ?_
 rw [lF]
 repeat' (first|refine aB ?_|refine aX a4 ?_|(apply dh;refine dK ?_)|fail)
 refine KU [7,8,18] HY ?_
 repeat' (first|refine L3 ?_|refine a7 ?_|refine KG a4 HY ?_|(apply bF;refine bv ?_)|fail)
 exact KP HY ⟨rfl,rfl⟩
set_option maxHeartbeats 1000000 in
theorem zJ (f:aZ) (i:Nat) (a:eN) (m:Nat):AC Tryz.prog 68 [aF i,.agg (cX a),.iptr [.sc (.map (some m))]] [(m,dc .string (cZ (iT f)))] fun c L=>c=aF (kD f i a)∧L=[(m,dc .string (cZ (iT f)))]:=by
 refine aN Tryz.func68 rfl Tryz.ntmps68 rfl fun B=>?_
 repeat' (first|refine L3 ?_|refine KG a4 HY ?_|refine bA ?_|fail)
 refine bn 11 [(0,.v),(1,.v),(2,.v),(3,.v),(4,.v),(5,.v),(6,.v),(8,.v),(7,.e),(9,.v),(10,.v)] none ?_ trivial rfl (by kernel_rfl) (by kernel_rfl) (by kernel_rfl) bI (by kernel_rfl) rfl
 repeat' (first|refine aB ?_|refine aX a4 ?_|(apply dh;refine dK ?_)|fail)
 refine qT 0 (.int .i64 0) Tryz.underlying129 Tryz.underlying9 rfl rfl trivial rfl (by kernel_rfl) trivial ?_
 rw [lF]
 repeat' (first|refine aB ?_|refine aX a4 ?_|(apply dh;refine dK ?_)|fail)
 refine KU [6,16] HY ?_
 repeat' (first|refine L3 ?_|refine a7 ?_|refine KG a4 HY ?_|(apply bF;refine bv ?_)|fail)
 exact KP HY ⟨rfl,rfl⟩
end Go.Proofs.YtpmdfoaadejmkaaGreatDoor
