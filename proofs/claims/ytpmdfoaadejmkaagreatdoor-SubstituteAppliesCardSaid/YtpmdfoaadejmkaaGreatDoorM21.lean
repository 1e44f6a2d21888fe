/-
  An engine is made: the walk.
-/
import Derived.Test.YtpmdfoaadejmkaaGreatDoorM20
import Derived.Test.YtpmdfoaadejmkaaGreatDoorM14
import Derived.Test.YtpmdfoaadejmkaaGreatDoorM12
import Derived.Test.YtpmdfoaadejmkaaGreatDoorM18
import Derived.Test.YtpmdfoaadejmkaaGreatDoorM11
namespace Go.Proofs.YtpmdfoaadejmkaaGreatDoor
open Go.RowKit
attribute [local irreducible] AT bI AX AO Av Kt bi dx DA cK
structure Fp (f:b6):Prop where
 glyphs:0 < f.Glyphs.length∧f.Glyphs.length≤65536
 lookups:f.Lookups.length≤1000000
 look:∀l∈f.Lookups,xr f.Glyphs.length l
 rule:∀l∈f.Lookups,∀r∈l.Rules,Fk r
structure Hb (f:b6) (E:pp):Prop where
 ls:E.lks.map (·.l)=f.Lookups
 ms:E.ms=f.Glyphs.map bv.Mark
 auto:∀e∈E.lks,1≤e.l.Kind→e.l.Kind≤6→kN e
def J4:Option kM→List AV
 | none=>[eC,eC,eC,eC,eC]
 | some a=>Is a
def Ii:kM:=⟨[],[],[],[],[]⟩
def HX (l:aL) (a:Option kM) (j:Nat):List AV:=[aF l.Kind,dV l.Ignore,.imm 6 ((jm l).Rules.map bB)]++J4 a++[aF (fU (l.Rules.take j)),aF (iz (l.Rules.take j))]
def zM (l:aL) (a:kM) (j:Nat):List AV:=[aF l.Kind,dV l.Ignore,.imm 6 ((jm l).Rules.map bB),.imm 1 (aX a.cls),.imm 1 (b9 a.fore),.imm 1 (b9 a.back),.imm 1 (gx a.foreE),.imm 1 (gx a.backE),aF (fU (l.Rules.take j)),aF (iz (l.Rules.take j))]
theorem CM (l:aL) (a:Option kM) (j:Nat):mH (HX l a j) (zM l (a.getD Ii) j):=by
 cases a with
 | none=>exact ⟨cU.refl _,cU.refl _,cU.refl _,cU.nil 1,cU.nil 1,cU.nil 1,cU.nil 1,cU.nil 1,cU.refl _,cU.refl _,trivial⟩
 | some a=>exact ⟨cU.refl _,cU.refl _,cU.refl _,cU.refl _,cU.refl _,cU.refl _,cU.refl _,cU.refl _,cU.refl _,cU.refl _,trivial⟩
theorem CN (l:aL) (a:kM):zM l a l.Rules.length=fA (E8 l a):=by
 unfold zM
 rw [List.take_length]
 rfl
theorem wy {rs:List bc} {j:Nat} {r:bc} (h:rs[j]?=some r):fU (rs.take (j+1))=max (fU (rs.take j)) (r.In.length+r.Ahead.length)∧iz (rs.take (j+1))=max (iz (rs.take j)) r.Back.length:=by
 unfold fU iz
 rw [List.take_add_one,h]
 constructor <;> simp
theorem BT {N:Nat} {rs:List bc} (h:∀r∈rs,u4 N r) (j:Nat):fU (rs.take j)≤200∧iz (rs.take j)≤200:=⟨iF (by omega) fun r hr=>(h r (List.mem_of_mem_take hr)).long.2,iF (by omega) fun r hr=>(h r (List.mem_of_mem_take hr)).long.1⟩
theorem yQ (l:List Bool) (b:Bool):nW l++[[dV b]]=nW (l++[b]):=by simp [nW]
set_option maxHeartbeats 16000000 in
theorem GU (f:b6) (h:Fp f) (hck:AC Tryz.prog 25 [bZ f] [] fun c _=>∃n:Int,c=cu (0,n)):AC Tryz.prog 15 [bZ f] [] fun c _=>∃E,Hb f E∧c= .tup [.iptr (ei E),aF 0]:=by
 refine aM Tryz.func15 rfl Tryz.ntmps15 rfl fun B=>?_
 have hgl:(f.Glyphs.map bO).length=f.Glyphs.length:=Ju ..
 have hll:(f.Lookups.map bh).length=f.Lookups.length:=Ju ..
 obtain ⟨hN0,hN⟩:=h.glyphs
 have hL:=h.lookups
 repeat' (first|refine Ji ?_|refine JF a5 H6 ?_|refine bf ?_|fail)
 refine b8 [] _ hck rfl rfl (Jo _) rfl fun c1 L1 ⟨n0,hc1⟩=>?_
 subst hc1
 refine aI (bH (List.sublist_append_right ..)) ?_
 unfold cu
 repeat' (first|refine Ji ?_|refine am ?_|refine JF a5 H6 ?_|refine y8 (d:=25) fun _=>?_|refine bA rfl ?_)
 rename_i eb
 refine c5 (bD 0 (cs':=[.vec none 10 [],.vec none 1 []]) rfl fun σ vs hh=>mH.vrs (a:=[eC,eC]) (b:=[.vec none 10 [],.vec none 1 []]) ⟨fun σ v h=>cS 10 h,fun σ v h=>cS 1 h,trivial⟩ hh) ?_
 refine aP [1,6,27,28] (α:=List po×Option (Nat×Nat)) (fun s=>[(29,aF s.1.length)]) (fun s=>s.1.length≤f.Lookups.length∧s.1.map (·.l)=f.Lookups.take s.1.length∧∀e∈s.1,1≤e.l.Kind→e.l.Kind≤6→kN e) (fun s=>(eb,.box [.vec s.2 10 (s.1.map fA),.vec none 1 []] 86)::tok s.2 97 10 s.1.length) (fun s=>f.Lookups.length - s.1.length) ([],none) rfl ⟨rfl,trivial⟩ ⟨Nat.zero_le _,rfl,fun e he=>by cases he⟩ (fun _ _ hh=>hh) ?_
 rintro ⟨es,q⟩ ⟨hk,hes,hau⟩
 dsimp only at hk hes hau ⊢
 try dsimp only [Js,Jr,Jq,Jl]
 repeat' (first|refine Ji ?_|refine JF a5 H6 ?_)
 refine ar rfl (fun h1=>?_) (fun h1=>?_)
 ·have hk2:es.length < f.Lookups.length:=by have:=Jy h1;omega
  obtain ⟨l,hl⟩:∃z,f.Lookups[es.length]?=some z:=⟨_,Jz hk2⟩
  have hlg:(f.Lookups.map bh)[es.length]?=some (bh l):=by simp [hl]
  have hlm:=Jw hl
  have hbl:=h.look l hlm
  have hfew:=hbl.few
  haveI:=AD.mk (uB l (by omega) (h.rule l hlm))
  have hbu:=Bo f es.length l hl hbl hN0 hN
  have hrl:(l.Rules.map bB).length=l.Rules.length:=Ju ..
  clear h1
  repeat' (first|refine Ji ?_|refine am ?_|refine JF a5 H6 ?_|(apply aO;first|refine aN a5 ?_|refine aG a5 ?_)|(apply aK;first|refine JH 8 a5 0 JE ?_|refine JH 8 a5 1 JE ?_|refine JH 8 a5 2 JE ?_|refine JH 10 a5 0 JE ?_|refine JH 10 a5 1 JE ?_|refine JH 10 a5 2 JE ?_|refine JH 13 a5 0 JE ?_|refine JH 13 a5 1 JE ?_|refine JH 13 a5 2 JE ?_|refine JH 15 a5 0 JE ?_|refine JH 15 a5 1 JE ?_|refine JH 15 a5 2 JE ?_|refine JG a5 0 JD ?_|refine JG a5 1 JD ?_|refine JG a5 2 JD ?_|refine JG a5 3 JD ?_|fail)|refine bj a5 fun _=>?_|(apply bz;refine bo ?_)|fail)
  rename_i ob
  refine DR (α:=Option kM) [1,6,8,9,27,28,29] (fun _=>[(1,.iptr (cD f)),(6,g8 eb),(8,.iptr (bh l)),(9,g8 ob),(27,.imm 3 (f.Lookups.map bh)),(28,.sc (.int .i64 ((f.Lookups.map bh).length:Int))),(29,aF es.length)]) (fun a=>(ob,.box (HX l a 0) 97)::(eb,.box [.vec q 10 (es.map fA),.vec none 1 []] 86)::tok q 97 10 es.length) (fun a=>1≤l.Kind→l.Kind≤6→∃a',a=some a'∧xt f.Glyphs.length l.Rules a') (fun Q' K=>?_) (fun a ha=>?_)
  ·refine ar rfl (fun h1=>?_) (fun h1=>?_)
   ·repeat' (first|refine Ji ?_|refine JF a5 H6 ?_)
    refine b8 [] _ hbu rfl rfl (Jo _) rfl fun c1 L1 ⟨a,ha,hc1⟩=>?_
    subst hc1
    refine aI (bH (List.sublist_append_right ..)) ?_
    repeat' (first|refine Ji ?_|refine JF a5 H6 ?_|(apply aK;first|refine JH 8 a5 0 JE ?_|refine JH 8 a5 1 JE ?_|refine JH 8 a5 2 JE ?_|refine JH 10 a5 0 JE ?_|refine JH 10 a5 1 JE ?_|refine JH 10 a5 2 JE ?_|refine JH 13 a5 0 JE ?_|refine JH 13 a5 1 JE ?_|refine JH 13 a5 2 JE ?_|refine JH 15 a5 0 JE ?_|refine JH 15 a5 1 JE ?_|refine JH 15 a5 2 JE ?_|refine JG a5 0 JD ?_|refine JG a5 1 JD ?_|refine JG a5 2 JD ?_|refine JG a5 3 JD ?_|fail)|refine bj a5 fun _=>?_|refine bA rfl ?_)
    exact K (some a) _ (fun _ _=>⟨a,rfl,ha⟩) rfl
   ·repeat' (first|refine Ji ?_|fail)
    exact K none _ (fun h1' h6=>absurd (Jx h1) (fun hn=>hn ⟨h1',h6⟩)) rfl
  ·have hA:1≤l.Kind→l.Kind≤6→xt f.Glyphs.length l.Rules (a.getD Ii):=fun h1 h6=>by
    obtain ⟨a',rfl,hb⟩:=ha h1 h6
    exact hb
   refine c5 (bD 0 (cs':=zM l (a.getD Ii) 0) rfl fun σ vs hh=>(CM l a 0).vrs hh) ?_
   generalize a.getD Ii=A at hA
   clear ha
   repeat' (first|refine Ji ?_|refine am ?_|refine JF a5 H6 ?_)
   refine aP [1,6,9,27,28,29,52,53] (α:=Nat) (fun j=>[(54,aF j)]) (fun j=>j≤l.Rules.length) (fun j=>(ob,.box (zM l A j) 97)::(eb,.box [.vec q 10 (es.map fA),.vec none 1 []] 86)::tok q 97 10 es.length) (fun j=>l.Rules.length - j) 0 rfl ⟨rfl,trivial⟩ (Nat.zero_le _) (fun _ _ hh=>hh) fun j hj=>?_
   try dsimp only [Js,Jr,Jq,Jl]
   repeat' (first|refine Ji ?_|refine JF a5 H6 ?_)
   refine ar rfl (fun h1=>?_) (fun h1=>?_)
   ·have hj2:j < l.Rules.length:=by have:=Jy h1;omega
    obtain ⟨r,hr⟩:∃z,l.Rules[j]?=some z:=⟨_,Jz hj2⟩
    have hrg:(l.Rules.map bB)[j]?=some (bB r):=by simp [hr]
    have hlong:=(hbl.rule r (Jw hr)).long
    have hl1:=cq r.In
    have hl2:=cq r.Ahead
    have hl3:=cq r.Back
    obtain ⟨hfb,hbb⟩:=BT hbl.rule j
    obtain ⟨hfs,hbs⟩:=wy hr
    clear h1
    repeat' (first|refine Ji ?_|refine am ?_|refine JF a5 H6 ?_|(apply bE;first|refine JI a5 0 JC ?_|refine JI a5 1 JC ?_|refine JI a5 2 JC ?_|refine JI a5 3 JC ?_|refine JJ a5 0 JC ?_|refine JJ a5 1 JC ?_|refine JJ a5 2 JC ?_|refine JK a5 1 JA (by assumption) rfl ?_|refine JK a5 0 JA (by assumption) rfl ?_|fail)|(apply aS;refine aR ?_)|(apply aO;first|refine aN a5 ?_|refine aG a5 ?_)|(apply aK;first|refine JH 8 a5 0 JE ?_|refine JH 8 a5 1 JE ?_|refine JH 8 a5 2 JE ?_|refine JH 10 a5 0 JE ?_|refine JH 10 a5 1 JE ?_|refine JH 10 a5 2 JE ?_|refine JH 13 a5 0 JE ?_|refine JH 13 a5 1 JE ?_|refine JH 13 a5 2 JE ?_|refine JH 15 a5 0 JE ?_|refine JH 15 a5 1 JE ?_|refine JH 15 a5 2 JE ?_|refine JG a5 0 JD ?_|refine JG a5 1 JD ?_|refine JG a5 2 JD ?_|refine JG a5 3 JD ?_|fail)|refine bj a5 fun _=>?_|fail)
    refine aC (j+1) rfl ⟨by rw [Jv];rfl,trivial⟩ hj2 (by omega) (fun _ _ hh=>?_)
    have e1:((max (fU (l.Rules.take j)) (r.In.length+r.Ahead.length):Nat):Int)=max ((fU (l.Rules.take j):Nat):Int) (((b9 r.In).length:Int)+((b9 r.Ahead).length:Int)):=by omega
    have e2:((max (iz (l.Rules.take j)) r.Back.length:Nat):Int)=max ((iz (l.Rules.take j):Nat):Int) ((b9 r.Back).length:Int):=by omega
    unfold zM
    rw [hfs,hbs,e1,e2]
    exact hh
   ·have hj2:j=l.Rules.length:=by have:=Jx h1;omega
    subst hj2
    rw [CN]
    clear h1
    have hel:(es.map fA).length=es.length:=Ju ..
    have hsn:es.map fA++[fA (E8 l A)]=(es++[E8 l A]).map fA:=by rw [List.map_append];rfl
    repeat' (first|refine Ji ?_|fail)
    refine bw 8 [(0,.v),(1,.v),(2,.v),(3,.v),(4,.l),(5,.l),(6,.v),(7,.e)] none ?_ trivial rfl (by kernel_rfl) (by kernel_rfl) (by kernel_rfl) bR (by kernel_rfl) rfl
    repeat' (first|refine aD ?_|refine b7 a5 ?_|refine ej a5 ?_|refine ca a5 1 rfl rfl rfl rfl (by first|trivial|rfl) ?_|refine py a5 0 rfl rfl rfl rfl (by first|trivial|rfl) ?_)
    refine f8 a5 [(ob,.box (fA (E8 l A)) 97),(eb,.box [.vec q 10 (es.map fA),.vec none 1 []] 86)] rfl rfl rfl rfl (by rw [hel];exact List.perm_append_comm (l₁:=[_,_])) (by rw [hel];simp;omega) (by rw [hel];simp;omega) trivial fun q'=>?_
    repeat' (first|fail)
    refine JQ [1,6,27,28,29,77,84] H6 ?_
    refine aI (aQ (L':=(ob,.box (fA (E8 l A)) 97)::(eb,.box [.vec q 10 (es.map fA),.vec none 1 []] 86)::tok q' 97 10 (es.map fA++[fA (E8 l A)]).length) (List.perm_append_comm (l₂:=[_,_]))) ?_
    repeat' (first|refine Ji ?_|refine JF a5 H6 ?_|(apply aS;refine aR ?_)|(apply aK;first|refine JH 8 a5 0 JE ?_|refine JH 8 a5 1 JE ?_|refine JH 8 a5 2 JE ?_|refine JH 10 a5 0 JE ?_|refine JH 10 a5 1 JE ?_|refine JH 10 a5 2 JE ?_|refine JH 13 a5 0 JE ?_|refine JH 13 a5 1 JE ?_|refine JH 13 a5 2 JE ?_|refine JH 15 a5 0 JE ?_|refine JH 15 a5 1 JE ?_|refine JH 15 a5 2 JE ?_|refine JG a5 0 JD ?_|refine JG a5 1 JD ?_|refine JG a5 2 JD ?_|refine JG a5 3 JD ?_|fail))
    have hll2:(es++[E8 l A]).length=es.length+1:=by simp
    refine aC (es++[E8 l A],q') rfl ⟨by dsimp only;rw [hll2,Jv];rfl,trivial⟩ ⟨by dsimp only;omega,?_,?_⟩ (by dsimp only;omega) (fun σ w hh=>?_)
    ·dsimp only
     rw [List.map_append,hes,hll2,List.take_add_one,hl]
     rfl
    ·intro e he h1 h6
     rw [List.mem_append,List.mem_singleton] at he
     rcases he with he | rfl
     ·exact hau e he h1 h6
     ·exact DU hbl (hA h1 h6)
    ·have h2:=hh.sublist (List.sublist_cons_self ..)
     rw [hsn,Ju] at h2
     dsimp only
     rw [←hsn]
     exact h2
 ·have hk2:es.length=f.Lookups.length:=by have:=Jx h1;omega
  rw [hk2,List.take_length] at hes
  clear h1
  repeat' (first|refine Ji ?_|refine am ?_|refine JF a5 H6 ?_)
  refine aP [6,89,90] (α:=Nat×Option (Nat×Nat)) (fun s=>[(91,aF s.1)]) (fun s=>s.1≤f.Glyphs.length) (fun s=>(eb,.box [.vec q 10 (es.map fA),.vec s.2 1 (nW ((f.Glyphs.map bv.Mark).take s.1))] 86)::(tok q 97 10 es.length++tok s.2 4 1 s.1)) (fun s=>f.Glyphs.length - s.1) (0,none) rfl ⟨rfl,trivial⟩ (Nat.zero_le _) (fun σ w hh=>by show d6 B σ ((eb,.box [.vec q 10 (es.map fA),.vec none 1 []] 86)::(tok q 97 10 es.length++[])) w;rw [List.append_nil];exact hh) ?_
  rintro ⟨k,q2⟩ hk3
  dsimp only at hk3 ⊢
  try dsimp only [Js,Jr,Jq,Jl]
  repeat' (first|refine Ji ?_|refine JF a5 H6 ?_)
  refine ar rfl (fun h1=>?_) (fun h1=>?_)
  ·have hk4:k < f.Glyphs.length:=by have:=Jy h1;omega
   obtain ⟨g,hg⟩:∃z,f.Glyphs[k]?=some z:=⟨_,Jz hk4⟩
   have hgg:(f.Glyphs.map bO)[k]?=some (bO g):=by simp [hg]
   have hbl:(nW ((f.Glyphs.map bv.Mark).take k)).length=k:=by rw [uv,List.length_take,Ju];omega
   have hbs:(f.Glyphs.map bv.Mark).take (k+1)=(f.Glyphs.map bv.Mark).take k++[g.Mark]:=by rw [List.take_add_one,List.getElem?_map,hg];rfl
   have hsn:=yQ ((f.Glyphs.map bv.Mark).take k) g.Mark
   rw [←hbs] at hsn
   generalize nW ((f.Glyphs.map bv.Mark).take k)=bl at *
   clear h1
   repeat' (first|refine Ji ?_|refine am ?_|refine JF a5 H6 ?_|(apply aO;first|refine aN a5 ?_|refine aG a5 ?_)|(apply aK;first|refine JH 8 a5 0 JE ?_|refine JH 8 a5 1 JE ?_|refine JH 8 a5 2 JE ?_|refine JH 10 a5 0 JE ?_|refine JH 10 a5 1 JE ?_|refine JH 10 a5 2 JE ?_|refine JH 13 a5 0 JE ?_|refine JH 13 a5 1 JE ?_|refine JH 13 a5 2 JE ?_|refine JH 15 a5 0 JE ?_|refine JH 15 a5 1 JE ?_|refine JH 15 a5 2 JE ?_|refine JG a5 0 JD ?_|refine JG a5 1 JD ?_|refine JG a5 2 JD ?_|refine JG a5 3 JD ?_|fail)|refine bj a5 fun _=>?_|fail)
   refine bw 9 [(0,.v),(1,.v),(2,.v),(3,.v),(4,.l),(5,.v),(6,.v),(7,.v),(8,.e)] none ?_ trivial rfl (by kernel_rfl) (by kernel_rfl) (by kernel_rfl) bR (by kernel_rfl) rfl
   repeat' (first|refine aD ?_|refine b7 a5 ?_|refine ej a5 ?_|refine ca a5 0 rfl rfl rfl rfl (by first|trivial|rfl) ?_)
   refine f8 a5 ((eb,.box [.vec q 10 (es.map fA),.vec q2 1 bl] 86)::tok q 97 10 es.length) rfl rfl rfl rfl (by rw [hbl];exact (List.perm_append_comm (l₁:=_::tok q 97 10 es.length))) (by rw [hbl];simp;omega) (by rw [hbl];simp;omega) trivial fun q'=>?_
   repeat' (first|fail)
   refine JQ [6,89,90,91,95,103] H6 ?_
   refine aI (aQ (L':=(eb,.box [.vec q 10 (es.map fA),.vec q2 1 bl] 86)::(tok q 97 10 es.length++tok q' 4 1 (k+1))) (by rw [List.length_append,hbl];exact (List.perm_append_comm (l₂:=_::tok q 97 10 es.length)))) ?_
   repeat' (first|refine Ji ?_|refine JF a5 H6 ?_|(apply aS;refine aR ?_)|(apply aK;first|refine JH 8 a5 0 JE ?_|refine JH 8 a5 1 JE ?_|refine JH 8 a5 2 JE ?_|refine JH 10 a5 0 JE ?_|refine JH 10 a5 1 JE ?_|refine JH 10 a5 2 JE ?_|refine JH 13 a5 0 JE ?_|refine JH 13 a5 1 JE ?_|refine JH 13 a5 2 JE ?_|refine JH 15 a5 0 JE ?_|refine JH 15 a5 1 JE ?_|refine JH 15 a5 2 JE ?_|refine JG a5 0 JD ?_|refine JG a5 1 JD ?_|refine JG a5 2 JD ?_|refine JG a5 3 JD ?_|fail))
   exact aC (k+1,q') rfl ⟨by rw [Jv];rfl,trivial⟩ hk4 (by dsimp only;omega) (fun _ _ hh=>by dsimp only;rw [←hsn];exact hh)
  ·have hk4:k=f.Glyphs.length:=by have:=Jx h1;omega
   subst hk4
   rw [List.take_of_length_le (by rw [Ju];exact Nat.le_refl _)]
   clear h1
   repeat' (first|refine Ji ?_|refine JF a5 H6 ?_)
   refine bk (bD 0 (cs':=ei ⟨es,f.Glyphs.map bv.Mark⟩) rfl fun σ vs hh=>mH.vrs (a:=[.vec q 10 (es.map fA),.vec q2 1 (nW (f.Glyphs.map bv.Mark))]) (b:=ei ⟨es,f.Glyphs.map bv.Mark⟩) ⟨fun σ v h=>VR.im h,fun σ v h=>VR.im h,trivial⟩ hh) ?_
   refine bk (vE (t:=2) (cs:=ei ⟨es,f.Glyphs.map bv.Mark⟩) 0 rfl rfl rfl) ?_
   refine dT (List.nil_sublist _) ?_
   exact JP JA ⟨⟨es,f.Glyphs.map bv.Mark⟩,⟨hes,rfl,hau⟩,rfl⟩
def fv:Nat→List Int→List aJ
 | _,[]=>[]
 | i,g::l=>⟨g,i,0,0,0,0⟩::fv (i+1) l
def eU (l:List Int):List aJ:=fv 0 l
def km:List Bool:=[false,false,false,false,true]
def HK (ig:Bool):List aL:=[⟨3,ig,[⟨[],[[0],[1]],[],[2],[],0⟩]⟩]
def tv (a b c:Nat):List Int:=List.replicate a 4++0::(List.replicate b 4++1::List.replicate c 4)
def v7 (a b c:Nat) (ig:Bool):List Int:=if 0 < b∧ig=false then tv a b c else List.replicate a 4++2::(List.replicate b 4++List.replicate c 4)
def Cr (a b c:Nat) (ig:Bool):Bool:=
 let out:=d7 km (HK ig) 0 (eU (tv a b c)) []
 (out.map aJ.Glyph==v7 a b c ig) && (decide ((v7 a b c ig).length=(tv a b c).length) || (match out[a]? with | some x=>decide (x.Cluster=a) | none=>false))
def Ih:Bool:=(List.range 8).all fun a=>(List.range 8).all fun b=>(List.range 8).all fun c=>Cr a b c true && Cr a b c false
def I3:bc:=⟨[],[[0]],[[1]],[1],[],0⟩
def EQ:List aL:=[⟨5,false,[I3]⟩,⟨1,false,[I3]⟩]
def CU (n:Nat):List Int:=List.replicate n 0++[1]
def H0 (n:Nat):List Int:=(List.range (n+1)).map fun (k:Nat)=>if (n:Int) - 1≤(k:Int) then (1:Int) else 0
def Jb (n:Nat):Bool:=((d7 km EQ 0 (eU (CU n)) []).map aJ.Glyph==List.replicate (n+1) 1) && ((d7 km EQ 1 (eU (CU n)) []).map aJ.Glyph==H0 n)
def Hw (k:Nat):List aL:=[⟨4,false,[⟨[],[[0]],[],[],[⟨0,1⟩,⟨0,2⟩,⟨0,0⟩],0⟩]⟩,⟨1,false,[⟨[],[[0]],[],[2],[],0⟩]⟩,⟨2,false,[⟨[],[[2]],[],List.replicate k 1,[],0⟩]⟩]
def IT (n k:Nat):Bool:=
 let out:=d7 km (Hw k) 0 (eU (List.replicate n 0)) []
 if k=0 then decide (out.length < n) else out.map aJ.Glyph==List.replicate (n * k) 1
end Go.Proofs.YtpmdfoaadejmkaaGreatDoor
namespace Go.Proofs.YtpmdfoaadejmkaaGreatDoor
open Go.RowKit
attribute [local irreducible] AT bI AX AO Av Kt bi dx DA cK
open Go.MapKept
section
variable {P:Program} {r:Option Nat} {ops:Array Oper} {Q:Exit→Act→World→Prop} {nt:Nat} {D:List Deferred} {fr:c7} {B:Bs} {L:AL} {rest:List Oper} {d:Nat} {ty t:TypeId} {pos:String} {af:Array Edge} {x y z:Operand} {u:AV} {cd:Code}
theorem jy {f:FuncId} {args:Array Operand} {ts:Array TypeId} {cs caps:List AV} {v:AV} [bL P f] (hc:bJ P f (cs++caps) v) (hx:bn fr x=some u) (hu:kI u=some (f,caps)) (hv:eA fr args.toList=some cs) (hn:Oper.noDefer ⟨some d,.call ⟨.value x,args,ts⟩,ty,pos,af,none⟩=true) (hd:Nat.ble nt d=false) (h:bI P r ops Q nt D rest ((d,v)::fr) B L):
  bI P r ops Q nt D (⟨some d,.call ⟨.value x,args,ts⟩,ty,pos,af,none⟩::rest) fr B L:=
 dw [] L hc hx hu hv (Jo _) hn hd fun c L1 hc=>by
  have hc':c=v:=hc
  subst hc'
  exact aI (bH (List.sublist_append_right ..)) h
theorem DT (t:Nat) {u:AV} {s:Nat} {l:List (List AV)} (hl:cg fr t=some u) (hu:ip u=some (s,l)) (h:l.length≤9223372036854775807→bI P r ops Q nt D rest fr B L):bI P r ops Q nt D rest fr B L:=
 DS (fun σ a w ha _=>(C7 (ha.look t u hl) hu).1) h
end
def uX (t:c6) (i:Nat) (l:Int):Bool:=match i with | 0=>false | j+1=>match t.Lookups[j]? with | some b=>decide (l≤b) | none=>false
def pz (f:b6) (t:c6) (i:Nat) (l:Int):Int:=dY (decide (l < 0∨l≥f.Lookups.length) || uX t i l) 43
set_option maxHeartbeats 1000000 in
theorem zg (f:b6) (t:c6) (i:Nat) (l:Int) (hl:t.Lookups[i]?=some l) (hn:t.Lookups.length≤9223372036854775807):bJ Tryz.prog 144 [aF i,aF l,.iptr (cD f),.iptr (cm t)] (aF (pz f t i l)):=by
 refine aM Tryz.func144 rfl Tryz.ntmps144 rfl fun B=>?_
 have hil:=(Jp hl).1
 unfold pz
 cases i with
 | zero=>
  repeat' (first|refine Ji ?_|refine JF a5 H6 ?_)
  refine dq (t:=7) [] (l < 0∨l≥f.Lookups.length) rfl (fun Q' K=>?_) ?_
  ·repeat' (first|refine Ji ?_|refine JF a5 H6 ?_|refine JN H6 ?_|refine JO JB ?_|refine dz rfl rfl rfl ?_|refine JR JA (fun _=>?_) (fun _=>?_))
   all_goals exact K _ _ rfl rfl (by clear K;simp_all <;> omega)
  repeat' (first|refine Ji ?_|refine JF a5 H6 ?_|(apply bz;refine bo ?_)|fail)
  refine JL H6 ?_
  simp [uX]
 | succ j=>
  obtain ⟨b,hb⟩:∃b,t.Lookups[j]?=some b:=⟨_,Jz (by omega)⟩
  have hbg:(aX t.Lookups)[(((j+1:Nat):Int) - 1).toNat]?=some [aF b]:=by rw [show (((j+1:Nat):Int) - 1).toNat=j by omega];exact bP hb
  have hlt:uX t (j+1) l=decide (l≤b):=by simp [uX,hb]
  have hpos:decide (0 < ((j+1:Nat):Int))=true:=decide_eq_true (by omega)
  rw [hlt]
  repeat' (first|refine Ji ?_|refine JF a5 H6 ?_)
  refine dq (t:=7) [] ((l < 0∨l≥f.Lookups.length)∨l≤b) rfl (fun Q' K=>?_) ?_
  ·repeat' (first|refine Ji ?_|refine JF a5 H6 ?_|refine JN H6 ?_|refine JO JB ?_|refine dz rfl rfl rfl ?_|(apply aS;refine aR ?_)|(apply aO;first|refine aN a5 ?_|refine aG a5 ?_)|refine JR JA (fun _=>?_) (fun _=>?_))
   all_goals exact K _ _ rfl rfl (by clear K;simp_all <;> omega)
  repeat' (first|refine Ji ?_|refine JF a5 H6 ?_|(apply bz;refine bo ?_)|fail)
  refine JL H6 ?_
  rw [Bool.decide_or]
def uI (f:b6) (t:c6) (name:Int):Int:=if name≠0 then name else (d4 t.Lookups (pz f t)).1
theorem uJ (f:b6) (t:c6) (name:Int):bJ Tryz.prog 65 [bZ f,.agg (cm t),aF name] (aF (uI f t name)):=by
 refine aM Tryz.func65 rfl Tryz.ntmps65 rfl fun B=>?_
 unfold uI
 repeat' (first|refine Ji ?_|refine JF a5 H6 ?_|refine bf ?_|fail)
 refine ar rfl (fun h=>?_) (fun h=>?_)
 ·rw [if_pos (Jy h)]
  repeat' (first|refine Ji ?_|refine JF a5 H6 ?_)
  exact JM JA
 rw [if_neg (Jx h)]
 repeat' (first|refine Ji ?_|refine JF a5 H6 ?_)
 refine DT 14 rfl rfl fun hlen=>?_
 rw [aZ] at hlen
 refine b8 [] [] (mU (u:= .fn 144 [.iptr (cD f),.iptr (cm t)]) (g:=144) rfl t.Lookups _ (fun _ _=>True) [] trivial (da (fun i x hx=>zg f t i x hx (by omega)))) rfl rfl (Jo _) rfl fun c L1 hc=>?_
 have hc:c=cu (d4 t.Lookups (pz f t)):=hc
 subst hc
 unfold cu
 repeat' (first|refine Ji ?_|refine JF a5 H6 ?_)
 exact JM JA
instance (f:b6) (t:c6) (name:Int):AD Tryz.prog 65 [bZ f,.agg (cm t),aF name] (aF (uI f t name)):=⟨uJ f t name⟩
def d3 (names:List ByteArray) (s:ByteArray):Option Nat:=names.findIdx? (fun x=>decide (x=s))
def cN (names:List ByteArray) (v:Value):Option AV:=match v with
 | .string s=>(d3 names s).map fun (n:Nat)=>aF (n:Int)
 | _=>none
theorem k7 {names:List ByteArray} {i:Nat} {s:ByteArray} (h:names[i]?=some s) (q:ByteArray):d3 (names.take (i+1)) q=match d3 (names.take i) q with | some n=>some n | none=>if s=q then some i else none:=by
 unfold d3
 have hlt:=(Jp h).1
 have hlen:(names.take i).length=i:=by rw [List.length_take];omega
 rw [List.take_add_one,h,Option.toList_some,List.findIdx?_append,hlen]
 cases List.findIdx? (fun x=>decide (x=q)) (names.take i) with
 | some n=>rfl
 | none=>
  by_cases e:s=q
  ·simp [e]
  ·simp [e]
theorem ml:cN []=fun _=>none:=by
 funext v
 cases v <;> rfl
theorem kY {names:List ByteArray} {s:ByteArray}:(cN names (.string s)).isSome=(d3 names s).isSome:=by
 show (Option.map (fun n:Nat=>aF (n:Int)) (d3 names s)).isSome=_
 cases d3 names s <;> rfl
theorem k8 {names:List ByteArray} {i:Nat} {s:ByteArray} (h:names[i]?=some s) (hk:(d3 (names.take i) s).isSome=true):cN (names.take (i+1))=cN (names.take i):=by
 funext v
 cases v with
 | string q=>
  simp only [cN]
  rw [k7 h]
  cases hq:d3 (names.take i) q with
  | some n=>rfl
  | none=>
   by_cases e:s=q
   ·subst e;rw [hq] at hk;cases hk
   ·simp [e]
 | _=>rfl
theorem kX {names:List ByteArray} {i:Nat} {s:ByteArray} (h:names[i]?=some s) (hk:(d3 (names.take i) s).isSome=false):cN (names.take (i+1)) (.string s)=some (aF i):=by
 simp only [cN]
 rw [k7 h]
 cases hq:d3 (names.take i) s with
 | some n=>rw [hq] at hk;cases hk
 | none=>simp
theorem k9 {names:List ByteArray} {i:Nat} {s:ByteArray} (h:names[i]?=some s) (q:Value) (hne:q≠ .string s):cN (names.take (i+1)) q=cN (names.take i) q:=by
 cases q with
 | string q=>
  have hne':s≠q:=fun e=>hne (by rw [e])
  simp only [cN]
  rw [k7 h]
  cases hq:d3 (names.take i) q with
  | some n=>rfl
  | none=>simp [hne']
 | _=>rfl
theorem qU (g:bv):bJ Tryz.prog 42 [.agg (bO g)] (vP g.Name):=by
 refine aM Tryz.func42 rfl Tryz.ntmps42 rfl fun B=>?_
 repeat' (first|refine Ji ?_|refine JF a5 H6 ?_|refine bf ?_|fail)
 exact JM JA
theorem qV (g:c6):bJ Tryz.prog 44 [.agg (cm g)] (vP g.Name):=by
 refine aM Tryz.func44 rfl Tryz.ntmps44 rfl fun B=>?_
 repeat' (first|refine Ji ?_|refine JF a5 H6 ?_|refine bf ?_|fail)
 exact JM JA
theorem qW (g:ez):bJ Tryz.prog 46 [.agg (cL g)] (vP g.Name):=by
 refine aM Tryz.func46 rfl Tryz.ntmps46 rfl fun B=>?_
 repeat' (first|refine Ji ?_|refine JF a5 H6 ?_|refine bf ?_|fail)
 exact JM JA
set_option maxHeartbeats 1000000 in
theorem BN (l:List bv):AC Tryz.prog 41 [.imm 9 (l.map bO),.sc (.func (.func 42) #[] #[])] [] fun c L=>∃m,c= .sc (.map (some m))∧L=[(m,cX .string (cN (l.map bv.Name)))]:=by
 refine aM Tryz.func41 rfl Tryz.ntmps41 rfl fun B=>?_
 refine cI 0 rfl rfl fun hlen=>?_
 rw [Ju] at hlen
 repeat' (first|refine Ji ?_|refine JF a5 H6 ?_)
 refine fV .string fun m=>?_
 repeat' (first|refine Ji ?_|refine am ?_|refine JF a5 H6 ?_)
 refine aP [1,5,11,12] (α:=Nat) (fun i=>[(13,aF i)]) (fun i=>i≤l.length) (fun i=>[(m,cX .string (cN ((l.map bv.Name).take i)))]) (fun i=>l.length - i) 0 rfl ⟨rfl,trivial⟩ (Nat.zero_le _) (fun _ _ h=>by rw [List.take_zero,ml];exact h) fun i hi=>?_
 try dsimp only [Js,Jr,Jq,Jl]
 repeat' (first|refine Ji ?_|refine JF a5 H6 ?_)
 refine ar rfl (fun h=>?_) (fun h=>?_)
 ·have hil:i < l.length:=by have:=Jy h;simp at this;omega
  obtain ⟨z,hz⟩:∃z,l[i]?=some z:=⟨_,Jz hil⟩
  have hzg:=bG (c:=bO) hz
  have hzn:(l.map bv.Name)[i]?=some z.Name:=by rw [List.getElem?_map,hz];rfl
  repeat' (first|refine Ji ?_|refine am ?_|refine JF a5 H6 ?_|(apply aO;first|refine aN a5 ?_|refine aG a5 ?_)|(apply aK;first|refine JH 7 a5 0 JE ?_|refine JH 7 a5 1 JE ?_|refine JH 7 a5 2 JE ?_|refine JG a5 0 JD ?_|refine JG a5 1 JD ?_|refine JG a5 2 JD ?_|refine JG a5 3 JD ?_|fail)|refine bj a5 fun _=>?_|fail)
  refine jy (cs:=[.agg (bO z)]) (caps:=[]) (qU z) rfl rfl rfl rfl rfl ?_
  repeat' (first|fail)
  refine ix 0 (.int .i64 0) Tryz.underlying129 Tryz.underlying9 rfl rfl trivial rfl (by kernel_rfl) rfl ?_
  rw [kY]
  repeat' (first|refine Ji ?_|refine JF a5 H6 ?_)
  refine ar rfl (fun h2=>?_) (fun h2=>?_)
  ·have h2':(d3 ((l.map bv.Name).take i) z.Name).isSome=false:=by simpa using h2
   repeat' (first|refine Ji ?_|refine JF a5 H6 ?_)
   refine jy (cs:=[.agg (bO z)]) (caps:=[]) (qU z) rfl rfl rfl rfl rfl ?_
   repeat' (first|refine JF a5 H6 ?_)
   refine eo 0 (cN ((l.map bv.Name).take (i+1))) Tryz.underlying129 Tryz.underlying9 rfl rfl trivial rfl rfl (kX hzn h2') (k9 hzn) ?_
   repeat' (first|refine Ji ?_|refine JF a5 H6 ?_|(apply aS;refine aR ?_)|fail)
   exact aC (i+1) rfl ⟨by rw [Jv];rfl,trivial⟩ (by omega) (by omega) (fun _ _ h=>h)
  ·have h2':(d3 ((l.map bv.Name).take i) z.Name).isSome=true:=by simpa using h2
   repeat' (first|refine Ji ?_|refine JF a5 H6 ?_|(apply aS;refine aR ?_)|fail)
   exact aC (i+1) rfl ⟨by rw [Jv];rfl,trivial⟩ (by omega) (by omega) (fun _ _ h=>by rw [k8 hzn h2'];exact h)
 ·have hil:i=l.length:=by have:=Jx h;simp at this;omega
  subst hil
  rw [List.take_of_length_le (by simp)]
  repeat' (first|refine Ji ?_|refine JF a5 H6 ?_)
  exact JL H6 ⟨_,rfl,rfl⟩
set_option maxHeartbeats 1000000 in
theorem BO (l:List c6):AC Tryz.prog 43 [.imm 2 (l.map cm),.sc (.func (.func 44) #[] #[])] [] fun c L=>∃m,c= .sc (.map (some m))∧L=[(m,cX .string (cN (l.map c6.Name)))]:=by
 refine aM Tryz.func43 rfl Tryz.ntmps43 rfl fun B=>?_
 refine cI 0 rfl rfl fun hlen=>?_
 rw [Ju] at hlen
 repeat' (first|refine Ji ?_|refine JF a5 H6 ?_)
 refine fV .string fun m=>?_
 repeat' (first|refine Ji ?_|refine am ?_|refine JF a5 H6 ?_)
 refine aP [1,5,11,12] (α:=Nat) (fun i=>[(13,aF i)]) (fun i=>i≤l.length) (fun i=>[(m,cX .string (cN ((l.map c6.Name).take i)))]) (fun i=>l.length - i) 0 rfl ⟨rfl,trivial⟩ (Nat.zero_le _) (fun _ _ h=>by rw [List.take_zero,ml];exact h) fun i hi=>?_
 try dsimp only [Js,Jr,Jq,Jl]
 repeat' (first|refine Ji ?_|refine JF a5 H6 ?_)
 refine ar rfl (fun h=>?_) (fun h=>?_)
 ·have hil:i < l.length:=by have:=Jy h;simp at this;omega
  obtain ⟨z,hz⟩:∃z,l[i]?=some z:=⟨_,Jz hil⟩
  have hzg:=bG (c:=cm) hz
  have hzn:(l.map c6.Name)[i]?=some z.Name:=by rw [List.getElem?_map,hz];rfl
  repeat' (first|refine Ji ?_|refine am ?_|refine JF a5 H6 ?_|(apply aO;first|refine aN a5 ?_|refine aG a5 ?_)|(apply aK;first|refine JH 7 a5 0 JE ?_|refine JH 7 a5 1 JE ?_|refine JH 7 a5 2 JE ?_|refine JG a5 0 JD ?_|refine JG a5 1 JD ?_|refine JG a5 2 JD ?_|refine JG a5 3 JD ?_|fail)|refine bj a5 fun _=>?_|fail)
  refine jy (cs:=[.agg (cm z)]) (caps:=[]) (qV z) rfl rfl rfl rfl rfl ?_
  repeat' (first|fail)
  refine ix 0 (.int .i64 0) Tryz.underlying129 Tryz.underlying9 rfl rfl trivial rfl (by kernel_rfl) rfl ?_
  rw [kY]
  repeat' (first|refine Ji ?_|refine JF a5 H6 ?_)
  refine ar rfl (fun h2=>?_) (fun h2=>?_)
  ·have h2':(d3 ((l.map c6.Name).take i) z.Name).isSome=false:=by simpa using h2
   repeat' (first|refine Ji ?_|refine JF a5 H6 ?_)
   refine jy (cs:=[.agg (cm z)]) (caps:=[]) (qV z) rfl rfl rfl rfl rfl ?_
   repeat' (first|refine JF a5 H6 ?_)
   refine eo 0 (cN ((l.map c6.Name).take (i+1))) Tryz.underlying129 Tryz.underlying9 rfl rfl trivial rfl rfl (kX hzn h2') (k9 hzn) ?_
   repeat' (first|refine Ji ?_|refine JF a5 H6 ?_|(apply aS;refine aR ?_)|fail)
   exact aC (i+1) rfl ⟨by rw [Jv];rfl,trivial⟩ (by omega) (by omega) (fun _ _ h=>h)
  ·have h2':(d3 ((l.map c6.Name).take i) z.Name).isSome=true:=by simpa using h2
   repeat' (first|refine Ji ?_|refine JF a5 H6 ?_|(apply aS;refine aR ?_)|fail)
   exact aC (i+1) rfl ⟨by rw [Jv];rfl,trivial⟩ (by omega) (by omega) (fun _ _ h=>by rw [k8 hzn h2'];exact h)
 ·have hil:i=l.length:=by have:=Jx h;simp at this;omega
  subst hil
  rw [List.take_of_length_le (by simp)]
  repeat' (first|refine Ji ?_|refine JF a5 H6 ?_)
  exact JL H6 ⟨_,rfl,rfl⟩
set_option maxHeartbeats 1000000 in
theorem BP (l:List ez):AC Tryz.prog 45 [.imm 4 (l.map cL),.sc (.func (.func 46) #[] #[])] [] fun c L=>∃m,c= .sc (.map (some m))∧L=[(m,cX .string (cN (l.map ez.Name)))]:=by
 refine aM Tryz.func45 rfl Tryz.ntmps45 rfl fun B=>?_
 refine cI 0 rfl rfl fun hlen=>?_
 rw [Ju] at hlen
 repeat' (first|refine Ji ?_|refine JF a5 H6 ?_)
 refine fV .string fun m=>?_
 repeat' (first|refine Ji ?_|refine am ?_|refine JF a5 H6 ?_)
 refine aP [1,5,11,12] (α:=Nat) (fun i=>[(13,aF i)]) (fun i=>i≤l.length) (fun i=>[(m,cX .string (cN ((l.map ez.Name).take i)))]) (fun i=>l.length - i) 0 rfl ⟨rfl,trivial⟩ (Nat.zero_le _) (fun _ _ h=>by rw [List.take_zero,ml];exact h) fun i hi=>?_
 try dsimp only [Js,Jr,Jq,Jl]
 repeat' (first|refine Ji ?_|refine JF a5 H6 ?_)
 refine ar rfl (fun h=>?_) (fun h=>?_)
 ·have hil:i < l.length:=by have:=Jy h;simp at this;omega
  obtain ⟨z,hz⟩:∃z,l[i]?=some z:=⟨_,Jz hil⟩
  have hzg:=bG (c:=cL) hz
  have hzn:(l.map ez.Name)[i]?=some z.Name:=by rw [List.getElem?_map,hz];rfl
  repeat' (first|refine Ji ?_|refine am ?_|refine JF a5 H6 ?_|(apply aO;first|refine aN a5 ?_|refine aG a5 ?_)|(apply aK;first|refine JH 7 a5 0 JE ?_|refine JH 7 a5 1 JE ?_|refine JH 7 a5 2 JE ?_|refine JG a5 0 JD ?_|refine JG a5 1 JD ?_|refine JG a5 2 JD ?_|refine JG a5 3 JD ?_|fail)|refine bj a5 fun _=>?_|fail)
  refine jy (cs:=[.agg (cL z)]) (caps:=[]) (qW z) rfl rfl rfl rfl rfl ?_
  repeat' (first|fail)
  refine ix 0 (.int .i64 0) Tryz.underlying129 Tryz.underlying9 rfl rfl trivial rfl (by kernel_rfl) rfl ?_
  rw [kY]
  repeat' (first|refine Ji ?_|refine JF a5 H6 ?_)
  refine ar rfl (fun h2=>?_) (fun h2=>?_)
  ·have h2':(d3 ((l.map ez.Name).take i) z.Name).isSome=false:=by simpa using h2
   repeat' (first|refine Ji ?_|refine JF a5 H6 ?_)
   refine jy (cs:=[.agg (cL z)]) (caps:=[]) (qW z) rfl rfl rfl rfl rfl ?_
   repeat' (first|refine JF a5 H6 ?_)
   refine eo 0 (cN ((l.map ez.Name).take (i+1))) Tryz.underlying129 Tryz.underlying9 rfl rfl trivial rfl rfl (kX hzn h2') (k9 hzn) ?_
   repeat' (first|refine Ji ?_|refine JF a5 H6 ?_|(apply aS;refine aR ?_)|fail)
   exact aC (i+1) rfl ⟨by rw [Jv];rfl,trivial⟩ (by omega) (by omega) (fun _ _ h=>h)
  ·have h2':(d3 ((l.map ez.Name).take i) z.Name).isSome=true:=by simpa using h2
   repeat' (first|refine Ji ?_|refine JF a5 H6 ?_|(apply aS;refine aR ?_)|fail)
   exact aC (i+1) rfl ⟨by rw [Jv];rfl,trivial⟩ (by omega) (by omega) (fun _ _ h=>by rw [k8 hzn h2'];exact h)
 ·have hil:i=l.length:=by have:=Jx h;simp at this;omega
  subst hil
  rw [List.take_of_length_le (by simp)]
  repeat' (first|refine Ji ?_|refine JF a5 H6 ?_)
  exact JL H6 ⟨_,rfl,rfl⟩
end Go.Proofs.YtpmdfoaadejmkaaGreatDoor
namespace Go.Proofs.YtpmdfoaadejmkaaGreatDoor
open Go.RowKit
attribute [local irreducible] AT bI AX AO Av Kt bi dx DA cK
theorem kW (names:List ByteArray) (s:ByteArray):(cN names (.string s)).getD (.sc (.int .i64 0))=aF ((d3 names s).getD 0:Nat):=by
 show (Option.map (fun n:Nat=>aF (n:Int)) (d3 names s)).getD (.sc (.int .i64 0))=_
 cases d3 names s <;> rfl
def kr (names:List ByteArray) (i:Nat) (s:ByteArray):Bool:=decide ((((d3 names s).getD 0:Nat):Int) < (i:Int))
def kc (f:b6):List ByteArray:=f.Glyphs.map bv.Name
def ly (f:b6):List ByteArray:=f.Features.map c6.Name
def iy (f:b6):List ByteArray:=f.Axes.map ez.Name
def ek (f:b6) (i:Nat) (g:bv):Int:=od f g (kV (gm g.Name) (kr (kc f) i g.Name))
def k6 (f:b6) (i:Nat) (t:c6):Int:=uI f t (kV (fc t.Name) (kr (ly f) i t.Name))
def jV (f:b6) (i:Nat) (a:ez):Int:=uu a (kV (gm a.Name) (kr (iy f) i a.Name))
set_option maxHeartbeats 1000000 in
theorem wE (f:b6) (i:Nat) (g:bv) (m:Nat):AC Tryz.prog 51 [aF i,.agg (bO g),.iptr (cD f),.iptr [.sc (.map (some m))]] [(m,cX .string (cN (kc f)))] fun c L=>c=aF (ek f i g)∧L=[(m,cX .string (cN (kc f)))]:=by
 refine aM Tryz.func51 rfl Tryz.ntmps51 rfl fun B=>?_
 repeat' (first|refine Ji ?_|refine JF a5 H6 ?_|refine bf ?_|fail)
 refine bw 12 [(0,.v),(1,.v),(2,.v),(3,.v),(4,.v),(5,.v),(6,.v),(7,.v),(9,.v),(8,.e),(10,.v),(11,.v)] none ?_ trivial rfl (by kernel_rfl) (by kernel_rfl) (by kernel_rfl) bR (by kernel_rfl) rfl
 repeat' (first|refine aD ?_|refine b7 a5 ?_|(apply cQ;refine dg ?_)|fail)
 refine qc 0 (.int .i64 0) Tryz.underlying129 Tryz.underlying9 rfl rfl trivial rfl (by kernel_rfl) trivial ?_
 rw [kW]
 repeat' (first|refine aD ?_|refine b7 a5 ?_|(apply cQ;refine dg ?_)|fail)
 refine JQ [7,8,18] H6 ?_
 repeat' (first|refine Ji ?_|refine a7 ?_|refine JF a5 H6 ?_|(apply bz;refine bo ?_)|fail)
 exact JL H6 ⟨rfl,rfl⟩
set_option maxHeartbeats 1000000 in
theorem zh (f:b6) (i:Nat) (t:c6) (m:Nat):AC Tryz.prog 64 [aF i,.agg (cm t),.iptr (cD f),.iptr [.sc (.map (some m))]] [(m,cX .string (cN (ly f)))] fun c L=>c=aF (k6 f i t)∧L=[(m,cX .string (cN (ly f)))]:=by
 refine aM Tryz.func64 rfl Tryz.ntmps64 rfl fun B=>?_
 repeat' (first|refine Ji ?_|refine JF a5 H6 ?_|refine bf ?_|fail)
 refine bw 12 [(0,.v),(1,.v),(2,.v),(3,.v),(4,.v),(5,.v),(6,.v),(7,.v),(9,.v),(8,.e),(10,.v),(11,.v)] none ?_ trivial rfl (by kernel_rfl) (by kernel_rfl) (by kernel_rfl) bR (by kernel_rfl) rfl
 repeat' (first|refine aD ?_|refine b7 a5 ?_|(apply cQ;refine dg ?_)|fail)
 refine qc 0 (.int .i64 0) Tryz.underlying129 Tryz.underlying9 rfl rfl trivial rfl (by kernel_rfl) trivial ?_
 rw [kW]
 repeat' (first|refine aD ?_|refine b7 a5 ?_|(apply cQ;refine dg ?_)|fail)
 refine JQ [7,8,18] H6 ?_
 repeat' (first|refine Ji ?_|refine a7 ?_|refine JF a5 H6 ?_|(apply bz;refine bo ?_)|fail)
 exact JL H6 ⟨rfl,rfl⟩
set_option maxHeartbeats 1000000 in
theorem yN (f:b6) (i:Nat) (a:ez) (m:Nat):AC Tryz.prog 68 [aF i,.agg (cL a),.iptr [.sc (.map (some m))]] [(m,cX .string (cN (iy f)))] fun c L=>c=aF (jV f i a)∧L=[(m,cX .string (cN (iy f)))]:=by
 refine aM Tryz.func68 rfl Tryz.ntmps68 rfl fun B=>?_
 repeat' (first|refine Ji ?_|refine JF a5 H6 ?_|refine bf ?_|fail)
 refine bw 11 [(0,.v),(1,.v),(2,.v),(3,.v),(4,.v),(5,.v),(6,.v),(8,.v),(7,.e),(9,.v),(10,.v)] none ?_ trivial rfl (by kernel_rfl) (by kernel_rfl) (by kernel_rfl) bR (by kernel_rfl) rfl
 repeat' (first|refine aD ?_|refine b7 a5 ?_|(apply cQ;refine dg ?_)|fail)
 refine qc 0 (.int .i64 0) Tryz.underlying129 Tryz.underlying9 rfl rfl trivial rfl (by kernel_rfl) trivial ?_
 rw [kW]
 repeat' (first|refine aD ?_|refine b7 a5 ?_|(apply cQ;refine dg ?_)|fail)
 refine JQ [6,16] H6 ?_
 repeat' (first|refine Ji ?_|refine a7 ?_|refine JF a5 H6 ?_|(apply bz;refine bo ?_)|fail)
 exact JL H6 ⟨rfl,rfl⟩
end Go.Proofs.YtpmdfoaadejmkaaGreatDoor
