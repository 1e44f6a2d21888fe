/-
  An engine is made: the walk.
-/
import Derived.Test.YtpmdfoaadejmkaaGreatDoorM28
import Derived.Test.YtpmdfoaadejmkaaGreatDoorM22
namespace Go.Proofs.YtpmdfoaadejmkaaGreatDoor
open Go.RowKit
attribute [local irreducible] AT bP AX AO Av Kt bb dh DA cG
structure IJ (f:aT):Prop where
 glyphs:0 < f.Glyphs.length∧f.Glyphs.length≤65536
 lookups:f.Lookups.length≤1000000
 look:∀l∈f.Lookups,zS f.Glyphs.length l
 rule:∀l∈f.Lookups,∀r∈l.Rules,IE r
structure KD (f:aT) (E:qV):Prop where
 ls:E.lks.map (·.l)=f.Lookups
 ms:E.ms=f.Glyphs.map bj.Mark
 auto:∀e∈E.lks,1≤e.l.Kind→e.l.Kind≤6→lN e
def MY:Option lM→List AV
 | none=>[f3,f3,f3,f3,f3]
 | some a=>Ma a
def LW:lM:=⟨[],[],[],[],[]⟩
def LA (l:aY) (a:Option lM) (j:Nat):List AV:=[aK l.Kind,dy l.Ignore,.imm 6 ((kc l).Rules.map bI)]++MY a++[aK (gP (l.Rules.take j)),aK (jv (l.Rules.take j))]
def CJ (l:aY) (a:lM) (j:Nat):List AV:=[aK l.Kind,dy l.Ignore,.imm 6 ((kc l).Rules.map bI),.imm 1 (aW a.cls),.imm 1 (b6 a.fore),.imm 1 (b6 a.back),.imm 1 (ie a.foreE),.imm 1 (ie a.backE),aK (gP (l.Rules.take j)),aK (jv (l.Rules.take j))]
theorem FZ (l:aY) (a:Option lM) (j:Nat):mF (LA l a j) (CJ l (a.getD LW) j):=by
 cases a with
 | none=>exact ⟨d7.refl _,d7.refl _,d7.refl _,d7.nil 1,d7.nil 1,d7.nil 1,d7.nil 1,d7.nil 1,d7.refl _,d7.refl _,trivial⟩
 | some a=>exact ⟨d7.refl _,d7.refl _,d7.refl _,d7.refl _,d7.refl _,d7.refl _,d7.refl _,d7.refl _,d7.refl _,d7.refl _,trivial⟩
theorem G0 (l:aY) (a:lM):CJ l a l.Rules.length=gk (Ho l a):=by
 unfold CJ
 rw [List.take_length]
 rfl
theorem yz {rs:List bk} {j:Nat} {r:bk} (h:rs[j]?=some r):gP (rs.take (j+1))=max (gP (rs.take j)) (r.In.length+r.Ahead.length)∧jv (rs.take (j+1))=max (jv (rs.take j)) r.Back.length:=by
 unfold gP jv
 rw [List.take_add_one,h]
 constructor <;> simp
theorem F0 {N:Nat} {rs:List bk} (h:∀r∈rs,vF N r) (j:Nat):gP (rs.take j)≤200∧jv (rs.take j)≤200:=⟨jC (by omega) fun r hr=>(h r (List.mem_of_mem_take hr)).long.2,jC (by omega) fun r hr=>(h r (List.mem_of_mem_take hr)).long.1⟩
theorem BE (l:List Bool) (b:Bool):pu l++[[dy b]]=pu (l++[b]):=by simp [pu]
set_option maxHeartbeats 16000000 in
theorem FQ (f:aT) (h:IJ f) (hck:AC Tryz.prog 25 [ca f] [] fun c _=>∃n:Int,c=co (0,n)):AC Tryz.prog 15 [ca f] [] fun c _=>∃E,KD f E∧c= .tup [.iptr (eZ E),aK 0]:=by
 refine aV Tryz.func15 rfl Tryz.ntmps15 rfl fun B=>?_
 have hgl:(f.Glyphs.map bD).length=f.Glyphs.length:=Nu ..
 have hll:(f.Lookups.map br).length=f.Lookups.length:=Nu ..
 obtain ⟨hN0,hN⟩:=h.glyphs
 have hL:=h.lookups
 refine W08 ?_
 refine b7 [] _ hck rfl rfl (Nn _) rfl fun c1 L1 ⟨n0,hc1⟩=>?_
 subst hc1
 refine aL (bF (List.sublist_append_right ..)) ?_
 unfold co
 repeat' (first|refine Ng ?_|refine ak ?_|refine NG a5 IG ?_|refine wV (d:=25) fun _=>?_|refine bJ rfl ?_)
 rename_i eb
 refine bU (bL 0 (cs':=[.vec none 10 [],.vec none 1 []]) rfl fun σ vs hh=>mF.vrs (a:=[f3,f3]) (b:=[.vec none 10 [],.vec none 1 []]) ⟨fun σ v h=>cW 10 h,fun σ v h=>cW 1 h,trivial⟩ hh) ?_
 refine aM [1,6,27,28] (α:=List qU×Option (Nat×Nat)) (fun s=>[(29,aK s.1.length)]) (fun s=>s.1.length≤f.Lookups.length∧s.1.map (·.l)=f.Lookups.take s.1.length∧∀e∈s.1,1≤e.l.Kind→e.l.Kind≤6→lN e) (fun s=>(eb,.box [.vec s.2 10 (s.1.map gk),.vec none 1 []] 86)::tok s.2 97 10 s.1.length) (fun s=>f.Lookups.length - s.1.length) ([],none) rfl ⟨rfl,trivial⟩ ⟨Nat.zero_le _,rfl,fun e he=>by cases he⟩ (fun _ _ hh=>hh) ?_
 rintro ⟨es,q⟩ ⟨hk,hes,hau⟩
 dsimp only at hk hes hau ⊢
 try dsimp only [Ns,Nr,Nq,Nk]
 refine W01 ?_
 refine aj rfl (fun h1=>?_) (fun h1=>?_)
 ·have hk2:es.length < f.Lookups.length:=by have:=Ny h1;omega
  obtain ⟨l,hl⟩:∃z,f.Lookups[es.length]?=some z:=⟨_,Nz hk2⟩
  have hlg:(f.Lookups.map br)[es.length]?=some (br l):=by simp [hl]
  have hlm:=Nw hl
  have hbl:=h.look l hlm
  have hfew:=hbl.few
  haveI:=AD.mk (wg l (by omega) (h.rule l hlm))
  have hbu:=Ej f es.length l hl hbl hN0 hN
  have hrl:(l.Rules.map bI).length=l.Rules.length:=Nu ..
  clear h1
  repeat' (first|refine Ng ?_|refine ak ?_|refine NG a5 IG ?_|(apply aO;first|refine aN a5 ?_|refine aF a5 ?_)|(apply aI;first|refine NI 8 a5 0 NF ?_|refine NI 8 a5 1 NF ?_|refine NI 8 a5 2 NF ?_|refine NI 10 a5 0 NF ?_|refine NI 10 a5 1 NF ?_|refine NI 10 a5 2 NF ?_|refine NI 13 a5 0 NF ?_|refine NI 13 a5 1 NF ?_|refine NI 13 a5 2 NF ?_|refine NI 15 a5 0 NF ?_|refine NI 15 a5 1 NF ?_|refine NI 15 a5 2 NF ?_|refine NH a5 0 NE ?_|refine NH a5 1 NE ?_|refine NH a5 2 NE ?_|refine NH a5 3 NE ?_|fail)|refine bn a5 fun _=>?_|(apply bA;refine bw ?_)|fail)
  rename_i ob
  refine o7 (α:=Option lM) [1,6,8,9,27,28,29] (fun _=>[(1,.iptr (cn f)),(6,gT eb),(8,.iptr (br l)),(9,gT ob),(27,.imm 3 (f.Lookups.map br)),(28,.sc (.int .i64 ((f.Lookups.map br).length:Int))),(29,aK es.length)]) (fun a=>(ob,.box (LA l a 0) 97)::(eb,.box [.vec q 10 (es.map gk),.vec none 1 []] 86)::tok q 97 10 es.length) (fun a=>1≤l.Kind→l.Kind≤6→∃a',a=some a'∧zT f.Glyphs.length l.Rules a') (fun Q' K=>?_) (fun a ha=>?_)
  ·refine aj rfl (fun h1=>?_) (fun h1=>?_)
   ·refine W01 ?_
    refine b7 [] _ hbu rfl rfl (Nn _) rfl fun c1 L1 ⟨a,ha,hc1⟩=>?_
    subst hc1
    refine aL (bF (List.sublist_append_right ..)) ?_
    repeat' (first|refine Ng ?_|refine NG a5 IG ?_|(apply aI;first|refine NI 8 a5 0 NF ?_|refine NI 8 a5 1 NF ?_|refine NI 8 a5 2 NF ?_|refine NI 10 a5 0 NF ?_|refine NI 10 a5 1 NF ?_|refine NI 10 a5 2 NF ?_|refine NI 13 a5 0 NF ?_|refine NI 13 a5 1 NF ?_|refine NI 13 a5 2 NF ?_|refine NI 15 a5 0 NF ?_|refine NI 15 a5 1 NF ?_|refine NI 15 a5 2 NF ?_|refine NH a5 0 NE ?_|refine NH a5 1 NE ?_|refine NH a5 2 NE ?_|refine NH a5 3 NE ?_|fail)|refine bn a5 fun _=>?_|refine bJ rfl ?_)
    exact K (some a) _ (fun _ _=>⟨a,rfl,ha⟩) rfl
   ·repeat' (first|refine Ng ?_|fail)
    exact K none _ (fun h1' h6=>absurd (Nx h1) (fun hn=>hn ⟨h1',h6⟩)) rfl
  ·have hA:1≤l.Kind→l.Kind≤6→zT f.Glyphs.length l.Rules (a.getD LW):=fun h1 h6=>by
    obtain ⟨a',rfl,hb⟩:=ha h1 h6
    exact hb
   refine bU (bL 0 (cs':=CJ l (a.getD LW) 0) rfl fun σ vs hh=>(FZ l a 0).vrs hh) ?_
   generalize a.getD LW=A at hA
   clear ha
   refine W03 ?_
   refine aM [1,6,9,27,28,29,52,53] (α:=Nat) (fun j=>[(54,aK j)]) (fun j=>j≤l.Rules.length) (fun j=>(ob,.box (CJ l A j) 97)::(eb,.box [.vec q 10 (es.map gk),.vec none 1 []] 86)::tok q 97 10 es.length) (fun j=>l.Rules.length - j) 0 rfl ⟨rfl,trivial⟩ (Nat.zero_le _) (fun _ _ hh=>hh) fun j hj=>?_
   try dsimp only [Ns,Nr,Nq,Nk]
   refine W01 ?_
   refine aj rfl (fun h1=>?_) (fun h1=>?_)
   ·have hj2:j < l.Rules.length:=by have:=Ny h1;omega
    obtain ⟨r,hr⟩:∃z,l.Rules[j]?=some z:=⟨_,Nz hj2⟩
    have hrg:(l.Rules.map bI)[j]?=some (bI r):=by simp [hr]
    have hlong:=(hbl.rule r (Nw hr)).long
    have hl1:=bO r.In
    have hl2:=bO r.Ahead
    have hl3:=bO r.Back
    obtain ⟨hfb,hbb⟩:=F0 hbl.rule j
    obtain ⟨hfs,hbs⟩:=yz hr
    clear h1
    repeat' (first|refine Ng ?_|refine ak ?_|refine NG a5 IG ?_|(apply bz;first|refine NJ a5 0 NC ?_|refine NJ a5 1 NC ?_|refine NJ a5 2 NC ?_|refine NJ a5 3 NC ?_|refine NK a5 0 NC ?_|refine NK a5 1 NC ?_|refine NK a5 2 NC ?_|refine NL a5 1 NA (by assumption) rfl ?_|refine NL a5 0 NA (by assumption) rfl ?_|fail)|(apply aS;refine aR ?_)|(apply aO;first|refine aN a5 ?_|refine aF a5 ?_)|(apply aI;first|refine NI 8 a5 0 NF ?_|refine NI 8 a5 1 NF ?_|refine NI 8 a5 2 NF ?_|refine NI 10 a5 0 NF ?_|refine NI 10 a5 1 NF ?_|refine NI 10 a5 2 NF ?_|refine NI 13 a5 0 NF ?_|refine NI 13 a5 1 NF ?_|refine NI 13 a5 2 NF ?_|refine NI 15 a5 0 NF ?_|refine NI 15 a5 1 NF ?_|refine NI 15 a5 2 NF ?_|refine NH a5 0 NE ?_|refine NH a5 1 NE ?_|refine NH a5 2 NE ?_|refine NH a5 3 NE ?_|fail)|refine bn a5 fun _=>?_|fail)
    refine aC (j+1) rfl ⟨by rw [Nv];rfl,trivial⟩ hj2 (by omega) (fun _ _ hh=>?_)
    have e1:((max (gP (l.Rules.take j)) (r.In.length+r.Ahead.length):Nat):Int)=max ((gP (l.Rules.take j):Nat):Int) (((b6 r.In).length:Int)+((b6 r.Ahead).length:Int)):=by omega
    have e2:((max (jv (l.Rules.take j)) r.Back.length:Nat):Int)=max ((jv (l.Rules.take j):Nat):Int) ((b6 r.Back).length:Int):=by omega
    unfold CJ
    rw [hfs,hbs,e1,e2]
    exact hh
   ·have hj2:j=l.Rules.length:=by have:=Nx h1;omega
    subst hj2
    rw [G0]
    clear h1
    have hel:(es.map gk).length=es.length:=Nu ..
    have hsn:es.map gk++[gk (Ho l A)]=(es++[Ho l A]).map gk:=by rw [List.map_append];rfl
    repeat' (first|refine Ng ?_|fail)
    refine bv 8 [(0,.v),(1,.v),(2,.v),(3,.v),(4,.l),(5,.l),(6,.v),(7,.e)] none ?_ trivial rfl (by kernel_rfl) (by kernel_rfl) (by kernel_rfl) bQ (by kernel_rfl) rfl
    repeat' (first|refine aD ?_|refine aZ a5 ?_|refine dQ a5 ?_|refine ce a5 1 rfl rfl rfl rfl (by first|trivial|rfl) ?_|refine r5 a5 0 rfl rfl rfl rfl (by first|trivial|rfl) ?_)
    refine dP a5 [(ob,.box (gk (Ho l A)) 97),(eb,.box [.vec q 10 (es.map gk),.vec none 1 []] 86)] rfl rfl rfl rfl (by rw [hel];exact List.perm_append_comm (l₁:=[_,_])) (by rw [hel];simp;omega) (by rw [hel];simp;omega) trivial fun q'=>?_
    refine NP [1,6,27,28,29,77,84] IG ?_
    refine aL (aQ (L':=(ob,.box (gk (Ho l A)) 97)::(eb,.box [.vec q 10 (es.map gk),.vec none 1 []] 86)::tok q' 97 10 (es.map gk++[gk (Ho l A)]).length) (List.perm_append_comm (l₂:=[_,_]))) ?_
    refine W0z ?_
    have hll2:(es++[Ho l A]).length=es.length+1:=by simp
    refine aC (es++[Ho l A],q') rfl ⟨by dsimp only;rw [hll2,Nv];rfl,trivial⟩ ⟨by dsimp only;omega,?_,?_⟩ (by dsimp only;omega) (fun σ w hh=>?_)
    ·dsimp only
     rw [List.map_append,hes,hll2,List.take_add_one,hl]
     rfl
    ·intro e he h1 h6
     rw [List.mem_append,List.mem_singleton] at he
     rcases he with he | rfl
     ·exact hau e he h1 h6
     ·exact H9 hbl (hA h1 h6)
    ·have h2:=hh.sublist (List.sublist_cons_self ..)
     rw [hsn,Nu] at h2
     dsimp only
     rw [←hsn]
     exact h2
 ·have hk2:es.length=f.Lookups.length:=by have:=Nx h1;omega
  rw [hk2,List.take_length] at hes
  clear h1
  refine W03 ?_
  refine aM [6,89,90] (α:=Nat×Option (Nat×Nat)) (fun s=>[(91,aK s.1)]) (fun s=>s.1≤f.Glyphs.length) (fun s=>(eb,.box [.vec q 10 (es.map gk),.vec s.2 1 (pu ((f.Glyphs.map bj.Mark).take s.1))] 86)::(tok q 97 10 es.length++tok s.2 4 1 s.1)) (fun s=>f.Glyphs.length - s.1) (0,none) rfl ⟨rfl,trivial⟩ (Nat.zero_le _) (fun σ w hh=>by show dw B σ ((eb,.box [.vec q 10 (es.map gk),.vec none 1 []] 86)::(tok q 97 10 es.length++[])) w;rw [List.append_nil];exact hh) ?_
  rintro ⟨k,q2⟩ hk3
  dsimp only at hk3 ⊢
  try dsimp only [Ns,Nr,Nq,Nk]
  refine W01 ?_
  refine aj rfl (fun h1=>?_) (fun h1=>?_)
  ·have hk4:k < f.Glyphs.length:=by have:=Ny h1;omega
   obtain ⟨g,hg⟩:∃z,f.Glyphs[k]?=some z:=⟨_,Nz hk4⟩
   have hgg:(f.Glyphs.map bD)[k]?=some (bD g):=by simp [hg]
   have hbl:(pu ((f.Glyphs.map bj.Mark).take k)).length=k:=by rw [wc,List.length_take,Nu];omega
   have hbs:(f.Glyphs.map bj.Mark).take (k+1)=(f.Glyphs.map bj.Mark).take k++[g.Mark]:=by rw [List.take_add_one,List.getElem?_map,hg];rfl
   have hsn:=BE ((f.Glyphs.map bj.Mark).take k) g.Mark
   rw [←hbs] at hsn
   generalize pu ((f.Glyphs.map bj.Mark).take k)=bl at *
   clear h1
   repeat' (first|refine Ng ?_|refine ak ?_|refine NG a5 IG ?_|(apply aO;first|refine aN a5 ?_|refine aF a5 ?_)|(apply aI;first|refine NI 8 a5 0 NF ?_|refine NI 8 a5 1 NF ?_|refine NI 8 a5 2 NF ?_|refine NI 10 a5 0 NF ?_|refine NI 10 a5 1 NF ?_|refine NI 10 a5 2 NF ?_|refine NI 13 a5 0 NF ?_|refine NI 13 a5 1 NF ?_|refine NI 13 a5 2 NF ?_|refine NI 15 a5 0 NF ?_|refine NI 15 a5 1 NF ?_|refine NI 15 a5 2 NF ?_|refine NH a5 0 NE ?_|refine NH a5 1 NE ?_|refine NH a5 2 NE ?_|refine NH a5 3 NE ?_|fail)|refine bn a5 fun _=>?_|fail)
   refine bv 9 [(0,.v),(1,.v),(2,.v),(3,.v),(4,.l),(5,.v),(6,.v),(7,.v),(8,.e)] none ?_ trivial rfl (by kernel_rfl) (by kernel_rfl) (by kernel_rfl) bQ (by kernel_rfl) rfl
   refine W1y ?_
   refine dP a5 ((eb,.box [.vec q 10 (es.map gk),.vec q2 1 bl] 86)::tok q 97 10 es.length) rfl rfl rfl rfl (by rw [hbl];exact (List.perm_append_comm (l₁:=_::tok q 97 10 es.length))) (by rw [hbl];simp;omega) (by rw [hbl];simp;omega) trivial fun q'=>?_
   refine NP [6,89,90,91,95,103] IG ?_
   refine aL (aQ (L':=(eb,.box [.vec q 10 (es.map gk),.vec q2 1 bl] 86)::(tok q 97 10 es.length++tok q' 4 1 (k+1))) (by rw [List.length_append,hbl];exact (List.perm_append_comm (l₂:=_::tok q 97 10 es.length)))) ?_
   refine W0z ?_
   exact aC (k+1,q') rfl ⟨by rw [Nv];rfl,trivial⟩ hk4 (by dsimp only;omega) (fun _ _ hh=>by dsimp only;rw [←hsn];exact hh)
  ·have hk4:k=f.Glyphs.length:=by have:=Nx h1;omega
   subst hk4
   rw [List.take_of_length_le (by rw [Nu];exact Nat.le_refl _)]
   clear h1
   refine W01 ?_
   refine bf (bL 0 (cs':=eZ ⟨es,f.Glyphs.map bj.Mark⟩) rfl fun σ vs hh=>mF.vrs (a:=[.vec q 10 (es.map gk),.vec q2 1 (pu (f.Glyphs.map bj.Mark))]) (b:=eZ ⟨es,f.Glyphs.map bj.Mark⟩) ⟨fun σ v h=>VR.im h,fun σ v h=>VR.im h,trivial⟩ hh) ?_
   refine bf (xB (t:=2) (cs:=eZ ⟨es,f.Glyphs.map bj.Mark⟩) 0 rfl rfl rfl) ?_
   refine ea (List.nil_sublist _) ?_
   exact NT NA ⟨⟨es,f.Glyphs.map bj.Mark⟩,⟨hes,rfl,hau⟩,rfl⟩
def fY:Nat→List Int→List bc
 | _,[]=>[]
 | i,g::l=>⟨g,i,0,0,0,0⟩::fY (i+1) l
def gn (l:List Int):List bc:=fY 0 l
def nP:List Bool:=[false,false,false,false,true]
def Lo (ig:Bool):List aY:=[⟨3,ig,[⟨[],[[0],[1]],[],[2],[],0⟩]⟩]
def uW (a b c:Nat):List Int:=List.replicate a 4++0::(List.replicate b 4++1::List.replicate c 4)
def wS (a b c:Nat) (ig:Bool):List Int:=if 0 < b∧ig=false then uW a b c else List.replicate a 4++2::(List.replicate b 4++List.replicate c 4)
def FB (a b c:Nat) (ig:Bool):Bool:=
 let out:=gj nP (Lo ig) 0 (gn (uW a b c)) []
 (out.map bc.Glyph==wS a b c ig) && (decide ((wS a b c ig).length=(uW a b c).length) || (match out[a]? with | some x=>decide (x.Cluster=a) | none=>false))
def LV:Bool:=(List.range 8).all fun a=>(List.range 8).all fun b=>(List.range 8).all fun c=>FB a b c true && FB a b c false
def LG:bk:=⟨[],[[0]],[[1]],[1],[],0⟩
def LF:List aY:=[⟨5,false,[LG]⟩,⟨1,false,[LG]⟩]
def G6 (n:Nat):List Int:=List.replicate n 0++[1]
def Ki (n:Nat):List Int:=(List.range (n+1)).map fun (k:Nat)=>if (n:Int) - 1≤(k:Int) then (1:Int) else 0
def N6 (n:Nat):Bool:=((gj nP LF 0 (gn (G6 n)) []).map bc.Glyph==List.replicate (n+1) 1) && ((gj nP LF 1 (gn (G6 n)) []).map bc.Glyph==Ki n)
def L6 (k:Nat):List aY:=[⟨4,false,[⟨[],[[0]],[],[],[⟨0,1⟩,⟨0,2⟩,⟨0,0⟩],0⟩]⟩,⟨1,false,[⟨[],[[0]],[],[2],[],0⟩]⟩,⟨2,false,[⟨[],[[2]],[],List.replicate k 1,[],0⟩]⟩]
def MK (n k:Nat):Bool:=
 let out:=gj nP (L6 k) 0 (gn (List.replicate n 0)) []
 if k=0 then decide (out.length < n) else out.map bc.Glyph==List.replicate (n * k) 1
def Lw (c:UInt8) (m:Bool):bj:=⟨⟨#[c]⟩,0,m,[],[],[],[],[],[]⟩
def vl:List bj:=[Lw 97 false,Lw 98 false,Lw 99 false,Lw 100 false,Lw 109 true]
def gr (ls:List aY):aT:=⟨1000,vl,[],ls,[],[],[],[],[]⟩
def Gp:List aY:=[⟨3,false,[⟨[],[[0],[1]],[],[2],[],0⟩]⟩,⟨1,false,[⟨[],[[2]],[],[3],[],0⟩]⟩]
theorem sw (ls:List aY):iW (gr ls).Glyphs.length (prt (gr ls)):=by
 refine ⟨fun _=>0,fun g h0 h1 p hp=>?_⟩
 exfalso
 have hg:g.toNat < 5:=by have:g < 5:=h1;omega
 unfold prt at hp
 obtain ⟨x,hx⟩:∃x,(gr ls).Glyphs[g.toNat]?=some x:=⟨_,Nz hg⟩
 have hm:x.Parts=[]:=by
  have:∀y∈vl,y.Parts=[]:=by decide+kernel
  exact this x (Nw hx)
 rw [hx] at hp
 dsimp only at hp
 rw [hm] at hp
 simp at hp
theorem qH (ls:List aY):(bT 400 vl (cX (gr ls))).1=0:=by
 have h0:(bT 400 vl (cX (gr []))).1=0:=by decide
 exact h0
theorem CM (ls:List aY):gh (gr ls) (fun _=>0) (fun _=>0):=by
 intro z h0 h1 gl hgl
 have h1:z < 5:=h1
 have:z=0∨z=1∨z=2∨z=3∨z=4:=by omega
 rcases this with rfl | rfl | rfl | rfl | rfl <;> (injection hgl with e;subst e;exact ⟨by decide,by decide⟩)
theorem x9 {ls:List aY} (h:(bT 40 ls (g7 (gr ls))).1=0):(iN (gr ls)).1=0:=by
 refine dq.2 fun x hx=>?_
 have hc:(j8 (gr ls)).1=0:=by
  rw [oh (gy (qH ls)) (sw ls) (CM ls)]
  show (og 5 (fun _=>0) (fun _=>0)).1=0
  decide
 simp only [tH,List.mem_cons,List.not_mem_nil,or_false] at hx
 rcases hx with rfl | rfl | rfl | rfl | rfl | rfl | rfl | rfl | rfl | rfl
 ·rfl
 ·exact qH ls
 ·exact hc
 ·rfl
 ·exact h
 ·rfl
 ·rfl
 ·rfl
 ·rfl
 ·rfl
def Fs (ls:List aY):Bool:=decide ((bT 40 ls (g7 (gr ls))).1=0)
theorem ml:∀(l:List Int) (i:Nat) (g:Int),fY i (l++[g])=fY i l++[⟨g,(i+l.length:Nat),0,0,0,0⟩]
 | [],i,g=>rfl
 | x::l,i,g=>by
  rw [Ns,fY,ml l (i+1) g,fY,Ns,List.length_cons,show i+1+l.length=i+(l.length+1) by omega]
theorem ng:∀(l:List Int) (i:Nat),(fY i l).length=l.length
 | [],_=>rfl
 | x::l,i=>by rw [fY,List.length_cons,ng l,List.length_cons]
theorem Cp (l:List Int) (hl:l.length≤1000000):bV Tryz.prog 29 [.imm 1 (aW l)] (.imm 6 ((gn l).map cP)):=by
 refine aV Tryz.func29 rfl Tryz.ntmps29 rfl fun B=>?_
 have hil:=aJ l
 repeat' (first|refine Ng ?_|refine ak ?_|refine NG a5 IG ?_|refine fR (d:=5) a5 fun _=>?_|fail)
 refine aM [0] (α:=Nat×Option (Nat×Nat)) (fun s=>[(4,aK s.1),(3,.vec s.2 6 ((gn (l.take s.1)).map cP))]) (fun s=>s.1≤l.length) (fun s=>tok s.2 67 6 s.1) (fun s=>l.length - s.1) (0,some (_,0)) rfl ⟨rfl,rfl,trivial⟩ (Nat.zero_le _) (fun _ _ h=>h) ?_
 rintro ⟨i,q⟩ hi
 dsimp only at hi ⊢
 try dsimp only [Ns,Nr,Nq,Nk]
 refine W01 ?_
 refine aj rfl (fun h1=>?_) (fun h1=>?_)
 ·have hi2:i < l.length:=by have:=Ny h1;omega
  obtain ⟨g,hg⟩:∃z,l[i]?=some z:=⟨_,Nz hi2⟩
  have hgg:=bK hg
  have hml:((gn (l.take i)).map cP).length=i:=by unfold gn;rw [Nu,ng,List.length_take];omega
  have hsn:(gn (l.take i)).map cP++[cP ⟨g,(i:Nat),0,0,0,0⟩]=(gn (l.take (i+1))).map cP:=by
   rw [List.take_add_one,hg]
   unfold gn
   show _=(fY 0 (l.take i++[g])).map cP
   rw [ml,List.map_append,List.length_take,Nat.min_eq_left (by omega),Nat.zero_add]
   rfl
  generalize (gn (l.take i)).map cP=A0 at *
  clear h1
  repeat' (first|refine Ng ?_|refine ak ?_|refine NG a5 IG ?_|(apply aO;first|refine aN a5 ?_|refine aF a5 ?_)|refine bM a5 ?_|fail)
  refine NS a5 [] NB (by rw [hml,List.append_nil]) (by rw [hml];simp;omega) (by rw [hml];simp;omega) rfl fun q'=>?_
  refine W02 ?_
  refine aC (i+1,q') rfl ⟨by rw [Nv];rfl,by dsimp only;rw [←hsn];rfl,trivial⟩ hi2 (by dsimp only;omega) (fun _ _ h=>?_)
  rw [List.length_append,hml,List.append_nil] at h
  exact h
 ·have hi2:i=l.length:=by have:=Nx h1;omega
  subst hi2
  rw [List.take_length]
  clear h1
  refine W01 ?_
  refine bf (bH (t:=2) (c':= .imm 6 ((gn l).map cP)) rfl fun σ v h=>VR.im h) ?_
  refine ea (List.nil_sublist _) ?_
  exact NQ NA
theorem yI (run:List bc) (l:List Int) (hl:l.length≤1000000):bV Tryz.prog 30 [.imm 6 (run.map cP),.imm 1 (aW l)] (dy (decide (run.map bc.Glyph=l))):=by
 refine aV Tryz.func30 rfl Tryz.ntmps30 rfl fun B=>?_
 have hil:=aJ l
 have hrl:(run.map cP).length=run.length:=Nu ..
 refine W01 ?_
 refine aj rfl (fun h1=>?_) (fun h1=>?_)
 ·have hne:¬run.length=l.length:=by have:=Ny h1;omega
  rw [decide_eq_false (fun e=>hne (by rw [←e,Nu]))]
  refine W01 ?_
  exact NQ NA
 ·have heq:run.length=l.length:=by have:=Nx h1;omega
  clear h1
  refine W03 ?_
  refine aM [0,1] (α:=Nat) (fun i=>[(5,aK i)]) (fun i=>i≤l.length∧(run.map bc.Glyph).take i=l.take i) (fun _=>[]) (fun i=>l.length - i) 0 rfl ⟨rfl,trivial⟩ ⟨Nat.zero_le _,rfl⟩ (fun _ _ h=>h) ?_
  rintro i ⟨hi,hti⟩
  try dsimp only [Ns,Nr,Nq,Nk]
  refine W01 ?_
  refine aj rfl (fun h1=>?_) (fun h1=>?_)
  ·have hi2:i < l.length:=by have:=Ny h1;omega
   obtain ⟨g,hg⟩:∃z,l[i]?=some z:=⟨_,Nz hi2⟩
   obtain ⟨x,hx⟩:∃z,run[i]?=some z:=⟨_,Nz (by omega)⟩
   have hgg:=bK hg
   have hxg:(run.map cP)[i]?=some (cP x):=by simp [hx]
   have hmg:(run.map bc.Glyph)[i]?=some x.Glyph:=by simp [hx]
   clear h1
   refine W0n ?_
   refine bv 9 [(0,.v),(1,.v),(2,.v),(3,.v),(4,.v),(5,.v),(6,.v),(7,.v),(8,.v)] none ?_ trivial rfl (by kernel_rfl) (by kernel_rfl) (by kernel_rfl) bQ (by kernel_rfl) rfl
   refine W0b ?_
   refine NP [0,1,5,21,25] IG ?_
   refine W0k ?_
   refine aj rfl (fun h1=>?_) (fun h1=>?_)
   ·have hne:x.Glyph≠g:=Ny h1
    rw [decide_eq_false (fun e=>hne (by rw [e,hg] at hmg;cases hmg;rfl))]
    refine W01 ?_
    exact NQ NA
   ·have heg:x.Glyph=g:=by have h1':¬x.Glyph≠g:=Nx h1;exact Classical.not_not.1 h1'
    refine W02 ?_
    exact aC (i+1) rfl ⟨by rw [Nv];rfl,trivial⟩ ⟨hi2,by rw [List.take_add_one,List.take_add_one,hti,hg,hmg,heg]⟩ (by omega) (fun _ _ h=>h)
  ·have hi2:i=l.length:=by have:=Nx h1;omega
   subst hi2
   rw [List.take_length,List.take_of_length_le (by rw [Nu];omega)] at hti
   rw [decide_eq_true hti]
   refine W01 ?_
   exact NQ NA
theorem Ce {f:aT} (hr:(iN f).1=0) (ha:iW f.Glyphs.length (prt f)):AC Tryz.prog 25 [ca f] [] fun c _=>∃n:Int,c=co (0,n):=
 AC.mono (HK f fun _=>ha) fun c L hc=>⟨(iN f).2,by rw [hc,←hr]⟩
def Gj (N:Nat) (s:List Int):Bool:=decide (s.Pairwise (· < ·)) && s.all fun g=>decide (0≤g) && decide (g < (N:Int))
def Ga (N:Nat) (r:bk):Bool:=r.Back.all (Gj N) && (r.In.all (Gj N) && (r.Ahead.all (Gj N) && (decide (r.Back.length≤200) && (decide (r.In.length+r.Ahead.length≤200) && (decide (r.Out.length≤1000000) && (decide (r.Calls.length≤1000000) && r.Calls.all fun c=>decide (0≤c.At) && decide (c.At≤1000000)))))))
def Az (N:Nat) (l:aY):Bool:=decide (l.Rules.length≤6) && l.Rules.all (Ga N)
theorem vr {N:Nat} {s:List Int} (h:Gj N s=true):jV s∧∀g∈s,0≤g∧g < (N:Int):=by
 unfold Gj at h
 simp only [Bool.and_eq_true,decide_eq_true_eq,List.all_eq_true] at h
 exact h
structure DF (N:Nat) (r:bk):Prop where
 b:vF N r
 out:r.Out.length≤1000000
 calls:r.Calls.length≤1000000
 at_:∀c∈r.Calls,0≤c.At∧c.At≤1000000
theorem Gb {N:Nat} {r:bk} (h:Ga N r=true):DF N r:=by
 unfold Ga at h
 simp only [Bool.and_eq_true,decide_eq_true_eq,List.all_eq_true] at h
 obtain ⟨h1,h2,h3,h4,h5,h6,h7,h8⟩:=h
 exact ⟨⟨fun s hs=>vr (h1 s hs),fun s hs=>vr (h2 s hs),fun s hs=>vr (h3 s hs),h4,h5⟩,h6,h7,h8⟩
structure nZ (f:aT):Prop where
 glyphs:0 < f.Glyphs.length∧f.Glyphs.length≤65536
 lookups:f.Lookups.length≤1000000
 few:∀l∈f.Lookups,l.Rules.length≤6
 rule:∀l∈f.Lookups,∀r∈l.Rules,DF f.Glyphs.length r
theorem nZ.new {f:aT} (h:nZ f):IJ f:=by
 refine ⟨h.glyphs,h.lookups,fun l hl=>⟨h.few l hl,fun r hr=>(h.rule l hl r hr).b⟩,fun l hl r hr=>?_⟩
 have hb:=h.rule l hl r hr
 have hg:=h.glyphs.2
 exact ⟨⟨by have:=hb.b.long;omega,fun s hs=>by have:=eW (iT (hb.b.in_ s hs).1) (hb.b.in_ s hs).2;omega⟩,hb.out,hb.calls⟩
theorem nZ.eng {f:aT} (h:nZ f) {E:qV} (hE:KD f E):pZ E:=⟨hE.auto,fun e he r hr hin=>by
 have hl:e.l∈f.Lookups:=by rw [←hE.ls];exact List.mem_map.2 ⟨e,he,rfl⟩
 have hb:=h.rule e.l hl r hr
 exact ⟨hin,hb.out,hb.calls,hb.at_⟩⟩
theorem Kb {f:aT} (h:nZ f) (hr:(iN f).1=0) (ha:iW f.Glyphs.length (prt f)):AC Tryz.prog 15 [ca f] [] fun c _=>∃E,pZ E∧E.ls=f.Lookups∧E.ms=f.Glyphs.map bj.Mark∧c= .tup [.iptr (eZ E),aK 0]:=
 AC.mono (FQ f h.new (Ce hr ha)) fun c L ⟨E,hE,hc⟩=>⟨E,h.eng hE,hE.ls,hE.ms,hc⟩
theorem Ke {ls:List aY} (h:ls.all (Az 5)=true) (hl:ls.length≤1000000):nZ (gr ls):=by
 rw [List.all_eq_true] at h
 have hh:∀l∈ls,l.Rules.length≤6∧∀r∈l.Rules,DF 5 r:=fun l hl=>by
  have:=h l hl
  unfold Az at this
  simp only [Bool.and_eq_true,decide_eq_true_eq,List.all_eq_true] at this
  exact ⟨this.1,fun r hr=>Gb (this.2 r hr)⟩
 exact ⟨⟨Nat.succ_pos _,by show (5:Nat)≤65536;omega⟩,hl,fun l hl=>(hh l hl).1,fun l hl=>(hh l hl).2⟩
theorem CO {ls:List aY} (h:ls.all (Az 5)=true) (hl:ls.length≤1000000) (hr:(iN (gr ls)).1=0):AC Tryz.prog 15 [ca (gr ls)] [] fun c _=>∃E,pZ E∧E.ls=ls∧E.ms=nP∧c= .tup [.iptr (eZ E),aK 0]:=
 AC.mono (Kb (Ke h hl) hr (sw ls)) fun c L ⟨E,h1,h2,h3,h4⟩=>⟨E,h1,h2,h3,h4⟩
theorem CN (ls:List aY):bV Tryz.prog 28 [.imm 3 (ls.map br)] (ca (gr ls)):=by
 refine aV Tryz.func28 rfl Tryz.ntmps28 rfl fun B=>?_
 repeat' (first|refine Ng ?_|refine NG a5 IG ?_|(apply aI;first|refine NH a5 0 NE ?_|refine NH a5 1 NE ?_|refine NH a5 2 NE ?_|refine NH a5 3 NE ?_|fail)|refine bn a5 fun _=>?_|refine bM a5 ?_|fail)
 refine bf (bL 0 (cs':=cn (gr ls)) rfl fun σ vs h=>mF.vrs ?_ h) (A8 a5 0 rfl rfl rfl rfl rfl rfl)
 repeat' first | exact d7.refl _ | exact d7.nil _ | exact True.intro | refine d7.agg ?_ | refine d7.imm ?_ | refine And.intro ?_ ?_
def Fb (ls:List aY):Bool:=ls.all (Az 5) && (decide (ls.length≤1000000) && Fs ls)
theorem Fc {ls:List aY} (h:Fb ls=true):AC Tryz.prog 15 [ca (gr ls)] [] fun c _=>∃E,pZ E∧J8 (.iptr (eZ E)) (gj nP ls)∧c= .tup [.iptr (eZ E),aK 0]:=by
 unfold Fb Fs at h
 simp only [Bool.and_eq_true,decide_eq_true_eq] at h
 refine AC.mono (CO h.1 h.2.1 (x9 h.2.2)) fun c L ⟨E,h1,h2,h3,h4⟩=>⟨E,h1,?_,h4⟩
 have:=M7 h1
 rwa [h2,h3] at this
theorem Dd:Fb Gp=true:=by decide+kernel
theorem De:decide ((zw (gj nP Gp) [0,1] [] (gn [0,1,0])).map bc.Glyph=[3,0])=true:=by decide+kernel
theorem Gq:AC Tryz.prog 13 [] [eu] fun c L=>c=dy true∧L=[eu]:=by
 refine aV Tryz.func13 rfl Tryz.ntmps13 rfl fun B=>?_
 refine W0g ?_
 refine b7 [] _ (AC.args (CN Gp) ?_) rfl rfl (Nn _) rfl fun c L1 hc=>?_
 ·repeat' first | exact d7.refl _ | exact d7.nil _ | exact True.intro | refine d7.agg ?_ | refine d7.imm ?_ | refine And.intro ?_ ?_
 subst hc
 refine aL (bF (List.sublist_append_right ..)) ?_
 repeat' (first|refine Ng ?_|refine NG a5 IG ?_|(apply aI;first|refine NI 1 a5 0 NF ?_|refine NI 1 a5 1 NF ?_|refine NI 1 a5 2 NF ?_|refine NH a5 0 NE ?_|refine NH a5 1 NE ?_|refine NH a5 2 NE ?_|refine NH a5 3 NE ?_|fail)|refine bn a5 fun _=>?_|fail)
 refine b7 [] _ (Fc Dd) rfl rfl (Nn _) rfl fun c L1 hc=>?_
 obtain ⟨E,hE,hA,rfl⟩:=hc
 refine aL (bF (List.sublist_append_right ..)) ?_
 refine W0I ?_
 refine cu [2] False rfl (fun Q' K=>?_) (fun hC=>hC.elim) (fun _=>?_)
 ·refine v7 Tryz.underlying34 rfl rfl rfl rfl ?_
  refine W01 ?_
  exact K _ _ rfl rfl (by simp)
 refine W0g ?_
 refine b7 [] _ (Cp [0,1,0] (by decide)) rfl rfl (Nn _) rfl fun c L1 hc=>?_
 subst hc
 refine aL (bF (List.sublist_append_right ..)) ?_
 refine b7 [eu] [] (AC.args (Ic (eZ E) hA [0,1] [] (gn [0,1,0]) (by decide)) (a:=[.iptr (eZ E),.imm 1 (aW [0,1]),.sc (.slice none 0 0),.imm 6 ((gn [0,1,0]).map cP)]) ⟨d7.refl _,d7.refl _,d7.nil 1,d7.refl _,trivial⟩) rfl rfl (Nn _) rfl fun c L1 ⟨hc,hL⟩=>?_
 subst hc;subst hL
 repeat' (first|refine bM a5 ?_|fail)
 refine b7 [] _ (yI _ [3,0] (by decide)) rfl rfl (Nn _) rfl fun c L1 hc=>?_
 subst hc
 rw [De]
 refine aL (bF (List.sublist_append_right ..)) ?_
 refine W01 ?_
 exact NM IG ⟨rfl,rfl⟩
set_option maxHeartbeats 4000000 in
theorem I3 (f:aT) (e:Int) (he:¬e=0) (hck:AC Tryz.prog 25 [ca f] [] fun c _=>∃n:Int,c=co (e,n)):bV Tryz.prog 15 [ca f] (.tup [.sc (.pointer none),aK e]):=by
 refine aV Tryz.func15 rfl Tryz.ntmps15 rfl fun B=>?_
 refine W08 ?_
 refine b7 [] _ hck rfl rfl (Nn _) rfl fun c1 L1 ⟨n0,hc1⟩=>?_
 subst hc1
 refine aL (bF (L':=[]) (List.nil_sublist _)) ?_
 unfold co
 refine W01 ?_
 refine aj rfl (fun h=>?_) (fun h=>absurd h (by simp [he]))
 refine W01 ?_
 exact NW NB
theorem CU {l:List Int} (h:jk l=true):jV l:=by
 have h:=Ny h
 have hs:∀d j,j+d+1 < l.length→l.getD j 0 < l.getD (j+d+1) 0:=by
  intro d
  induction d with
  | zero=>intro j hj;exact h j (by omega)
  | succ d ih=>
   intro j hj
   have h1:=ih j (by omega)
   have h2:=h (j+d+1) (by omega)
   rw [show j+(d+1)+1=j+d+1+1 by omega]
   omega
 unfold jV
 rw [List.pairwise_iff_getElem]
 intro i j hi hj hij
 have:=hs (j - i - 1) i (by omega)
 rw [show i+(j - i - 1)+1=j by omega] at this
 simpa [hi,hj] using this
theorem nR {f:aT} {q:List Int} (h:gm f q=true):jV q∧∀g∈q,0≤g∧g < (f.Glyphs.length:Int):=by
 refine ⟨?_,fun g hg=>?_⟩
 ·unfold gm at h
  rw [Bool.and_eq_true,Bool.and_eq_true] at h
  exact CU h.2.1
 ·obtain ⟨j,hj⟩:=List.mem_iff_getElem?.1 hg
  have:=((nJ.1 h).2 j g hj).1
  unfold gA at this
  exact Ny this
theorem zn {f:aT} (h:(iN f).1=0) {l:aY} (hl:l∈f.Lookups) {r:bk} (hr:r∈l.Rules):fJ f l.Kind r=0:=by
 obtain ⟨i,hi⟩:=List.mem_iff_getElem?.1 hl
 have h1:=dq.1 h (bT 40 f.Lookups (g7 f)) (by unfold tH;simp)
 have h2:g8 f l=0:=(d6.1 h1).2 i l hi
 exact ((yT f l).1 h2).2.2.2 r hr
theorem TS.fontN {f:aT} (hT:TS f) (h:(iN f).1=0):nZ f:=by
 have h1:=dq.1 h (bT 400 f.Glyphs (cX f)) (by unfold tH;simp)
 have h2:mi f=0:=dq.1 h (mi f,0) (by unfold tH;simp)
 have hg0:0 < f.Glyphs.length:=by
  unfold mi at h2
  split at h2
  ·cases h2
  ·split at h2
   ·cases h2
   ·omega
 have hg:=(d6.1 h1).1
 have hs:=hT.small
 refine ⟨⟨hg0,by omega⟩,by have:=hs.lookups;omega,hT.few,fun l hl r hr=>?_⟩
 have hR:=(Ge f l.Kind r).1 (zn h hl hr)
 obtain ⟨⟨h3,h4,h5⟩,_⟩:=(sF _ _).1 hR.1
 have hsets:=hR.2.1
 unfold i6 at hsets
 have hcalls:=hR.2.2.2.2.1
 refine ⟨⟨fun s hs=>nR (hsets s (List.mem_append.2 (.inl hs))),fun s hs=>nR (hsets s (List.mem_append.2 (.inr (List.mem_append.2 (.inl hs))))),fun s hs=>nR (hsets s (List.mem_append.2 (.inr (List.mem_append.2 (.inr hs))))),by omega,by omega⟩,by have:=hs.out hl hr;omega,by have:=hs.calls hl hr;omega,fun c hc=>?_⟩
 obtain ⟨j,hj⟩:=List.mem_iff_getElem?.1 hc
 unfold iu at hcalls
 split at hcalls
 ·cases hcalls
 split at hcalls
 ·cases hcalls
 have hc2:=fN.1 hcalls j c hj
 unfold nf at hc2
 split at hc2
 ·cases hc2
 ·omega
theorem nZ.lookFew {f:aT} (h:nZ f) {l:aY} (hl:l∈f.Lookups):jU l:=⟨h.few l hl,fun r hr=>⟨(h.rule l hl r hr).b.long.2,(h.rule l hl r hr).b.long.1⟩⟩
end Go.Proofs.YtpmdfoaadejmkaaGreatDoor
