/-
  An engine is made: the walk.
-/
import Derived.Test.YtpmdfoaadejmkaaGreatDoorM20
import Derived.Test.YtpmdfoaadejmkaaGreatDoorM14
import Derived.Test.YtpmdfoaadejmkaaGreatDoorM12
import Derived.Test.YtpmdfoaadejmkaaGreatDoorM18
import Derived.Test.YtpmdfoaadejmkaaGreatDoorM11
namespace Go.Proofs.YtpmdfoaadejmkaaGreatDoor
open Go.RowKit
attribute [local irreducible] AT br AX AO Av Kt b7 dm DA cA
structure C6 (f:aY):Prop where
 glyphs:0 < f.Glyphs.length∧f.Glyphs.length≤65536
 lookups:f.Lookups.length≤1000000
 look:∀l∈f.Lookups,uI f.Glyphs.length l
 rule:∀l∈f.Lookups,∀r∈l.Rules,C1 r
structure EX (f:aY) (E:n8):Prop where
 ls:E.lks.map (·.l)=f.Lookups
 ms:E.ms=f.Glyphs.map bi.Mark
 auto:∀e∈E.lks,1≤e.l.Kind→e.l.Kind≤6→ku e
def KF:Option gA→List AV
 | none=>[cE,cE,cE,cE,cE]
 | some a=>JR a
def H5:gA:=⟨[],[],[],[],[]⟩
def Jk (l:aO) (a:Option gA) (j:Nat):List AV:=[aI l.Kind,eo l.Ignore,.imm 6 ((iA l).Rules.map bV)]++KF a++[aI (f9 (l.Rules.take j)),aI (gj (l.Rules.take j))]
def Ba (l:aO) (a:gA) (j:Nat):List AV:=[aI l.Kind,eo l.Ignore,.imm 6 ((iA l).Rules.map bV),.imm 1 (aQ a.cls),.imm 1 (bj a.fore),.imm 1 (bj a.back),.imm 1 (ek a.foreE),.imm 1 (ek a.backE),aI (f9 (l.Rules.take j)),aI (gj (l.Rules.take j))]
theorem E9 (l:aO) (a:Option gA) (j:Nat):iS (Jk l a j) (Ba l (a.getD H5) j):=by
 cases a with
 | none=>exact ⟨c6.refl _,c6.refl _,c6.refl _,c6.nil 1,c6.nil 1,c6.nil 1,c6.nil 1,c6.nil 1,c6.refl _,c6.refl _,trivial⟩
 | some a=>exact ⟨c6.refl _,c6.refl _,c6.refl _,c6.refl _,c6.refl _,c6.refl _,c6.refl _,c6.refl _,c6.refl _,c6.refl _,trivial⟩
theorem Ea (l:aO) (a:gA):Ba l a l.Rules.length=fw (vy l a):=by
 unfold Ba
 rw [List.take_length]
 rfl
theorem qX {rs:List b8} {j:Nat} {r:b8} (h:rs[j]?=some r):f9 (rs.take (j+1))=max (f9 (rs.take j)) (r.In.length+r.Ahead.length)∧gj (rs.take (j+1))=max (gj (rs.take j)) r.Back.length:=by
 unfold f9 gj
 rw [List.take_add_one,h]
 constructor <;> simp
theorem vG {N:Nat} {rs:List b8} (h:∀r∈rs,uJ N r) (j:Nat):f9 (rs.take j)≤200∧gj (rs.take j)≤200:=⟨iZ (by omega) fun r hr=>(h r (List.mem_of_mem_take hr)).long.2,iZ (by omega) fun r hr=>(h r (List.mem_of_mem_take hr)).long.1⟩
theorem sF (l:List Bool) (b:Bool):jK l++[[eo b]]=jK (l++[b]):=by simp [jK]
set_option maxHeartbeats 16000000 in
theorem Ig (f:aY) (h:C6 f) (hck:AC Tryz.prog 25 [d7 f] [] fun c _=>∃n:Int,c=cu (0,n)):AC Tryz.prog 15 [d7 f] [] fun c _=>∃E,EX f E∧c= .tup [.iptr (eh E),aI 0]:=by
 refine aS Tryz.func15 rfl Tryz.ntmps15 rfl fun B=>?_
 have hgl:(f.Glyphs.map bI).length=f.Glyphs.length:=Lu ..
 have hll:(f.Lookups.map bJ).length=f.Lookups.length:=Lu ..
 obtain ⟨hN0,hN⟩:=h.glyphs
 have hL:=h.lookups
 refine W0b ?_
 refine b9 [] _ hck rfl rfl (Lm _) rfl fun c1 L1 ⟨n0,hc1⟩=>?_
 subst hc1
 refine aE (bP (List.sublist_append_right ..)) ?_
 unfold cu
 refine W1H ?_
 intros
 rename_i eb
 refine bM (bC 0 (cs':=[.vec none 10 [],.vec none 1 []]) rfl fun σ vs hh=>iS.vrs (a:=[cE,cE]) (b:=[.vec none 10 [],.vec none 1 []]) ⟨fun σ v h=>cC 10 h,fun σ v h=>cC 1 h,trivial⟩ hh) ?_
 refine aN [1,6,27,28] (α:=List om×Option (Nat×Nat)) (fun s=>[(29,aI s.1.length)]) (fun s=>s.1.length≤f.Lookups.length∧s.1.map (·.l)=f.Lookups.take s.1.length∧∀e∈s.1,1≤e.l.Kind→e.l.Kind≤6→ku e) (fun s=>(eb,.box [.vec s.2 10 (s.1.map fw),.vec none 1 []] 86)::tok s.2 97 10 s.1.length) (fun s=>f.Lookups.length - s.1.length) ([],none) rfl ⟨rfl,trivial⟩ ⟨Nat.zero_le _,rfl,fun e he=>by cases he⟩ (fun _ _ hh=>hh) ?_
 rintro ⟨es,q⟩ ⟨hk,hes,hau⟩
 dsimp only at hk hes hau ⊢
 try dsimp only [Lr,Lq,Lp,Li]
 refine W01 ?_
 refine ar rfl (fun h1=>?_) (fun h1=>?_)
 ·have hk2:es.length < f.Lookups.length:=by have:=Lz h1;omega
  obtain ⟨l,hl⟩:∃z,f.Lookups[es.length]?=some z:=⟨_,Iy hk2⟩
  have hlg:(f.Lookups.map bJ)[es.length]?=some (bJ l):=by simp [hl]
  have hlm:=Lw hl
  have hbl:=h.look l hlm
  have hfew:=hbl.few
  haveI:=AD.mk (vq l (by omega) (h.rule l hlm))
  have hbu:=CH f es.length l hl hbl hN0 hN
  have hrl:(l.Rules.map bV).length=l.Rules.length:=Lu ..
  clear h1
  repeat' (first|refine a9 ?_|refine a4 ?_|refine ai ?_|refine aj ?_|refine a6 ?_|refine a7 ?_|refine LG a5 KZ ?_|(apply aL;first|refine aJ a5 ?_|refine aF a5 ?_)|(apply aM;first|refine LI 8 a5 0 LF ?_|refine LI 8 a5 1 LF ?_|refine LI 8 a5 2 LF ?_|refine LI 10 a5 0 LF ?_|refine LI 10 a5 1 LF ?_|refine LI 10 a5 2 LF ?_|refine LI 13 a5 0 LF ?_|refine LI 13 a5 1 LF ?_|refine LI 13 a5 2 LF ?_|refine LI 15 a5 0 LF ?_|refine LI 15 a5 1 LF ?_|refine LI 15 a5 2 LF ?_|refine LH a5 0 LE ?_|refine LH a5 1 LE ?_|refine LH a5 2 LE ?_|refine LH a5 3 LE ?_|fail)|refine bf a5 fun _=>?_|(apply bw;refine bn ?_)|fail)
  rename_i ob
  refine yB (α:=Option gA) [1,6,8,9,27,28,29] (fun _=>[(1,.iptr (cG f)),(6,eO eb),(8,.iptr (bJ l)),(9,eO ob),(27,.imm 3 (f.Lookups.map bJ)),(28,.sc (.int .i64 ((f.Lookups.map bJ).length:Int))),(29,aI es.length)]) (fun a=>(ob,.box (Jk l a 0) 97)::(eb,.box [.vec q 10 (es.map fw),.vec none 1 []] 86)::tok q 97 10 es.length) (fun a=>1≤l.Kind→l.Kind≤6→∃a',a=some a'∧qk f.Glyphs.length l.Rules a') (fun Q' K=>?_) (fun a ha=>?_)
  ·refine ar rfl (fun h1=>?_) (fun h1=>?_)
   ·refine W0k ?_
    refine b9 [] _ hbu rfl rfl (Lm _) rfl fun c1 L1 ⟨a,ha,hc1⟩=>?_
    subst hc1
    refine aE (bP (List.sublist_append_right ..)) ?_
    refine W0F ?_
    intros
    exact K (some a) _ (fun _ _=>⟨a,rfl,ha⟩) rfl
   ·repeat' (first|refine aj ?_)
    exact K none _ (fun h1' h6=>absurd (Ly h1) (fun hn=>hn ⟨h1',h6⟩)) rfl
  ·have hA:1≤l.Kind→l.Kind≤6→qk f.Glyphs.length l.Rules (a.getD H5):=fun h1 h6=>by
    obtain ⟨a',rfl,hb⟩:=ha h1 h6
    exact hb
   refine bM (bC 0 (cs':=Ba l (a.getD H5) 0) rfl fun σ vs hh=>(E9 l a 0).vrs hh) ?_
   generalize a.getD H5=A at hA
   clear ha
   refine W04 ?_
   refine aN [1,6,9,27,28,29,52,53] (α:=Nat) (fun j=>[(54,aI j)]) (fun j=>j≤l.Rules.length) (fun j=>(ob,.box (Ba l A j) 97)::(eb,.box [.vec q 10 (es.map fw),.vec none 1 []] 86)::tok q 97 10 es.length) (fun j=>l.Rules.length - j) 0 rfl ⟨rfl,trivial⟩ (Nat.zero_le _) (fun _ _ hh=>hh) fun j hj=>?_
   try dsimp only [Lr,Lq,Lp,Li]
   refine W01 ?_
   refine ar rfl (fun h1=>?_) (fun h1=>?_)
   ·have hj2:j < l.Rules.length:=by have:=Lz h1;omega
    obtain ⟨r,hr⟩:∃z,l.Rules[j]?=some z:=⟨_,Iy hj2⟩
    have hrg:(l.Rules.map bV)[j]?=some (bV r):=by simp [hr]
    have hlong:=(hbl.rule r (Lw hr)).long
    have hl1:=bZ r.In
    have hl2:=bZ r.Ahead
    have hl3:=bZ r.Back
    obtain ⟨hfb,hbb⟩:=vG hbl.rule j
    obtain ⟨hfs,hbs⟩:=qX hr
    clear h1
    refine W0n ?_
    intros
    refine aC (j+1) rfl ⟨by rw [Lv];rfl,trivial⟩ hj2 (by omega) (fun _ _ hh=>?_)
    have e1:((max (f9 (l.Rules.take j)) (r.In.length+r.Ahead.length):Nat):Int)=max ((f9 (l.Rules.take j):Nat):Int) (((bj r.In).length:Int)+((bj r.Ahead).length:Int)):=by omega
    have e2:((max (gj (l.Rules.take j)) r.Back.length:Nat):Int)=max ((gj (l.Rules.take j):Nat):Int) ((bj r.Back).length:Int):=by omega
    unfold Ba
    rw [hfs,hbs,e1,e2]
    exact hh
   ·have hj2:j=l.Rules.length:=by have:=Ly h1;omega
    subst hj2
    rw [Ea]
    clear h1
    have hel:(es.map fw).length=es.length:=Lu ..
    have hsn:es.map fw++[fw (vy l A)]=(es++[vy l A]).map fw:=by rw [List.map_append];rfl
    refine W21 ?_
    refine bz 8 [(0,.v),(1,.v),(2,.v),(3,.v),(4,.l),(5,.l),(6,.v),(7,.e)] none ?_ trivial rfl (by kernel_rfl) (by kernel_rfl) (by kernel_rfl) bX (by kernel_rfl) rfl
    refine W1D ?_
    refine eS a5 [(ob,.box (fw (vy l A)) 97),(eb,.box [.vec q 10 (es.map fw),.vec none 1 []] 86)] rfl rfl rfl rfl (by rw [hel];exact List.perm_append_comm (l₁:=[_,_])) (by rw [hel];simp;omega) (by rw [hel];simp;omega) trivial fun q'=>?_
    repeat' (first|fail)
    refine LQ [1,6,27,28,29,77,84] KZ ?_
    refine aE (aH (L':=(ob,.box (fw (vy l A)) 97)::(eb,.box [.vec q 10 (es.map fw),.vec none 1 []] 86)::tok q' 97 10 (es.map fw++[fw (vy l A)]).length) (List.perm_append_comm (l₂:=[_,_]))) ?_
    refine W0i ?_
    have hll2:(es++[vy l A]).length=es.length+1:=by simp
    refine aC (es++[vy l A],q') rfl ⟨by dsimp only;rw [hll2,Lv];rfl,trivial⟩ ⟨by dsimp only;omega,?_,?_⟩ (by dsimp only;omega) (fun σ w hh=>?_)
    ·dsimp only
     rw [List.map_append,hes,hll2,List.take_add_one,hl]
     rfl
    ·intro e he h1 h6
     rw [List.mem_append,List.mem_singleton] at he
     rcases he with he | rfl
     ·exact hau e he h1 h6
     ·exact yC hbl (hA h1 h6)
    ·have h2:=hh.sublist (List.sublist_cons_self ..)
     rw [hsn,Lu] at h2
     dsimp only
     rw [←hsn]
     exact h2
 ·have hk2:es.length=f.Lookups.length:=by have:=Ly h1;omega
  rw [hk2,List.take_length] at hes
  clear h1
  refine W0w ?_
  refine aN [6,89,90] (α:=Nat×Option (Nat×Nat)) (fun s=>[(91,aI s.1)]) (fun s=>s.1≤f.Glyphs.length) (fun s=>(eb,.box [.vec q 10 (es.map fw),.vec s.2 1 (jK ((f.Glyphs.map bi.Mark).take s.1))] 86)::(tok q 97 10 es.length++tok s.2 4 1 s.1)) (fun s=>f.Glyphs.length - s.1) (0,none) rfl ⟨rfl,trivial⟩ (Nat.zero_le _) (fun σ w hh=>by show cL B σ ((eb,.box [.vec q 10 (es.map fw),.vec none 1 []] 86)::(tok q 97 10 es.length++[])) w;rw [List.append_nil];exact hh) ?_
  rintro ⟨k,q2⟩ hk3
  dsimp only at hk3 ⊢
  try dsimp only [Lr,Lq,Lp,Li]
  refine W01 ?_
  refine ar rfl (fun h1=>?_) (fun h1=>?_)
  ·have hk4:k < f.Glyphs.length:=by have:=Lz h1;omega
   obtain ⟨g,hg⟩:∃z,f.Glyphs[k]?=some z:=⟨_,Iy hk4⟩
   have hgg:(f.Glyphs.map bI)[k]?=some (bI g):=by simp [hg]
   have hbl:(jK ((f.Glyphs.map bi.Mark).take k)).length=k:=by rw [qF,List.length_take,Lu];omega
   have hbs:(f.Glyphs.map bi.Mark).take (k+1)=(f.Glyphs.map bi.Mark).take k++[g.Mark]:=by rw [List.take_add_one,List.getElem?_map,hg];rfl
   have hsn:=sF ((f.Glyphs.map bi.Mark).take k) g.Mark
   rw [←hbs] at hsn
   generalize jK ((f.Glyphs.map bi.Mark).take k)=bl at *
   clear h1
   refine W0m ?_
   intros
   refine bz 9 [(0,.v),(1,.v),(2,.v),(3,.v),(4,.l),(5,.v),(6,.v),(7,.v),(8,.e)] none ?_ trivial rfl (by kernel_rfl) (by kernel_rfl) (by kernel_rfl) bX (by kernel_rfl) rfl
   refine W1C ?_
   refine eS a5 ((eb,.box [.vec q 10 (es.map fw),.vec q2 1 bl] 86)::tok q 97 10 es.length) rfl rfl rfl rfl (by rw [hbl];exact (List.perm_append_comm (l₁:=_::tok q 97 10 es.length))) (by rw [hbl];simp;omega) (by rw [hbl];simp;omega) trivial fun q'=>?_
   repeat' (first|fail)
   refine LQ [6,89,90,91,95,103] KZ ?_
   refine aE (aH (L':=(eb,.box [.vec q 10 (es.map fw),.vec q2 1 bl] 86)::(tok q 97 10 es.length++tok q' 4 1 (k+1))) (by rw [List.length_append,hbl];exact (List.perm_append_comm (l₂:=_::tok q 97 10 es.length)))) ?_
   refine W0i ?_
   exact aC (k+1,q') rfl ⟨by rw [Lv];rfl,trivial⟩ hk4 (by dsimp only;omega) (fun _ _ hh=>by dsimp only;rw [←hsn];exact hh)
  ·have hk4:k=f.Glyphs.length:=by have:=Ly h1;omega
   subst hk4
   rw [List.take_of_length_le (by rw [Lu];exact Nat.le_refl _)]
   clear h1
   refine W02 ?_
   refine bc (bC 0 (cs':=eh ⟨es,f.Glyphs.map bi.Mark⟩) rfl fun σ vs hh=>iS.vrs (a:=[.vec q 10 (es.map fw),.vec q2 1 (jK (f.Glyphs.map bi.Mark))]) (b:=eh ⟨es,f.Glyphs.map bi.Mark⟩) ⟨fun σ v h=>VR.im h,fun σ v h=>VR.im h,trivial⟩ hh) ?_
   refine bc (s3 (t:=2) (cs:=eh ⟨es,f.Glyphs.map bi.Mark⟩) 0 rfl rfl rfl) ?_
   refine dc (List.nil_sublist _) ?_
   exact LT LA ⟨⟨es,f.Glyphs.map bi.Mark⟩,⟨hes,rfl,hau⟩,rfl⟩
def fM:Nat→List Int→List aR
 | _,[]=>[]
 | i,g::l=>⟨g,i,0,0,0,0⟩::fM (i+1) l
def fk (l:List Int):List aR:=fM 0 l
def kW:List Bool:=[false,false,false,false,true]
def Ja (ig:Bool):List aO:=[⟨3,ig,[⟨[],[[0],[1]],[],[2],[],0⟩]⟩]
def ua (a b c:Nat):List Int:=List.replicate a 4++0::(List.replicate b 4++1::List.replicate c 4)
def vX (a b c:Nat) (ig:Bool):List Int:=if 0 < b∧ig=false then ua a b c else List.replicate a 4++2::(List.replicate b 4++List.replicate c 4)
def DI (a b c:Nat) (ig:Bool):Bool:=
 let out:=dh kW (Ja ig) 0 (fk (ua a b c)) []
 (out.map aR.Glyph==vX a b c ig) && (decide ((vX a b c ig).length=(ua a b c).length) || (match out[a]? with | some x=>decide (x.Cluster=a) | none=>false))
def JD:Bool:=(List.range 8).all fun a=>(List.range 8).all fun b=>(List.range 8).all fun c=>DI a b c true && DI a b c false
def Jq:b8:=⟨[],[[0]],[[1]],[1],[],0⟩
def Gj:List aO:=[⟨5,false,[Jq]⟩,⟨1,false,[Jq]⟩]
def Eh (n:Nat):List Int:=List.replicate n 0++[1]
def Ir (n:Nat):List Int:=(List.range (n+1)).map fun (k:Nat)=>if (n:Int) - 1≤(k:Int) then (1:Int) else 0
def KP (n:Nat):Bool:=((dh kW Gj 0 (fk (Eh n)) []).map aR.Glyph==List.replicate (n+1) 1) && ((dh kW Gj 1 (fk (Eh n)) []).map aR.Glyph==Ir n)
def IY (k:Nat):List aO:=[⟨4,false,[⟨[],[[0]],[],[],[⟨0,1⟩,⟨0,2⟩,⟨0,0⟩],0⟩]⟩,⟨1,false,[⟨[],[[0]],[],[2],[],0⟩]⟩,⟨2,false,[⟨[],[[2]],[],List.replicate k 1,[],0⟩]⟩]
def Kl (n k:Nat):Bool:=
 let out:=dh kW (IY k) 0 (fk (List.replicate n 0)) []
 if k=0 then decide (out.length < n) else out.map aR.Glyph==List.replicate (n * k) 1
end Go.Proofs.YtpmdfoaadejmkaaGreatDoor
namespace Go.Proofs.YtpmdfoaadejmkaaGreatDoor
open Go.RowKit
attribute [local irreducible] AT br AX AO Av Kt b7 dm DA cA
open Go.MapKept
section
variable {P:Program} {r:Option Nat} {ops:Array Oper} {Q:Exit→Act→World→Prop} {nt:Nat} {D:List Deferred} {fr:bT} {B:Bs} {L:AL} {rest:List Oper} {d:Nat} {ty t:TypeId} {pos:String} {af:Array Edge} {x y z:Operand} {u:AV} {cd:Code}
theorem jV {f:FuncId} {args:Array Operand} {ts:Array TypeId} {cs caps:List AV} {v:AV} [bD P f] (hc:c5 P f (cs++caps) v) (hx:bh fr x=some u) (hu:lj u=some (f,caps)) (hv:dy fr args.toList=some cs) (hn:Oper.noDefer ⟨some d,.call ⟨.value x,args,ts⟩,ty,pos,af,none⟩=true) (hd:Nat.ble nt d=false) (h:br P r ops Q nt D rest ((d,v)::fr) B L):
  br P r ops Q nt D (⟨some d,.call ⟨.value x,args,ts⟩,ty,pos,af,none⟩::rest) fr B L:=
 dH [] L hc hx hu hv (Lm _) hn hd fun c L1 hc=>by
  have hc':c=v:=hc
  subst hc'
  exact aE (bP (List.sublist_append_right ..)) h
theorem Fg (t:Nat) {u:AV} {s:Nat} {l:List (List AV)} (hl:ca fr t=some u) (hu:j6 u=some (s,l)) (h:l.length≤9223372036854775807→br P r ops Q nt D rest fr B L):br P r ops Q nt D rest fr B L:=
 Ff (fun σ a w ha _=>(Dq (ha.look t u hl) hu).1) h
end
def vP (t:c9) (i:Nat) (l:Int):Bool:=match i with | 0=>false | j+1=>match t.Lookups[j]? with | some b=>decide (l≤b) | none=>false
def pY (f:aY) (t:c9) (i:Nat) (l:Int):Int:=er (decide (l < 0∨l≥f.Lookups.length) || vP t i l) 43
set_option maxHeartbeats 1000000 in
theorem Ap (f:aY) (t:c9) (i:Nat) (l:Int) (hl:t.Lookups[i]?=some l) (hn:t.Lookups.length≤9223372036854775807):c5 Tryz.prog 144 [aI i,aI l,.iptr (cG f),.iptr (cj t)] (aI (pY f t i l)):=by
 refine aS Tryz.func144 rfl Tryz.ntmps144 rfl fun B=>?_
 have hil:=(Ln hl).1
 unfold pY
 cases i with
 | zero=>
  refine W01 ?_
  refine dz (t:=7) [] (l < 0∨l≥f.Lookups.length) rfl (fun Q' K=>?_) ?_
  ·repeat' (first|refine a7 ?_|refine LG a5 KZ ?_|refine LO KZ ?_|refine LP LB ?_|refine dK rfl rfl rfl ?_|refine LR LA (fun _=>?_) (fun _=>?_))
   all_goals exact K _ _ rfl rfl (by clear K;simp_all <;> omega)
  refine W0l ?_
  refine LM KZ ?_
  simp [vP]
 | succ j=>
  obtain ⟨b,hb⟩:∃b,t.Lookups[j]?=some b:=⟨_,Iy (by omega)⟩
  have hbg:(aQ t.Lookups)[(((j+1:Nat):Int) - 1).toNat]?=some [aI b]:=by rw [show (((j+1:Nat):Int) - 1).toNat=j by omega];exact bW hb
  have hlt:vP t (j+1) l=decide (l≤b):=by simp [vP,hb]
  have hpos:decide (0 < ((j+1:Nat):Int))=true:=decide_eq_true (by omega)
  rw [hlt]
  refine W01 ?_
  refine dz (t:=7) [] ((l < 0∨l≥f.Lookups.length)∨l≤b) rfl (fun Q' K=>?_) ?_
  ·repeat' (first|refine a7 ?_|refine LG a5 KZ ?_|refine LO KZ ?_|refine LP LB ?_|refine dK rfl rfl rfl ?_|(apply aU;refine aT ?_)|(apply aL;first|refine aJ a5 ?_|refine aF a5 ?_)|refine LR LA (fun _=>?_) (fun _=>?_))
   all_goals exact K _ _ rfl rfl (by clear K;simp_all <;> omega)
  refine W0l ?_
  refine LM KZ ?_
  rw [Bool.decide_or]
def vA (f:aY) (t:c9) (name:Int):Int:=if name≠0 then name else (di t.Lookups (pY f t)).1
theorem vB (f:aY) (t:c9) (name:Int):c5 Tryz.prog 65 [d7 f,.agg (cj t),aI name] (aI (vA f t name)):=by
 refine aS Tryz.func65 rfl Tryz.ntmps65 rfl fun B=>?_
 unfold vA
 refine W0b ?_
 refine ar rfl (fun h=>?_) (fun h=>?_)
 ·rw [if_pos (Lz h)]
  refine W07 ?_
  exact LN LA
 rw [if_neg (Ly h)]
 refine W0e ?_
 refine Fg 14 rfl rfl fun hlen=>?_
 rw [aX] at hlen
 refine b9 [] [] (np (u:= .fn 144 [.iptr (cG f),.iptr (cj t)]) (g:=144) rfl t.Lookups _ (fun _ _=>True) [] trivial (du (fun i x hx=>Ap f t i x hx (by omega)))) rfl rfl (Lm _) rfl fun c L1 hc=>?_
 have hc:c=cu (di t.Lookups (pY f t)):=hc
 subst hc
 unfold cu
 refine W0u ?_
 exact LN LA
instance (f:aY) (t:c9) (name:Int):AD Tryz.prog 65 [d7 f,.agg (cj t),aI name] (aI (vA f t name)):=⟨vB f t name⟩
def dg (names:List ByteArray) (s:ByteArray):Option Nat:=names.findIdx? (fun x=>decide (x=s))
def cQ (names:List ByteArray) (v:Value):Option AV:=match v with
 | .string s=>(dg names s).map fun (n:Nat)=>aI (n:Int)
 | _=>none
theorem kM {names:List ByteArray} {i:Nat} {s:ByteArray} (h:names[i]?=some s) (q:ByteArray):dg (names.take (i+1)) q=match dg (names.take i) q with | some n=>some n | none=>if s=q then some i else none:=by
 unfold dg
 have hlt:=(Ln h).1
 have hlen:(names.take i).length=i:=by rw [List.length_take];omega
 rw [List.take_add_one,h,Option.toList_some,List.findIdx?_append,hlen]
 cases List.findIdx? (fun x=>decide (x=q)) (names.take i) with
 | some n=>rfl
 | none=>
  by_cases e:s=q
  ·simp [e]
  ·simp [e]
theorem mP:cQ []=fun _=>none:=by
 funext v
 cases v <;> rfl
theorem lH {names:List ByteArray} {s:ByteArray}:(cQ names (.string s)).isSome=(dg names s).isSome:=by
 show (Option.map (fun n:Nat=>aI (n:Int)) (dg names s)).isSome=_
 cases dg names s <;> rfl
theorem kN {names:List ByteArray} {i:Nat} {s:ByteArray} (h:names[i]?=some s) (hk:(dg (names.take i) s).isSome=true):cQ (names.take (i+1))=cQ (names.take i):=by
 funext v
 cases v with
 | string q=>
  simp only [cQ]
  rw [kM h]
  cases hq:dg (names.take i) q with
  | some n=>rfl
  | none=>
   by_cases e:s=q
   ·subst e;rw [hq] at hk;cases hk
   ·simp [e]
 | _=>rfl
theorem lG {names:List ByteArray} {i:Nat} {s:ByteArray} (h:names[i]?=some s) (hk:(dg (names.take i) s).isSome=false):cQ (names.take (i+1)) (.string s)=some (aI i):=by
 simp only [cQ]
 rw [kM h]
 cases hq:dg (names.take i) s with
 | some n=>rw [hq] at hk;cases hk
 | none=>simp
theorem kO {names:List ByteArray} {i:Nat} {s:ByteArray} (h:names[i]?=some s) (q:Value) (hne:q≠ .string s):cQ (names.take (i+1)) q=cQ (names.take i) q:=by
 cases q with
 | string q=>
  have hne':s≠q:=fun e=>hne (by rw [e])
  simp only [cQ]
  rw [kM h]
  cases hq:dg (names.take i) q with
  | some n=>rfl
  | none=>simp [hne']
 | _=>rfl
theorem rq (g:bi):c5 Tryz.prog 42 [.agg (bI g)] (wG g.Name):=by
 refine aS Tryz.func42 rfl Tryz.ntmps42 rfl fun B=>?_
 refine W0h ?_
 exact LN LA
theorem rr (g:c9):c5 Tryz.prog 44 [.agg (cj g)] (wG g.Name):=by
 refine aS Tryz.func44 rfl Tryz.ntmps44 rfl fun B=>?_
 refine W0h ?_
 exact LN LA
theorem rt (g:eR):c5 Tryz.prog 46 [.agg (cM g)] (wG g.Name):=by
 refine aS Tryz.func46 rfl Tryz.ntmps46 rfl fun B=>?_
 refine W0h ?_
 exact LN LA
set_option maxHeartbeats 1000000 in
theorem D7 (l:List bi):AC Tryz.prog 41 [.imm 9 (l.map bI),.sc (.func (.func 42) #[] #[])] [] fun c L=>∃m,c= .sc (.map (some m))∧L=[(m,cR .string (cQ (l.map bi.Name)))]:=by
 refine aS Tryz.func41 rfl Tryz.ntmps41 rfl fun B=>?_
 refine cW 0 rfl rfl fun hlen=>?_
 rw [Lu] at hlen
 refine W01 ?_
 refine eX .string fun m=>?_
 refine W04 ?_
 refine aN [1,5,11,12] (α:=Nat) (fun i=>[(13,aI i)]) (fun i=>i≤l.length) (fun i=>[(m,cR .string (cQ ((l.map bi.Name).take i)))]) (fun i=>l.length - i) 0 rfl ⟨rfl,trivial⟩ (Nat.zero_le _) (fun _ _ h=>by rw [List.take_zero,mP];exact h) fun i hi=>?_
 try dsimp only [Lr,Lq,Lp,Li]
 refine W01 ?_
 refine ar rfl (fun h=>?_) (fun h=>?_)
 ·have hil:i < l.length:=by have:=Lz h;simp at this;omega
  obtain ⟨z,hz⟩:∃z,l[i]?=some z:=⟨_,Iy hil⟩
  have hzg:=cO (c:=bI) hz
  have hzn:(l.map bi.Name)[i]?=some z.Name:=by rw [List.getElem?_map,hz];rfl
  refine W03 ?_
  intros
  refine jV (cs:=[.agg (bI z)]) (caps:=[]) (rq z) rfl rfl rfl rfl rfl ?_
  repeat' (first|fail)
  refine gn 0 (.int .i64 0) Tryz.underlying129 Tryz.underlying9 rfl rfl trivial rfl (by kernel_rfl) rfl ?_
  rw [lH]
  refine W01 ?_
  refine ar rfl (fun h2=>?_) (fun h2=>?_)
  ·have h2':(dg ((l.map bi.Name).take i) z.Name).isSome=false:=by simpa using h2
   refine W1f ?_
   refine jV (cs:=[.agg (bI z)]) (caps:=[]) (rq z) rfl rfl rfl rfl rfl ?_
   repeat' (first|refine LG a5 KZ ?_)
   refine dD 0 (cQ ((l.map bi.Name).take (i+1))) Tryz.underlying129 Tryz.underlying9 rfl rfl trivial rfl rfl (lG hzn h2') (kO hzn) ?_
   refine W05 ?_
   exact aC (i+1) rfl ⟨by rw [Lv];rfl,trivial⟩ (by omega) (by omega) (fun _ _ h=>h)
  ·have h2':(dg ((l.map bi.Name).take i) z.Name).isSome=true:=by simpa using h2
   refine W06 ?_
   exact aC (i+1) rfl ⟨by rw [Lv];rfl,trivial⟩ (by omega) (by omega) (fun _ _ h=>by rw [kN hzn h2'];exact h)
 ·have hil:i=l.length:=by have:=Ly h;simp at this;omega
  subst hil
  rw [List.take_of_length_le (by simp)]
  refine W02 ?_
  exact LM KZ ⟨_,rfl,rfl⟩
set_option maxHeartbeats 1000000 in
theorem D8 (l:List c9):AC Tryz.prog 43 [.imm 2 (l.map cj),.sc (.func (.func 44) #[] #[])] [] fun c L=>∃m,c= .sc (.map (some m))∧L=[(m,cR .string (cQ (l.map c9.Name)))]:=by
 refine aS Tryz.func43 rfl Tryz.ntmps43 rfl fun B=>?_
 refine cW 0 rfl rfl fun hlen=>?_
 rw [Lu] at hlen
 refine W01 ?_
 refine eX .string fun m=>?_
 refine W04 ?_
 refine aN [1,5,11,12] (α:=Nat) (fun i=>[(13,aI i)]) (fun i=>i≤l.length) (fun i=>[(m,cR .string (cQ ((l.map c9.Name).take i)))]) (fun i=>l.length - i) 0 rfl ⟨rfl,trivial⟩ (Nat.zero_le _) (fun _ _ h=>by rw [List.take_zero,mP];exact h) fun i hi=>?_
 try dsimp only [Lr,Lq,Lp,Li]
 refine W01 ?_
 refine ar rfl (fun h=>?_) (fun h=>?_)
 ·have hil:i < l.length:=by have:=Lz h;simp at this;omega
  obtain ⟨z,hz⟩:∃z,l[i]?=some z:=⟨_,Iy hil⟩
  have hzg:=cO (c:=cj) hz
  have hzn:(l.map c9.Name)[i]?=some z.Name:=by rw [List.getElem?_map,hz];rfl
  refine W03 ?_
  intros
  refine jV (cs:=[.agg (cj z)]) (caps:=[]) (rr z) rfl rfl rfl rfl rfl ?_
  repeat' (first|fail)
  refine gn 0 (.int .i64 0) Tryz.underlying129 Tryz.underlying9 rfl rfl trivial rfl (by kernel_rfl) rfl ?_
  rw [lH]
  refine W01 ?_
  refine ar rfl (fun h2=>?_) (fun h2=>?_)
  ·have h2':(dg ((l.map c9.Name).take i) z.Name).isSome=false:=by simpa using h2
   refine W1f ?_
   refine jV (cs:=[.agg (cj z)]) (caps:=[]) (rr z) rfl rfl rfl rfl rfl ?_
   repeat' (first|refine LG a5 KZ ?_)
   refine dD 0 (cQ ((l.map c9.Name).take (i+1))) Tryz.underlying129 Tryz.underlying9 rfl rfl trivial rfl rfl (lG hzn h2') (kO hzn) ?_
   refine W05 ?_
   exact aC (i+1) rfl ⟨by rw [Lv];rfl,trivial⟩ (by omega) (by omega) (fun _ _ h=>h)
  ·have h2':(dg ((l.map c9.Name).take i) z.Name).isSome=true:=by simpa using h2
   refine W06 ?_
   exact aC (i+1) rfl ⟨by rw [Lv];rfl,trivial⟩ (by omega) (by omega) (fun _ _ h=>by rw [kN hzn h2'];exact h)
 ·have hil:i=l.length:=by have:=Ly h;simp at this;omega
  subst hil
  rw [List.take_of_length_le (by simp)]
  refine W02 ?_
  exact LM KZ ⟨_,rfl,rfl⟩
set_option maxHeartbeats 1000000 in
theorem D9 (l:List eR):AC Tryz.prog 45 [.imm 4 (l.map cM),.sc (.func (.func 46) #[] #[])] [] fun c L=>∃m,c= .sc (.map (some m))∧L=[(m,cR .string (cQ (l.map eR.Name)))]:=by
 refine aS Tryz.func45 rfl Tryz.ntmps45 rfl fun B=>?_
 refine cW 0 rfl rfl fun hlen=>?_
 rw [Lu] at hlen
 refine W01 ?_
 refine eX .string fun m=>?_
 refine W04 ?_
 refine aN [1,5,11,12] (α:=Nat) (fun i=>[(13,aI i)]) (fun i=>i≤l.length) (fun i=>[(m,cR .string (cQ ((l.map eR.Name).take i)))]) (fun i=>l.length - i) 0 rfl ⟨rfl,trivial⟩ (Nat.zero_le _) (fun _ _ h=>by rw [List.take_zero,mP];exact h) fun i hi=>?_
 try dsimp only [Lr,Lq,Lp,Li]
 refine W01 ?_
 refine ar rfl (fun h=>?_) (fun h=>?_)
 ·have hil:i < l.length:=by have:=Lz h;simp at this;omega
  obtain ⟨z,hz⟩:∃z,l[i]?=some z:=⟨_,Iy hil⟩
  have hzg:=cO (c:=cM) hz
  have hzn:(l.map eR.Name)[i]?=some z.Name:=by rw [List.getElem?_map,hz];rfl
  refine W03 ?_
  intros
  refine jV (cs:=[.agg (cM z)]) (caps:=[]) (rt z) rfl rfl rfl rfl rfl ?_
  repeat' (first|fail)
  refine gn 0 (.int .i64 0) Tryz.underlying129 Tryz.underlying9 rfl rfl trivial rfl (by kernel_rfl) rfl ?_
  rw [lH]
  refine W01 ?_
  refine ar rfl (fun h2=>?_) (fun h2=>?_)
  ·have h2':(dg ((l.map eR.Name).take i) z.Name).isSome=false:=by simpa using h2
   refine W1f ?_
   refine jV (cs:=[.agg (cM z)]) (caps:=[]) (rt z) rfl rfl rfl rfl rfl ?_
   repeat' (first|refine LG a5 KZ ?_)
   refine dD 0 (cQ ((l.map eR.Name).take (i+1))) Tryz.underlying129 Tryz.underlying9 rfl rfl trivial rfl rfl (lG hzn h2') (kO hzn) ?_
   refine W05 ?_
   exact aC (i+1) rfl ⟨by rw [Lv];rfl,trivial⟩ (by omega) (by omega) (fun _ _ h=>h)
  ·have h2':(dg ((l.map eR.Name).take i) z.Name).isSome=true:=by simpa using h2
   refine W06 ?_
   exact aC (i+1) rfl ⟨by rw [Lv];rfl,trivial⟩ (by omega) (by omega) (fun _ _ h=>by rw [kN hzn h2'];exact h)
 ·have hil:i=l.length:=by have:=Ly h;simp at this;omega
  subst hil
  rw [List.take_of_length_le (by simp)]
  refine W02 ?_
  exact LM KZ ⟨_,rfl,rfl⟩
end Go.Proofs.YtpmdfoaadejmkaaGreatDoor
namespace Go.Proofs.YtpmdfoaadejmkaaGreatDoor
open Go.RowKit
attribute [local irreducible] AT br AX AO Av Kt b7 dm DA cA
theorem lF (names:List ByteArray) (s:ByteArray):(cQ names (.string s)).getD (.sc (.int .i64 0))=aI ((dg names s).getD 0:Nat):=by
 show (Option.map (fun n:Nat=>aI (n:Int)) (dg names s)).getD (.sc (.int .i64 0))=_
 cases dg names s <;> rfl
def l8 (names:List ByteArray) (i:Nat) (s:ByteArray):Bool:=decide ((((dg names s).getD 0:Nat):Int) < (i:Int))
def kQ (f:aY):List ByteArray:=f.Glyphs.map bi.Name
def lX (f:aY):List ByteArray:=f.Features.map c9.Name
def iT (f:aY):List ByteArray:=f.Axes.map eR.Name
def eB (f:aY) (i:Nat) (g:bi):Int:=oK f g (lE (gG g.Name) (l8 (kQ f) i g.Name))
def kK (f:aY) (i:Nat) (t:c9):Int:=vA f t (lE (fC t.Name) (l8 (lX f) i t.Name))
def kA (f:aY) (i:Nat) (a:eR):Int:=vh a (lE (gG a.Name) (l8 (iT f) i a.Name))
set_option maxHeartbeats 1000000 in
theorem xr (f:aY) (i:Nat) (g:bi) (m:Nat):AC Tryz.prog 51 [aI i,.agg (bI g),.iptr (cG f),.iptr [.sc (.map (some m))]] [(m,cR .string (cQ (kQ f)))] fun c L=>c=aI (eB f i g)∧L=[(m,cR .string (cQ (kQ f)))]:=by
 refine aS Tryz.func51 rfl Tryz.ntmps51 rfl fun B=>?_
 refine W0b ?_
 refine bz 12 [(0,.v),(1,.v),(2,.v),(3,.v),(4,.v),(5,.v),(6,.v),(7,.v),(9,.v),(8,.e),(10,.v),(11,.v)] none ?_ trivial rfl (by kernel_rfl) (by kernel_rfl) (by kernel_rfl) bX (by kernel_rfl) rfl
 refine W0W ?_
 refine qO 0 (.int .i64 0) Tryz.underlying129 Tryz.underlying9 rfl rfl trivial rfl (by kernel_rfl) trivial ?_
 rw [lF]
 refine W0W ?_
 refine LQ [7,8,18] KZ ?_
 refine W1j ?_
 exact LM KZ ⟨rfl,rfl⟩
set_option maxHeartbeats 1000000 in
theorem Aq (f:aY) (i:Nat) (t:c9) (m:Nat):AC Tryz.prog 64 [aI i,.agg (cj t),.iptr (cG f),.iptr [.sc (.map (some m))]] [(m,cR .string (cQ (lX f)))] fun c L=>c=aI (kK f i t)∧L=[(m,cR .string (cQ (lX f)))]:=by
 refine aS Tryz.func64 rfl Tryz.ntmps64 rfl fun B=>?_
 refine W0b ?_
 refine bz 12 [(0,.v),(1,.v),(2,.v),(3,.v),(4,.v),(5,.v),(6,.v),(7,.v),(9,.v),(8,.e),(10,.v),(11,.v)] none ?_ trivial rfl (by kernel_rfl) (by kernel_rfl) (by kernel_rfl) bX (by kernel_rfl) rfl
 refine W0W ?_
 refine qO 0 (.int .i64 0) Tryz.underlying129 Tryz.underlying9 rfl rfl trivial rfl (by kernel_rfl) trivial ?_
 rw [lF]
 refine W0W ?_
 refine LQ [7,8,18] KZ ?_
 refine W1j ?_
 exact LM KZ ⟨rfl,rfl⟩
set_option maxHeartbeats 1000000 in
theorem zU (f:aY) (i:Nat) (a:eR) (m:Nat):AC Tryz.prog 68 [aI i,.agg (cM a),.iptr [.sc (.map (some m))]] [(m,cR .string (cQ (iT f)))] fun c L=>c=aI (kA f i a)∧L=[(m,cR .string (cQ (iT f)))]:=by
 refine aS Tryz.func68 rfl Tryz.ntmps68 rfl fun B=>?_
 refine W0b ?_
 refine bz 11 [(0,.v),(1,.v),(2,.v),(3,.v),(4,.v),(5,.v),(6,.v),(8,.v),(7,.e),(9,.v),(10,.v)] none ?_ trivial rfl (by kernel_rfl) (by kernel_rfl) (by kernel_rfl) bX (by kernel_rfl) rfl
 refine W0W ?_
 refine qO 0 (.int .i64 0) Tryz.underlying129 Tryz.underlying9 rfl rfl trivial rfl (by kernel_rfl) trivial ?_
 rw [lF]
 refine W0W ?_
 refine LQ [6,16] KZ ?_
 refine W1j ?_
 exact LM KZ ⟨rfl,rfl⟩
end Go.Proofs.YtpmdfoaadejmkaaGreatDoor
