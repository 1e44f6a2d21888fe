/-
  What is shown at the head of all laws.
-/
import Derived.Test.YtpmdfoaadejmkaaGreatDoorM25
import Derived.Test.YtpmdfoaadejmkaaGreatDoorM05
import Derived.Test.YtpmdfoaadejmkaaGreatDoorM12
import Derived.Test.YtpmdfoaadejmkaaGreatDoorM23
namespace Go.Proofs.YtpmdfoaadejmkaaGreatDoor
open Go.RowKit
attribute [local irreducible] AT br AX AO Av Kt b7 dm DA cA
def Dk (ls:List aO):Bool:=ls.all (z4 5) && (decide (ls.length≤1000000) && DC ls)
theorem Dl {ls:List aO} (h:Dk ls=true):AC Tryz.prog 15 [d7 (fV ls)] [] fun c _=>∃E,mx E∧Hf (.iptr (eh E)) (dh kW ls)∧c= .tup [.iptr (eh E),aI 0]:=by
 unfold Dk DC at h
 simp only [Bool.and_eq_true,decide_eq_true_eq] at h
 refine AC.mono (Bg h.1 h.2.1 (wd h.2.2)) fun c L ⟨E,h1,h2,h3,h4⟩=>⟨E,h1,?_,h4⟩
 have:=JO h1
 rwa [h2,h3] at this
theorem By:Dk Ew=true:=by decide+kernel
theorem Bz:decide ((y5 (dh kW Ew) [0,1] [] (fk [0,1,0])).map aR.Glyph=[3,0])=true:=by decide+kernel
theorem Ex:AC Tryz.prog 13 [] [ct] fun c L=>c=eo true∧L=[ct]:=by
 refine aS Tryz.func13 rfl Tryz.ntmps13 rfl fun B=>?_
 refine W1G ?_
 refine b9 [] _ (AC.args (Be Ew) ?_) rfl rfl (Lm _) rfl fun c L1 hc=>?_
 ·repeat' first | exact c6.refl _ | exact c6.nil _ | exact True.intro | refine c6.agg ?_ | refine c6.imm ?_ | refine And.intro ?_ ?_
 subst hc
 refine aE (bP (List.sublist_append_right ..)) ?_
 repeat' (first|refine a9 ?_|refine a4 ?_|refine a6 ?_|refine a7 ?_|refine LG a5 KZ ?_|(apply aM;first|refine LI 1 a5 0 LF ?_|refine LI 1 a5 1 LF ?_|refine LI 1 a5 2 LF ?_|refine LH a5 0 LE ?_|refine LH a5 1 LE ?_|refine LH a5 2 LE ?_|refine LH a5 3 LE ?_|fail)|refine bf a5 fun _=>?_|fail)
 refine b9 [] _ (Dl By) rfl rfl (Lm _) rfl fun c L1 hc=>?_
 obtain ⟨E,hE,hA,rfl⟩:=hc
 refine aE (bP (List.sublist_append_right ..)) ?_
 refine W2a ?_
 refine ce [2] False rfl (fun Q' K=>?_) (fun hC=>hC.elim) (fun _=>?_)
 ·repeat' (first|fail)
  refine oQ Tryz.underlying34 rfl rfl rfl rfl ?_
  repeat' (first|refine a7 ?_|refine LG a5 KZ ?_)
  exact K _ _ rfl rfl (by simp)
 refine W1F ?_
 refine b9 [] _ (AH [0,1,0] (by decide)) rfl rfl (Lm _) rfl fun c L1 hc=>?_
 subst hc
 refine aE (bP (List.sublist_append_right ..)) ?_
 repeat' (first|fail)
 refine b9 [ct] [] (AC.args (Gm (eh E) hA [0,1] [] (fk [0,1,0]) (by decide)) (a:=[.iptr (eh E),.imm 1 (aQ [0,1]),.sc (.slice none 0 0),.imm 6 ((fk [0,1,0]).map bS)]) ⟨c6.refl _,c6.refl _,c6.nil 1,c6.refl _,trivial⟩) rfl rfl (Lm _) rfl fun c L1 ⟨hc,hL⟩=>?_
 subst hc;subst hL
 repeat' (first|refine bQ a5 ?_|fail)
 refine b9 [] _ (xu _ [3,0] (by decide)) rfl rfl (Lm _) rfl fun c L1 hc=>?_
 subst hc
 rw [Bz]
 refine aE (bP (List.sublist_append_right ..)) ?_
 refine W0c ?_
 exact LM KZ ⟨rfl,rfl⟩
def zm (m k:Nat):List Int:=(List.range k).map fun (j:Nat)=>if j=m then (1:Int) else 0
def Gk (m k:Nat):List Int:=(List.range k).map fun (j:Nat)=>if (m:Int) - 1≤(j:Int) then (1:Int) else 0
def JE (m:Nat):Bool:=decide ((dh kW Gj 0 (fk (zm m (m+1))) []).map aR.Glyph=List.replicate (m+1) 1) && decide ((dh kW Gj 1 (fk (zm m (m+1))) []).map aR.Glyph=Gk m (m+1))
def nF (x:aR):List Int:=[x.Glyph,x.Cluster,x.Form,x.Advance,x.X,x.Y]
theorem sY {a b:aR} (h:nF a=nF b):a=b:=by
 cases a;cases b
 simpa [nF] using h
instance:DecidableEq aR:=fun a b=>decidable_of_iff (nF a=nF b) ⟨sY,fun h=>by rw [h]⟩
theorem AG:yj Tryz.prog 67 6:=⟨⟨_,Tryz.underlying67,rfl,⟨by decide,rfl,Tryz.underlying3⟩,⟨by decide,rfl,Tryz.underlying3⟩,⟨by decide,rfl,Tryz.underlying3⟩,⟨by decide,rfl,Tryz.underlying3⟩,⟨by decide,rfl,Tryz.underlying3⟩,⟨by decide,rfl,Tryz.underlying3⟩,trivial⟩,by kernel_rfl,by kernel_rfl⟩
theorem Er (a b:List aR) (ha:a.length≤1000000):c5 Tryz.prog 17 [.imm 6 (a.map bS),.imm 6 (b.map bS)] (eo (decide (a=b))):=by
 refine aS Tryz.func17 rfl Tryz.ntmps17 rfl fun B=>?_
 have hal:(a.map bS).length=a.length:=Lu ..
 have hbl:(b.map bS).length=b.length:=Lu ..
 refine W01 ?_
 refine ar rfl (fun h1=>?_) (fun h1=>?_)
 ·have hne:¬a.length=b.length:=by have:=Lz h1;omega
  rw [decide_eq_false (fun e:a=b=>hne (by rw [e]))]
  refine W07 ?_
  exact LN LA
 ·have heq:a.length=b.length:=by have:=Ly h1;omega
  clear h1
  refine W0x ?_
  refine aN [0,1] (α:=Nat) (fun i=>[(5,aI i)]) (fun i=>i≤a.length∧a.take i=b.take i) (fun _=>[]) (fun i=>a.length - i) 0 rfl ⟨rfl,trivial⟩ ⟨Nat.zero_le _,rfl⟩ (fun _ _ h=>h) ?_
  rintro i ⟨hi,hti⟩
  try dsimp only [Lr,Lq,Lp,Li]
  refine W01 ?_
  refine ar rfl (fun h1=>?_) (fun h1=>?_)
  ·have hi2:i < a.length:=by have:=Lz h1;omega
   obtain ⟨g,hg⟩:∃z,a[i]?=some z:=⟨_,Iy hi2⟩
   obtain ⟨x,hx⟩:∃z,b[i]?=some z:=⟨_,Iy (by omega)⟩
   have hgg:(a.map bS)[i]?=some (bS g):=by simp [hg]
   have hxg:(b.map bS)[i]?=some (bS x):=by simp [hx]
   clear h1
   refine W0K ?_
   refine bz 8 [(0,.v),(1,.v),(2,.v),(3,.v),(4,.v),(5,.v),(6,.v),(7,.v)] none ?_ trivial rfl (by kernel_rfl) (by kernel_rfl) (by kernel_rfl) bX (by kernel_rfl) rfl
   refine W18 ?_
   refine LQ [0,1,5,20,24] KZ ?_
   refine ci (HA (a:=nF g) (b:=nF x) AG rfl rfl rfl rfl) rfl rfl ?_
   refine W1y ?_
   refine ar rfl (fun h1=>?_) (fun h1=>?_)
   ·have hne:¬nF g=nF x:=by
     intro e
     rw [decide_eq_true e] at h1
     cases h1
    rw [decide_eq_false (fun e:a=b=>hne (by rw [e,hx] at hg;cases hg;rfl))]
    refine W09 ?_
    exact LN LA
   ·have hgx:g=x:=by
     refine sY (Classical.byContradiction fun e=>?_)
     rw [decide_eq_false e] at h1
     cases h1
    refine W06 ?_
    exact aC (i+1) rfl ⟨by rw [Lv];rfl,trivial⟩ ⟨hi2,by rw [List.take_add_one,List.take_add_one,hti,hg,hx,hgx]⟩ (by omega) (fun _ _ h=>h)
  ·have hi2:i=a.length:=by have:=Ly h1;omega
   subst hi2
   rw [List.take_length,heq,List.take_length] at hti
   rw [decide_eq_true hti]
   refine W02 ?_
   exact LN LA
def FU (v:Int):Int:=bits .and .i64 v 65535
def I0 (g:Int) (i:Nat) (v:Int):aR:=⟨(FU v).tmod (max g 1+1),i,(IntKind.wrap .i64 ((FU v).tdiv 16)).tmod 5,IntKind.wrap .i64 ((FU v).tdiv 7),0,0⟩
def jv (g:Int):Nat→List Int→List aR
 | _,[]=>[]
 | i,v::l=>I0 g i v::jv g (i+1) l
def vN (g:Int) (l:List Int):List aR:=jv g 0 (l.take 60)
theorem qZ (g:Int):∀(l:List Int) (i:Nat) (v:Int),jv g i (l++[v])=jv g i l++[I0 g (i+l.length) v]
 | [],i,v=>rfl
 | x::l,i,v=>by
  rw [Lr,jv,qZ g l (i+1) v,jv,Lr,List.length_cons,show i+1+l.length=i+(l.length+1) by omega]
theorem oL (g:Int):∀(l:List Int) (i:Nat),(jv g i l).length=l.length
 | [],_=>rfl
 | x::l,i=>by rw [jv,List.length_cons,oL g l,List.length_cons]
theorem Dt (l:List Int) (g:Int) (hg:0≤g∧g≤1000000000):c5 Tryz.prog 16 [.imm 1 (aQ l),aI g] (.imm 6 ((vN g l).map bS)):=by
 refine aS Tryz.func16 rfl Tryz.ntmps16 rfl fun B=>?_
 refine cW 0 rfl rfl fun hl=>?_
 have hil:=aX l
 repeat' (first|refine a9 ?_|refine a4 ?_|refine ai ?_|refine a6 ?_|refine a7 ?_|refine LG a5 KZ ?_|(apply aU;refine aT ?_)|refine nP (n:=0) a5 fun _=>?_|fail)
 refine aN [0,6] (α:=Nat×Option (Nat×Nat)) (fun s=>[(7,aI s.1),(5,.vec s.2 6 ((jv g 0 (l.take s.1)).map bS))]) (fun s=>s.1≤l.length∧s.1≤60) (fun s=>tok s.2 67 6 s.1) (fun s=>l.length - s.1) (0,some (_,0)) rfl ⟨rfl,rfl,trivial⟩ ⟨Nat.zero_le _,Nat.zero_le _⟩ (fun _ _ h=>h) ?_
 rintro ⟨i,q⟩ ⟨hi,hi60⟩
 dsimp only at hi hi60 ⊢
 try dsimp only [Lr,Lq,Lp,Li]
 refine W0k ?_
 refine ce [0,5,6,7] (i < l.length∧i < 60) rfl (fun Q' K=>?_) (fun hC=>?_) (fun hC=>?_)
 ·repeat' (first|refine a7 ?_|refine LG a5 KZ ?_|refine LO KZ ?_|refine LP LB ?_|refine LR LA (fun _=>?_) (fun _=>?_))
  all_goals exact K _ _ rfl rfl (by simp_all <;> omega)
 ·obtain ⟨v,hv⟩:∃z,l[i]?=some z:=⟨_,Iy hC.1⟩
  have hgg:=bW hv
  refine W0N ?_
  refine oP rfl rfl rfl ?_
  rw [show bits .and .i64 v 65535=FU v from rfl]
  refine W1a ?_
  refine ci (yu rfl rfl (by omega)) rfl rfl ?_
  repeat' (first|refine LG a5 KZ ?_)
  refine ci (yt rfl rfl (by decide)) rfl rfl ?_
  repeat' (first|fail)
  refine ci (yu rfl rfl (by decide)) rfl rfl ?_
  repeat' (first|refine LG a5 KZ ?_)
  refine ci (yt rfl rfl (by decide)) rfl rfl ?_
  have hml:((jv g 0 (l.take i)).map bS).length=i:=by rw [Lu,oL,List.length_take];omega
  have hsn:(jv g 0 (l.take i)).map bS++[bS (I0 g i v)]=(jv g 0 (l.take (i+1))).map bS:=by
   rw [List.take_add_one,hv]
   show _=(jv g 0 (l.take i++[v])).map bS
   rw [qZ,List.map_append,List.length_take,Nat.min_eq_left (by omega),Nat.zero_add]
   rfl
  generalize (jv g 0 (l.take i)).map bS=A0 at *
  repeat' (first|refine LG a5 KZ ?_|refine bQ a5 ?_|fail)
  refine bE a5 [] rfl rfl rfl rfl (by rw [hml,List.append_nil]) (by rw [hml];simp;omega) (by rw [hml];simp;omega) rfl fun q'=>?_
  refine W05 ?_
  refine aC (i+1,q') rfl ⟨by rw [Lv];rfl,by dsimp only;rw [←hsn];rfl,trivial⟩ ⟨hC.1,hC.2⟩ (by dsimp only;omega) (fun _ _ h=>?_)
  rw [List.length_append,hml,List.append_nil] at h
  exact h
 ·have hw:l.take i=l.take 60:=by
   rcases Nat.lt_or_ge i 60 with h | h
   ·have:i=l.length:=by omega
    rw [List.take_of_length_le (by omega),List.take_of_length_le (by omega)]
   ·rw [show i=60 by omega]
  refine W02 ?_
  refine bc (bA (t:=4) (c':= .imm 6 ((vN g l).map bS)) rfl fun σ v h=>?_) ?_
  ·have h':=VR.im h
   rw [hw] at h'
   exact h'
  refine dc (List.nil_sublist _) ?_
  exact LN LA
end Go.Proofs.YtpmdfoaadejmkaaGreatDoor
namespace Go.Proofs.YtpmdfoaadejmkaaGreatDoor
structure MS where
 a:Nat
 lo:Fin 3
abbrev DM (α:Type):=MS→α×MS
section
variable {α β:Type}
def ret (x:α):DM α:=fun m=>(x,m)
def cg (g:DM α) (k:α→DM β):DM β:=fun m=>k (g m).1 (g m).2
def iq (g:Nat→β→DM β) (b:β):Nat→DM β
 | 0=>ret b
 | k+1=>cg (iq g b k) (g k)
end
def tO (s:List Int) (a:Nat) (n:Int):Int:=match s[a]? with
 | some x=>x % n
 | none=>0
def dr (s:List Int) (n:Int):DM Int:=fun m=>(tO s m.a n,{ m with a:=m.a+1 })
def J8:DM Unit:=fun m=>((),{ m with lo:=⟨m.lo.val - 1,Nat.lt_of_le_of_lt (Nat.sub_le ..) m.lo.isLt⟩ })
def il (z:Fin 3):DM Unit:=fun m=>((),{ m with lo:=z })
def ra:DM Int:=fun m=>((m.lo.val:Int),m)
section
variable (s:List Int)
def Ha (p:Nat):DM f3:=cg (dr s 21) fun x=>cg (dr s 21) fun y=>if p=0 then ret ⟨x * 50 - 100,y * 50 - 200,true⟩ else cg (dr s 4) fun z=>ret ⟨x * 50 - 100,y * 50 - 200,decide (0 < z)⟩
def oU (l:List f3) (k:Nat):DM (List f3):=iq (fun p l=>cg (Ha s p) fun t=>ret (l++[t])) l k
def iF (n:Nat):DM (List f3×List Int):=iq (fun _ o=>cg (dr s 4) fun k=>cg (oU s o.1 (2+k).toNat) fun l=>ret (l,o.2++[(l.length:Int) - 1])) ([],[]) n
def ka:DM (List f3×List Int):=cg (dr s 3) fun n=>iF s n.toNat
def hH (q:Int):DM (List gx):=ret [⟨39,0⟩,⟨1,16⟩,⟨17,0⟩,⟨36,2⟩,⟨1,q⟩,⟨2,0⟩]
def cH (n funcs:Int):DM (List gx):=cg (dr s (n+1)) fun p=>cg (dr s (n+1)) fun q=>cg (dr s 2) fun a=>cg (dr s 12) fun k=>
 if k=0 then ret [⟨22,a⟩,⟨23,a⟩]
 else if k=1 then cg (dr s 6) fun z=>ret [⟨24,z⟩]
 else if k=2∨k=3 then ret [⟨1,p⟩,⟨1,p⟩,⟨29,0⟩,⟨15,0⟩,⟨32,0⟩]
 else if k=4 then cg (dr s 200) fun z=>ret [⟨1,p⟩,⟨1,z - 100⟩,⟨31,0⟩]
 else if k=5 then ret [⟨1,p⟩,⟨1,q⟩,⟨33,0⟩]
 else if k=6 then ret [⟨34,a⟩]
 else if k=7 then ret [⟨1,a⟩,⟨1,q⟩,⟨25,0⟩,⟨1,3⟩,⟨5,0⟩,⟨26,0⟩]
 else if k=8 then (if 0 < funcs then cg (dr s funcs) fun z=>ret [⟨37,z⟩] else hH q)
 else if k=9 then (if 0 < funcs then cg ra fun lo=>if 0 < lo then cg J8 fun _=>cg (dr s 5) fun y=>cg (dr s funcs) fun z=>ret [⟨1,y⟩,⟨38,z⟩] else hH q else hH q)
 else if k=10 then ret [⟨1,p⟩,⟨30,0⟩,⟨1,q⟩,⟨29,0⟩,⟨16,0⟩,⟨36,3⟩,⟨1,q⟩,⟨1,64⟩,⟨31,0⟩]
 else hH q
def fP (n funcs:Int) (k:Nat):DM (List gx):=iq (fun _ l=>cg (cH s n funcs) fun p=>ret (l++p)) [] k
def nE (n funcs most:Int):DM (List gx):=cg (dr s most) fun k=>fP s n funcs k.toNat
def fE (a:Int) (k:Nat):DM (List Int):=iq (fun j l=>if l.length < 4 then cg (dr s 3) fun z=>ret (if z=0 then l++[a+1+j] else l) else ret l) [a] k
def o0 (n:Int):DM (List Int):=cg (dr s n) fun a=>fE s a (n - (a+1)).toNat
def iG (n:Int) (k:Nat):DM (List (List Int)):=iq (fun _ l=>cg (o0 s n) fun x=>ret (l++[x])) [] k
def pP (n most:Int):DM (List (List Int)):=cg (dr s (most+1)) fun k=>iG s n k.toNat
def gz (n:Int) (k:Nat):DM (List Int):=iq (fun _ l=>cg (dr s n) fun x=>ret (l++[x])) [] k
def fz (n:Int) (calls:List Int) (k:Nat):DM (List gO):=iq (fun _ l=>cg (dr s n) fun a=>cg (dr s calls.length) fun z=>ret (l++[⟨a,calls.getD z.toNat 0⟩])) [] k
def H9 (n:Int) (a:List Int):DM b8:=cg (o0 s n) fun b=>cg (dr s 41) fun x=>ret ⟨[],[a,b],[],[],[],x * 10 - 200⟩
def jG (n:Int):DM (List (List Int)×List (List Int)):=cg (dr s 2) fun z=>if z=0 then cg (pP s n 2) fun b=>cg (pP s n 2) fun c=>ret (b,c) else ret ([],[])
def gR (n kind:Int) (calls:List Int):DM b8:=cg (o0 s n) fun a=>if kind=6 then H9 s n a else cg (jG s n) fun e=>
 if kind=1∨kind=5 then cg (gz s n a.length) fun o=>ret ⟨e.1,[a],e.2,o,[],0⟩
 else if kind=2 then cg (dr s 4) fun k=>cg (gz s n k.toNat) fun o=>ret ⟨e.1,[a],e.2,o,[],0⟩
 else if kind=3 then cg (pP s n 2) fun m=>cg (dr s n) fun o=>ret ⟨e.1,a::m,e.2,[o],[],0⟩
 else cg (pP s n 2) fun m=>cg (dr s 3) fun k=>cg (fz s (a::m).length calls (if calls.length=0 then 0 else k.toNat)) fun c=>ret ⟨e.1,a::m,e.2,[],c,0⟩
def fT:List Int:=[1,2,3,4,4,5,6,7,8,1]
def eJ (k:Nat):DM (List aO×List Int):=iq (fun i o=>cg (dr s 10) fun z=>cg (dr s 3) fun y=>ret (o.1++[⟨fT.getD z.toNat 0,decide (y=0),[]⟩],if fT.getD z.toNat 0≤4 then o.2++[(i:Int)] else o.2)) ([],[]) k
def fp (n kind:Int) (calls:List Int) (k:Nat):DM (List b8):=iq (fun _ l=>cg (gR s n kind calls) fun r=>ret (l++[r])) [] k
def fB (n:Int) (calls:List Int) (l:List aO) (k:Nat):DM (List aO):=iq (fun i l=>match l[i]? with
 | none=>ret l
 | some q=>if q.Kind≥7 then ret l else cg (dr s 3) fun k=>cg (fp s n q.Kind calls (1+k).toNat) fun rs=>ret (l.set i { q with Rules:=rs })) l k
def ij (n:Int):DM (List aO):=cg (dr s 7) fun k=>cg (eJ s k.toNat) fun o=>fB s n o.2 o.1 k.toNat
def bytes (l:List UInt8):ByteArray:=⟨l.toArray⟩
def jE (p:List UInt8) (n:Nat):ByteArray:=bytes (p++[(97+n).toUInt8])
def Ko:List UInt8:=[103]
def vf:List UInt8:=[97,120]
def E3:ByteArray:=bytes [46,110,111,116,100,101,102]
def cN (n:Nat):ByteArray:=if n=0 then E3 else jE Ko n
def jd (n:Nat):DM (List dX):=if 1 < n then cg (dr s 4) fun z=>if z=0 then cg (dr s 9) fun x=>cg (dr s 5) fun y=>ret [⟨1,x * 50 - 200,y * 50⟩] else ret [] else ret []
def gC (cl:Int):List (Int×Int):=[(1,0),(1,1),(3,0),(4,0),(2,cl)]
def f7 (mark:Bool) (cl:Int) (k:Nat):DM (List dE):=iq (fun i l=>cg (dr s 3) fun z=>if z=0∧(((gC cl).getD i (0,0)).1≠2∨mark=true) then cg (dr s 21) fun x=>cg (dr s 21) fun y=>ret (l++[⟨((gC cl).getD i (0,0)).1,((gC cl).getD i (0,0)).2,x * 50,y * 50 - 200⟩]) else ret l) [] k
def iw (r:Nat) (l:List dO) (k:Nat):DM (List dO):=iq (fun p l=>cg (dr s 3) fun z=>if z=0 then cg (dr s 41) fun x=>if p=0 then ret (l++[⟨r,-1,x - 20,0⟩]) else cg (dr s 41) fun y=>ret (l++[⟨r,(p:Int) - 1,x - 20,y - 20⟩]) else ret l) l k
def gE (pts:Nat) (R:Nat):DM (List dO):=iq (fun r l=>iw s r l (pts+1)) [] R
def kR (R fn n:Nat):DM bi:=cg (dr s 19) fun ad=>cg (dr s 4) fun mk=>cg (ka s) fun o=>cg (jd s n) fun ps=>cg (dr s 2) fun cl=>cg (f7 s (decide (mk=0) && decide (n≠0)) cl 5) fun an=>cg (gE s o.1.length R) fun de=>cg (il 2) fun _=>cg (nE s o.1.length fn 6) fun h=>ret ⟨cN n,100+ad * 50,decide (mk=0) && decide (n≠0),o.1,o.2,ps,an,de,h⟩
def gF (R fn k:Nat):DM (List bi):=iq (fun i l=>cg (kR s R fn i) fun g=>ret (l++[g])) [] k
def ly (k:Nat):DM (List eR):=iq (fun i l=>cg (dr s 3) fun a=>cg (dr s 4) fun b=>ret (l++[⟨jE vf i,0 - a * 100,0,b * 100⟩])) [] k
def l9:List fq:=[⟨0,64,64⟩,⟨0,32,64⟩,⟨-64,-64,0⟩,⟨-1,0,5⟩,⟨10,32,50⟩]
def iB (k:Nat):DM (List fq):=iq (fun _ l=>cg (dr s 5) fun z=>ret (l++[l9.getD z.toNat ⟨0,0,0⟩])) [] k
def lh (axes k:Nat):DM (List (List fq)):=iq (fun _ l=>cg (iB s axes) fun r=>ret (l++[r])) [] k
def fW (axes:Nat):DM (List (List fq)):=if axes=0 then ret [] else cg (dr s 4) fun n=>lh s axes n.toNat
def j4 (k:Nat):DM (List (List gx)):=iq (fun i l=>cg (il 0) fun _=>cg (nE s 6 i 4) fun h=>ret (l++[h])) [] k
def qN (k:Nat):DM (List Int):=iq (fun _ l=>cg (dr s 500) fun z=>ret (l++[z - 100])) [] k
def ge:List Int:=[97,98,99,102,105,108,57345,57346,57601,57602,57603,57857,57861,58113,58114,58369]
def iv (n:Int) (k:Nat):DM (List gB):=iq (fun i l=>cg (dr s 4) fun z=>if 0 < z then cg (dr s n) fun g=>ret (l++[⟨ge.getD i 0,g⟩]) else ret l) [] k
def gc:List ByteArray:=[bytes [108,105,103,97],bytes [105,115,111,108],bytes [105,110,105,116],bytes [109,101,100,105],bytes [102,105,110,97],bytes [107,101,114,110],bytes [109,97,114,107],bytes [99,97,108,116]]
def oy (k:Nat):DM (List Int):=iq (fun i l=>cg (dr s 3) fun z=>ret (if z=0 then l++[(i:Int)] else l)) [] k
def ix (n:Nat) (k:Nat):DM (List c9):=iq (fun i l=>cg (oy s n) fun r=>cg (dr s 2) fun z=>ret (if z=0 then l++[⟨gc.getD i ByteArray.empty,r⟩] else l)) [] k
def n7:List Int:=[1000,1024,100,2048]
def DF:DM aY:=cg (dr s 4) fun u=>cg (dr s 3) fun k=>cg (ly s k.toNat) fun ax=>cg (fW s k.toNat) fun rg=>cg (dr s 3) fun k2=>cg (j4 s k2.toNat) fun fu=>cg (dr s 4) fun k3=>cg (qN s k3.toNat) fun cv=>cg (dr s 9) fun k4=>cg (gF s rg.length fu.length (2+k4).toNat) fun gl=>cg (iv s gl.length 16) fun ch=>cg (ij s gl.length) fun lk=>cg (ix s lk.length 8) fun ft=>ret ⟨n7.getD u.toNat 0,gl,ch,lk,ft,ax,rg,fu,cv⟩
def pv:aY:=(DF s ⟨0,0⟩).1
def Ju:List Int:=ge++[122]
def Ky:List Int:=(s.take 20).map fun z=>Ju.getD (z % 17).toNat 0
end
end Go.Proofs.YtpmdfoaadejmkaaGreatDoor
namespace Go.Proofs.YtpmdfoaadejmkaaGreatDoor
open Go.RowKit
attribute [local irreducible] AT br AX AO Av Kt b7 dm DA cA
structure MF where
 u:AV
 gl:AV
 ch:AV
 lk:AV
 ft:AV
 ax:AV
 rg:AV
 fu:AV
 cv:AV
def Jg (s:List Int) (F:MF) (m:MS):List AV:=[.imm 1 (aQ s),aI (min m.a s.length:Nat),F.u,F.gl,F.ch,F.lk,F.ft,F.ax,F.rg,F.fu,F.cv,aI (m.lo.val:Nat)]
abbrev dA (b:Nat) (s:List Int) (F:MF) (m:MS):Nat×AB:=(b,.box (Jg s F m) 177)
def wE (f:FuncId) (args:List AV) (s:List Int) (F:MF) {α:Type} (u:DM α) (out:α→AV):Prop:=∀(b:Nat) (m:MS),AC Tryz.prog f (yk b::args) [dA b s F m] fun c L=>c=out (u m).1∧L=[dA b s F (u m).2]
theorem Gi {x n:Int} (hn:0 < n):(x.tmod n+n).tmod n=x % n:=by
 have h0:=Int.lt_tmod_of_pos x hn
 rw [Int.tmod_eq_emod_of_nonneg (by omega),Int.add_emod_right]
 have h2:(x.tmod n) % n=(x - n * x.tdiv n) % n:=by rw [Int.tmod_def]
 rw [h2,Int.sub_mul_emod_self_left]
set_option maxHeartbeats 1000000 in
theorem oR (s:List Int) (hs:s.length≤1000000) (F:MF) (n:Int) (hn:0 < n∧n≤1000000):wE 89 [aI n] s F (dr s n) aI:=by
 intro b m
 refine aS Tryz.func89 rfl Tryz.ntmps89 rfl fun B=>?_
 have hil:=aX s
 unfold dA
 refine W01 ?_
 refine bz 9 [(0,.v),(1,.v),(2,.v),(3,.l),(4,.v),(5,.v),(6,.v),(7,.l),(8,.v)] none ?_ trivial rfl (by kernel_rfl) (by kernel_rfl) (by kernel_rfl) bX (by kernel_rfl) rfl
 refine W0t ?_
 refine LQ [0,1,9,14] KZ ?_
 refine W0r ?_
 refine ar rfl (fun h=>?_) (fun h=>?_)
 ·have h1:s.length≤min m.a s.length:=by have:=Lz h;rw [hil] at this;omega
  refine W07 ?_
  refine LM KZ ⟨?_,?_⟩
  ·unfold dr tO
   rw [List.getElem?_eq_none (show s.length≤m.a by omega)]
  ·unfold dr Jg
   rw [show min m.a s.length=min (m.a+1) s.length by omega]
 have h1:m.a < s.length:=by have:=Ly h;rw [hil] at this;omega
 have h2:min m.a s.length=m.a:=by omega
 obtain ⟨x,hx⟩:∃x,s[m.a]?=some x:=⟨_,Iy h1⟩
 have hxg:=bW hx
 unfold Jg
 rw [h2]
 refine W27 ?_
 refine bz 8 [(0,.v),(1,.v),(2,.v),(3,.l),(4,.v),(5,.v),(6,.v),(7,.l)] none ?_ trivial rfl (by kernel_rfl) (by kernel_rfl) (by kernel_rfl) bX (by kernel_rfl) rfl
 refine W0t ?_
 refine LQ [0,1,19,23] KZ ?_
 repeat' (first|refine a9 ?_|refine a4 ?_|refine a6 ?_|refine a7 ?_|refine LG a5 KZ ?_|(apply bq;first|refine LJ a5 0 LC ?_|refine LJ a5 1 LC ?_|refine LJ a5 2 LC ?_|refine LJ a5 3 LC ?_|refine LK a5 0 LC ?_|refine LK a5 1 LC ?_|refine LK a5 2 LC ?_|refine LL a5 1 LA (by assumption) rfl ?_|refine LL a5 0 LA (by assumption) rfl ?_|fail)|(apply aU;refine aT ?_)|(apply aL;first|refine aJ a5 ?_|refine aF a5 ?_)|(apply aM;first|refine LH a5 0 LE ?_|refine LH a5 1 LE ?_|refine LH a5 2 LE ?_|refine LH a5 3 LE ?_|fail))
 refine H4 ?_
 repeat' (first|refine LG a5 KZ ?_)
 have hb:=Int.lt_tmod_of_pos x hn.1
 have hb2:=Int.tmod_lt_of_pos x hn.1
 refine aT ?_
 repeat' (first|refine LG a5 KZ ?_)
 refine H4 ?_
 refine W0c ?_
 refine LM KZ ⟨?_,?_⟩
 ·unfold dr tO
  rw [hx,Gi hn.1]
 ·unfold dr
  dsimp only
  rw [show min (m.a+1) s.length=m.a+1 by omega]
  rfl
section
variable {r:Option Nat} {ops:Array Oper} {Q:Exit→Act→World→Prop} {nt:Nat} {D:List Deferred} {fr:bT} {B:Bs} {rest:List Oper} {d:Nat} {ty:TypeId} {pos:String} {af:Array Edge} {s:List Int} {F:MF} {b:Nat} {m:MS} {Z:AL} {args:Array Operand} {ts:Array TypeId}
theorem G6 {f:FuncId} [bD Tryz.prog f] {α:Type} {u:DM α} {out:α→AV} {az ds:List AV} (hc:wE f az s F u out) (h:br Tryz.prog r ops Q nt D rest ((d,out (u m).1)::fr) B (dA b s F (u m).2::Z)) (hv:dy fr args.toList=some ds:=by rfl) (hi:gN ds=some (yk b::az):=by rfl) (hd:Nat.ble nt d=false:=by rfl):br Tryz.prog r ops Q nt D (⟨some d,.call ⟨.value (.func f),args,ts⟩,ty,pos,af,none⟩::rest) fr B (dA b s F m::Z):=
 b9 [dA b s F m] Z (hc b m) hv hi (Lm _) hd fun c L1 ⟨h1,h2⟩=>by subst h1;subst h2;exact h
theorem cF {n:Int} (h:br Tryz.prog r ops Q nt D rest ((d,aI (dr s n m).1)::fr) B (dA b s F (dr s n m).2::Z)) (hv:dy fr args.toList=some [yk b,aI n]:=by rfl) (hs:s.length≤1000000:=by assumption) (hn:0 < n∧n≤1000000:=by omega) (hd:Nat.ble nt d=false:=by rfl):br Tryz.prog r ops Q nt D (⟨some d,.call ⟨.value (.func 89),args,ts⟩,ty,pos,af,none⟩::rest) fr B (dA b s F m::Z):=
 G6 (oR s hs F n hn) h hv rfl hd
end
section
variable {l:List Oper} {fr:bT} {fin:iR} {sk:m6} {acc:bT} {k:Nat} {dd:Option Tmp} {ty:TypeId} {pos:String} {af:Array Edge} {g:Option (Nat×Bool)} {s:List Int} {F:MF} {b:Nat} {m:MS} {Z:AL} {args:Array Operand} {ts:Array TypeId}
theorem c8 {L:AL}:eC [] L:=fun q hq=>by cases hq
theorem bL {q:Nat×Nat×AV} {gs:KpL} {L:AL} (i:Nat) {cs:List AV} {e:TypeId} (hL:L[i]?=some (q.1,.box cs e)) (hc:cs[q.2.1]?=some q.2.2) (h:eC gs L):eC (.cell q::gs) L:=fun p hp=>by
 rcases List.mem_cons.1 hp with rfl | hp
 ·exact show ∃cs e,(q.1,AB.box cs e)∈L∧cs[q.2.1]?=some q.2.2 from ⟨cs,e,Lw hL,hc⟩
 ·exact h p hp
theorem JT {f:FuncId} [bD Tryz.prog f] {α:Type} {u:DM α} {out:α→AV} {az ds:List AV} (hc:wE f az s F u out) (h:DA Tryz.prog l fr fin sk ((k,out (u m).1)::acc) (dA b s F (u m).2::Z)) (hv:dy (cx l.toArray acc fr af.toList) args.toList=some ds:=by rfl) (hi:gN ds=some (yk b::az):=by rfl) (hg:it ⟨dd,.call ⟨.value (.func f),args,ts⟩,ty,pos,af,g⟩ acc:=by first | trivial | rfl):cA Tryz.prog l fr fin k .e ⟨dd,.call ⟨.value (.func f),args,ts⟩,ty,pos,af,g⟩ sk acc (dA b s F m::Z):=
 kG [dA b s F m] Z (hc b m) hv hi (Lm _) hg fun c L1 ⟨h1,h2⟩=>by subst h1;subst h2;exact h
theorem GY {f:FuncId} [bD Tryz.prog f] {α:Type} {u:DM α} {out:α→AV} {az ds:List AV} (hc:wE f az s F u out) (hK:eC fin.gs (dA b s F (u m).2::Z)) (h:DA Tryz.prog l fr fin sk ((k,out (u m).1)::acc) (dA b s F (u m).2::Z)) (hv:dy (cx l.toArray acc fr af.toList) args.toList=some ds:=by rfl) (hi:gN ds=some (yk b::az):=by rfl) (hg:it ⟨dd,.call ⟨.value (.func f),args,ts⟩,ty,pos,af,g⟩ acc:=by first | trivial | rfl):cA Tryz.prog l fr fin k .f ⟨dd,.call ⟨.value (.func f),args,ts⟩,ty,pos,af,g⟩ sk acc (dA b s F m::Z):=
 yH [dA b s F m] Z (hc b m) hv hi (Lm _) hg (fun c L1 ⟨_,h2⟩ _=>by subst h2;exact hK) fun c L1 ⟨h1,h2⟩=>by subst h1;subst h2;exact h
theorem tL {n:Int} (h:DA Tryz.prog l fr fin sk ((k,aI (dr s n m).1)::acc) (dA b s F (dr s n m).2::Z)) (hv:dy (cx l.toArray acc fr af.toList) args.toList=some [yk b,aI n]:=by rfl) (hs:s.length≤1000000:=by assumption) (hn:0 < n∧n≤1000000:=by omega) (hg:it ⟨dd,.call ⟨.value (.func 89),args,ts⟩,ty,pos,af,g⟩ acc:=by first | trivial | rfl):cA Tryz.prog l fr fin k .e ⟨dd,.call ⟨.value (.func 89),args,ts⟩,ty,pos,af,g⟩ sk acc (dA b s F m::Z):=
 JT (oR s hs F n hn) h hv rfl hg
theorem f4 {n:Int} (hK:eC fin.gs (dA b s F (dr s n m).2::Z)) (h:DA Tryz.prog l fr fin sk ((k,aI (dr s n m).1)::acc) (dA b s F (dr s n m).2::Z)) (hv:dy (cx l.toArray acc fr af.toList) args.toList=some [yk b,aI n]:=by rfl) (hs:s.length≤1000000:=by assumption) (hn:0 < n∧n≤1000000:=by omega) (hg:it ⟨dd,.call ⟨.value (.func 89),args,ts⟩,ty,pos,af,g⟩ acc:=by first | trivial | rfl):cA Tryz.prog l fr fin k .f ⟨dd,.call ⟨.value (.func 89),args,ts⟩,ty,pos,af,g⟩ sk acc (dA b s F m::Z):=
 GY (oR s hs F n hn) hK h hv rfl hg
end
end Go.Proofs.YtpmdfoaadejmkaaGreatDoor
namespace Go.Proofs.YtpmdfoaadejmkaaGreatDoor
open Go.RowKit
attribute [local irreducible] AT br AX AO Av Kt b7 dm DA cA
variable (s:List Int) (hs:s.length≤1000000) (F:MF)
include hs
theorem cq (a:Nat) {n:Int} (hn:0 < n):0≤tO s a n∧tO s a n < n:=by
 have _:=hs
 clear hs
 unfold tO
 split
 ·rename_i x _
  exact ⟨Int.emod_nonneg x (by omega),Int.emod_lt_of_pos x hn⟩
 ·omega
def Jj (o:List f3×List Int):AV:= .agg [.imm 3 (o.1.map dL),.imm 1 (aQ o.2)]
def jR (l:List gx):AV:= .imm 2 (l.map fj)
set_option maxHeartbeats 8000000 in
theorem xU (n fn:Int) (hn:0≤n∧n≤10000) (hf:fn≤10000):wE 174 [aI n,aI fn] s F (cH s n fn) jR:=by
 intro b m
 refine aS Tryz.func174 rfl Tryz.ntmps174 rfl fun B=>?_
 refine W0L ?_
 refine cF ?_
 refine W0L ?_
 refine cF ?_
 refine W01 ?_
 refine cF ?_
 refine W01 ?_
 refine cF ?_
 generalize e1:dr s (n+1) m=p1
 generalize e2:dr s (n+1) p1.2=p2
 generalize e3:dr s 2 p2.2=p3
 have hk:=cq s hs p3.2.a (n:=12) (by omega)
 have hk:0≤(dr s 12 p3.2).1∧(dr s 12 p3.2).1 < 12:=hk
 generalize e4:dr s 12 p3.2=p4 at hk ⊢
 refine W04 ?_
 refine ar rfl (fun h=>?_) (fun h=>?_)
 ·have h:=Lz h
  refine W0Q ?_
  exact LM KZ ⟨by simp [cH,cg,ret,e1,e2,e3,e4,jR,fj,h],by simp [cH,cg,ret,e1,e2,e3,e4,h]⟩
 have h0:=Ly h
 clear h
 refine W01 ?_
 refine ar rfl (fun h=>?_) (fun h=>?_)
 ·have h:=Lz h
  refine W0k ?_
  refine cF ?_
  refine W1z ?_
  exact LM KZ ⟨by simp [cH,cg,ret,e1,e2,e3,e4,jR,fj,h],by simp [cH,cg,ret,e1,e2,e3,e4,h]⟩
 have h1:=Ly h
 clear h
 refine W01 ?_
 refine ar rfl (fun h=>?_) (fun h=>?_)
 ·have h:=Lz h
  rw [decide_eq_true h]
  repeat' (first|refine a9 ?_|refine a4 ?_|refine aj ?_|refine am ?_|refine a6 ?_|refine aB ?_|refine aV ?_|refine a7 ?_|refine LG a5 KZ ?_|refine bQ a5 ?_|refine bR rfl ?_)
  exact LM KZ ⟨by simp [cH,cg,ret,e1,e2,e3,e4,jR,fj,h],by simp [cH,cg,ret,e1,e2,e3,e4,h]⟩
 have h2:=Ly h
 clear h
 refine W1a ?_
 refine ar rfl (fun h=>?_) (fun h=>?_)
 ·have h:=Lz h
  refine W0Q ?_
  exact LM KZ ⟨by simp [cH,cg,ret,e1,e2,e3,e4,jR,fj,h],by simp [cH,cg,ret,e1,e2,e3,e4,h]⟩
 have h3:=Ly h
 clear h
 refine W01 ?_
 refine ar rfl (fun h=>?_) (fun h=>?_)
 ·have h:=Lz h
  refine W0k ?_
  refine cF ?_
  have hz:=cq s hs p4.2.a (n:=200) (by omega)
  have hz:0≤(dr s 200 p4.2).1∧(dr s 200 p4.2).1 < 200:=hz
  repeat' (first|refine am ?_|refine a6 ?_|refine aB ?_|refine aV ?_|refine a7 ?_|refine LG a5 KZ ?_|(apply aU;refine aT ?_)|refine bQ a5 ?_|fail)
  exact LM KZ ⟨by simp [cH,cg,ret,e1,e2,e3,e4,jR,fj,h],by simp [cH,cg,ret,e1,e2,e3,e4,h]⟩
 have h4:=Ly h
 clear h
 refine W01 ?_
 refine ar rfl (fun h=>?_) (fun h=>?_)
 ·have h:=Lz h
  refine W0Q ?_
  exact LM KZ ⟨by simp [cH,cg,ret,e1,e2,e3,e4,jR,fj,h],by simp [cH,cg,ret,e1,e2,e3,e4,h]⟩
 have h5:=Ly h
 clear h
 refine W01 ?_
 refine ar rfl (fun h=>?_) (fun h=>?_)
 ·have h:=Lz h
  refine W0Q ?_
  exact LM KZ ⟨by simp [cH,cg,ret,e1,e2,e3,e4,jR,fj,h],by simp [cH,cg,ret,e1,e2,e3,e4,h]⟩
 have h6:=Ly h
 clear h
 refine W01 ?_
 refine ar rfl (fun h=>?_) (fun h=>?_)
 ·have h:=Lz h
  refine W0Q ?_
  exact LM KZ ⟨by simp [cH,cg,ret,e1,e2,e3,e4,jR,fj,h],by simp [cH,cg,ret,e1,e2,e3,e4,h]⟩
 have h7:=Ly h
 clear h
 refine W01 ?_
 refine ar rfl (fun h=>?_) (fun h=>?_)
 ·have h:=Lz h
  refine W01 ?_
  refine ar rfl (fun hf0=>?_) (fun hf0=>?_)
  ·have hf0:=Lz hf0
   refine W0k ?_
   refine cF ?_
   refine W1z ?_
   exact LM KZ ⟨by simp [cH,cg,ret,e1,e2,e3,e4,jR,fj,h,hf0],by simp [cH,cg,ret,e1,e2,e3,e4,h,hf0]⟩
  ·have hf0:=Ly hf0
   refine W1n ?_
   exact LM KZ ⟨by simp [cH,cg,ret,e1,e2,e3,e4,jR,fj,hH,h,hf0],by simp [cH,cg,ret,e1,e2,e3,e4,hH,h,hf0]⟩
 have h8:=Ly h
 clear h
 refine W01 ?_
 refine ar rfl (fun h=>?_) (fun h=>?_)
 ·have h:=Lz h
  by_cases hf0:0 < fn
  ·refine W0k ?_
   rw [decide_eq_true hf0]
   repeat' (first|refine a6 ?_|refine a7 ?_|refine LG a5 KZ ?_|refine LO KZ ?_|(apply bq;first|refine LJ a5 0 LC ?_|refine LJ a5 1 LC ?_|refine LJ a5 2 LC ?_|refine LJ a5 3 LC ?_|refine LK a5 0 LC ?_|refine LK a5 1 LC ?_|refine LK a5 2 LC ?_|refine LL a5 1 LA (by assumption) rfl ?_|refine LL a5 0 LA (by assumption) rfl ?_|fail)|fail)
   refine ar rfl (fun hl=>?_) (fun hl=>?_)
   ·have hl:=Lz hl
    repeat' (first|refine a9 ?_|refine a4 ?_|refine a6 ?_|refine a7 ?_|refine LG a5 KZ ?_|(apply bq;first|refine LJ a5 0 LC ?_|refine LJ a5 1 LC ?_|refine LJ a5 2 LC ?_|refine LJ a5 3 LC ?_|refine LK a5 0 LC ?_|refine LK a5 1 LC ?_|refine LK a5 2 LC ?_|refine LL a5 1 LA (by assumption) rfl ?_|refine LL a5 0 LA (by assumption) rfl ?_|fail)|(apply aU;refine aT ?_)|(apply aM;first|refine LH a5 0 LE ?_|refine LH a5 1 LE ?_|refine LH a5 2 LE ?_|refine LH a5 3 LE ?_|fail))
    have hlt:=p4.2.lo.isLt
    have hlz:0 < p4.2.lo.val:=by omega
    have hcell:((p4.2.lo.val:Nat):Int) - 1=((p4.2.lo.val - 1:Nat):Int):=by omega
    rw [hcell]
    change br _ _ _ _ _ _ _ _ _ [dA b s F (J8 p4.2).2]
    repeat' (first|fail)
    refine cF ?_
    repeat' (first|refine LG a5 KZ ?_)
    refine cF ?_
    refine W1z ?_
    exact LM KZ ⟨by simp [cH,cg,ret,e1,e2,e3,e4,jR,fj,h,hf0,ra,hlz],by simp [cH,cg,ret,e1,e2,e3,e4,h,hf0,ra,hlz]⟩
   ·have hl:=Ly hl
    have hl0:p4.2.lo.val=0:=by omega
    refine W1n ?_
    exact LM KZ ⟨by simp [cH,cg,ret,e1,e2,e3,e4,jR,fj,hH,h,hf0,ra,hl0],by simp [cH,cg,ret,e1,e2,e3,e4,hH,h,hf0,ra,hl0]⟩
  ·refine W0k ?_
   rw [decide_eq_false hf0]
   repeat' (first|refine a9 ?_|refine a4 ?_|refine aj ?_|refine am ?_|refine a6 ?_|refine aK ?_|refine a7 ?_|refine LG a5 KZ ?_|refine LP LB ?_|refine bQ a5 ?_|refine bB rfl ?_)
   exact LM KZ ⟨by simp [cH,cg,ret,e1,e2,e3,e4,jR,fj,hH,h,hf0],by simp [cH,cg,ret,e1,e2,e3,e4,hH,h,hf0]⟩
 have h9:=Ly h
 clear h
 refine W01 ?_
 refine ar rfl (fun h=>?_) (fun h=>?_)
 ·have h:=Lz h
  refine W0Q ?_
  exact LM KZ ⟨by simp [cH,cg,ret,e1,e2,e3,e4,jR,fj,h],by simp [cH,cg,ret,e1,e2,e3,e4,h]⟩
 have h10:=Ly h
 clear h
 refine W1n ?_
 exact LM KZ ⟨by simp [cH,cg,ret,e1,e2,e3,e4,jR,fj,hH,h0,h1,h2,h3,h4,h5,h6,h7,h8,h9,h10],by simp [cH,cg,ret,e1,e2,e3,e4,hH,h0,h1,h2,h3,h4,h5,h6,h7,h8,h9,h10]⟩
end Go.Proofs.YtpmdfoaadejmkaaGreatDoor
